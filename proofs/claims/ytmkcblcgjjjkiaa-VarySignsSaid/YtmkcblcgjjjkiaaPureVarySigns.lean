/- A number with a sign comes back from the one without that stands for it, this is the one that the statement tells, and each number without a sign stands for one with; no condition. -/
import Derived.Test.YtmkcblcgjjjkiaaPVarySignsx1
namespace Go.Proofs.Ytmkcblcgjjjkiaa.Pure
open Go.RowKit Go.Proofs.Ytmkcblcgjjjkiaa.PVarySigns Go.Proofs.YtmkcblcgjjjkiaaW.PrintWords Go.Proofs.YtmkcblcgjjjkiaaW.PrintLast

theorem wrapU (n : Int) : IntKind.u64.wrap n = n % 18446744073709551616 := by simp [IntKind.wrap, IntKind.bits, IntKind.signed]
theorem wrapI (n : Int) : IntKind.i64.wrap n = (n + 9223372036854775808) % 18446744073709551616 - 9223372036854775808 := IntKind.wrap_i64 n
theorem toNat64 (x : Int) : (((BitVec.ofInt 64 x).toNat : Nat) : Int) = x % 18446744073709551616 := by
  rw [BitVec.toNat_ofInt]
  omega
theorem xor0 (k : IntKind) (hk : k.bits = 64) (x : Int) (hx : k.wrap (x % 18446744073709551616) = x) : Go.bits .xor k x 0 = x := by
  unfold Go.bits
  rw [hk]
  show k.wrap (((BitVec.ofInt 64 x ^^^ BitVec.ofInt 64 0).toNat : Nat) : Int) = x
  rw [show BitVec.ofInt 64 0 = 0#64 from rfl, BitVec.xor_zero, toNat64, hx]
theorem xor1 (k : IntKind) (hk : k.bits = 64) (x y : Int) (hy : BitVec.ofInt 64 y = BitVec.allOnes 64) : Go.bits .xor k x y = k.wrap (18446744073709551615 - x % 18446744073709551616) := by
  unfold Go.bits
  rw [hk]
  show k.wrap (((BitVec.ofInt 64 x ^^^ BitVec.ofInt 64 y).toNat : Nat) : Int) = _
  rw [hy, BitVec.xor_allOnes, BitVec.toNat_not]
  congr 1
  have h1 := toNat64 x
  have h2 := (BitVec.ofInt 64 x).isLt
  omega
theorem and1 (x : Int) : Go.bits .and .u64 x 1 = x % 2 := by
  unfold Go.bits
  show IntKind.u64.wrap (((BitVec.ofInt 64 x &&& BitVec.ofInt 64 1).toNat : Nat) : Int) = _
  rw [BitVec.toNat_and, show (BitVec.ofInt 64 1).toNat = 1 from rfl, Nat.and_one_is_mod, wrapU]
  have h2 := toNat64 x
  omega
/-- What Zig tells. -/
def zig (n : Int) : Int := if n < 0 then -2 * n - 1 else 2 * n
/-- What Zag tells. -/
def zag (u : Int) : Int := if u % 2 = 1 then -(u + 1) / 2 else u / 2
theorem zig_f (n : Int) (h0 : -9223372036854775808 ≤ n) (h1 : n ≤ 9223372036854775807) : vary_Zig.f n = some (zig n) := by
  unfold vary_Zig.f zig
  congr 1
  by_cases h : n < 0
  · rw [if_pos h, xor1 _ rfl _ _ (by rw [show n / 9223372036854775808 = -1 from by omega]; decide)]
    simp only [wrapU]
    omega
  · rw [if_neg h, show n / 9223372036854775808 = 0 from by omega, show IntKind.u64.wrap 0 = 0 from by decide, xor0 _ rfl _ (by simp only [wrapU]; omega)]
    simp only [wrapU]
    omega
theorem zag_f (u : Int) (h0 : 0 ≤ u) (h1 : u < 18446744073709551616) : vary_Zag.f u = some (zag u) := by
  unfold vary_Zag.f zag
  congr 1
  rw [and1 u]
  by_cases h : u % 2 = 1
  · rw [if_pos h, h, xor1 _ rfl _ _ (by decide +kernel), wrapI]
    unfold wrap64
    omega
  · have e : u % 2 = 0 := by omega
    rw [if_neg h, e, show wrap64 (-(wrap64 0)) = 0 from by decide +kernel, xor0 _ rfl _ (by rw [wrapI]; unfold wrap64; omega)]
    unfold wrap64
    omega
theorem w64 (n : Int) : wrap64 n = (n + 9223372036854775808) % 18446744073709551616 - 9223372036854775808 := by unfold wrap64; rfl
theorem e2 (n : Int) (h0 : 0 ≤ n) (h1 : n ≤ 9223372036854775807) : IntKind.u64.wrap ((IntKind.u64.wrap n) * 2) = 2 * n := by
  rw [wrapU, wrapU]; omega
theorem e1' (n a b c d : Int) (h0 : n < 0) (h1 : -9223372036854775808 ≤ n) (ha : a = (-(n+1) + 9223372036854775808) % 18446744073709551616 - 9223372036854775808) (hb : b = a % 18446744073709551616) (hc : c = b * 2 % 18446744073709551616) (hd : d = (c + 1) % 18446744073709551616) : d = -2 * n - 1 := by
  omega
theorem e1 (n : Int) (h0 : n < 0) (h1 : -9223372036854775808 ≤ n) : (IntKind.u64.wrap ((IntKind.u64.wrap ((IntKind.u64.wrap (wrap64 (-(wrap64 (n + 1))))) * 2)) + 1)) = -2 * n - 1 := by
  have a : wrap64 (n + 1) = n + 1 := by rw [w64]; omega
  rw [a]
  exact e1' n _ _ _ _ h0 h1 (w64 _) (wrapU _) (wrapU _) (wrapU _)
theorem fit_ev : flipbooklaw01_fit.f 20 = some true := by decide +kernel

theorem signs_f (k : Nat) (hk : flipbooklaw01_fit.f k = some true) (n u : Int) (wn : (Lit.int .i64 n).wf = true) (wu : (Lit.int .u64 u).wf = true) : flipbooklaw01_VarySigns.f k n u = some true := by
  have hn : -9223372036854775808 ≤ n ∧ n ≤ 9223372036854775807 := by simpa [Lit.wf, IntKind.min, IntKind.max, IntKind.bits, IntKind.signed] using wn
  have hu : 0 ≤ u ∧ u ≤ 18446744073709551615 := by simpa [Lit.wf, IntKind.min, IntKind.max, IntKind.bits, IntKind.signed] using wu
  have z1 : zag (zig n) = n := by unfold zag zig; split <;> split <;> omega
  have z2 : zig (zag u) = u := by unfold zag zig; split <;> split <;> omega
  have zb : 0 ≤ zig n ∧ zig n < 18446744073709551616 := by unfold zig; split <;> omega
  have zc : -9223372036854775808 ≤ zag u ∧ zag u ≤ 9223372036854775807 := by unfold zag; split <;> omega
  unfold flipbooklaw01_VarySigns.f
  rw [hk, Option.bind_some, if_pos rfl, zig_f n hn.1 hn.2, Option.bind_some]
  by_cases h : n < 0
  · rw [if_pos h, zag_f _ zb.1 zb.2, Option.bind_some, z1, if_pos rfl, if_pos (by rw [e1 n h hn.1]; unfold zig; rw [if_pos h]), zag_f u hu.1 (by omega), Option.bind_some, zig_f _ zc.1 zc.2, Option.bind_some, z2, beq_self_eq_true]
  · rw [if_neg h, zag_f _ zb.1 zb.2, Option.bind_some, z1, if_pos rfl, if_pos (by rw [e2 n (by omega) hn.2]; unfold zig; rw [if_neg h]), zag_f u hu.1 (by omega), Option.bind_some, zig_f _ zc.1 zc.2, Option.bind_some, z2, beq_self_eq_true]

theorem VarySigns : flipbooklaw01_VarySigns.Pure := fun n u wn wu => ⟨20, signs_f 20 fit_ev n u wn wu⟩

end Go.Proofs.Ytmkcblcgjjjkiaa.Pure
