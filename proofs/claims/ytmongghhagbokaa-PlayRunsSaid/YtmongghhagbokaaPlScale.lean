/- bits.Mul64, bits.Div64 of a number below 2 to the 64, and play.scale, as contracts. -/
import Derived.Test.YtmongghhagbokaaKit
import Derived.Test.YtmongghhagbokaaPlain
import Derived.Test.YtmongghhagbokaaMine
import Derived.Shelf.Bits.Mul64
namespace Go.Proofs.Ytmongghhagbokaa.PlScale
open Go.RowKit Go.Shelf Go.Proofs.Ytmongghhagbokaa.Kit Go.Proofs.Ytmongghhagbokaa.Plain Go.Proofs.Ytmongghhagbokaa.Mine Go.Proofs.YtmongghhagbokaaW.PrintWords Go.Proofs.YtmongghhagbokaaW.PrintLast Go.Proofs.YtmongghhagbokaaW.PrintMore
set_option linter.unusedVariables false
set_option linter.unusedSimpArgs false
def ren : Ren := ⟨fun | 264 => 38 | n => n, fun | 46 => 67 | 53 => 63 | n => n, fun n => n⟩
theorem lays : Lays.n264 Try.prog ren := by constructor <;> first | kernel_rfl | exact fun _ => rfl
theorem mul_c (x y : Nat) (hx : x < 18446744073709551616) (hy : y < 18446744073709551616) (w : World) :
    Calls Try.prog 38 #[.int .u64 x, .int .u64 y] w fun e w' => e = .returned (.tuple #[.int .u64 ((x * y / 18446744073709551616 : Nat) : Int), .int .u64 ((x * y % 18446744073709551616 : Nat) : Int)]) ∧ w' = w := Any.bits_Mul64 lays x y hx hy w
set_option maxHeartbeats 800000 in
set_option maxRecDepth 100000 in
theorem div_c (lo q : Nat) (hq : 1 ≤ q) (hq2 : q ≤ 1000) (hlo : lo < 18446744073709551616) (w : World) :
    Calls Try.prog 39 #[.int .u64 0, .int .u64 lo, .int .u64 q] w fun e w' => ∃ v, e = .returned (.tuple #[.int .u64 ((lo / q : Nat) : Int), v]) ∧ Below w.heap.size w w' := by
  have hq0 : ((q : Int) == 0) = false := beq_eq_false_iff_ne.mpr (by omega)
  have hq1 : (0 : Int) < q := by omega
  have HB := Aside0.mk (below_drew (Below.refl w.heap.size w))
  go_enter Try.func39, Try.ntmps39
  go_upto_region 6 with fail
  refine start_ (n := 8) (S := fun w' => True) (ds := []) #[false, false, false, false, false, false, false, false] (by kernel_rfl) rfl rfl trivial (fun hHeld => ?_)
  refine pure_ (i := 0) (N := some 28) (v := ?_) (a' := ?_) #[true, false, false, false, false, false, false, false] rfl rfl (by kernel_rfl) (fun _ _ _ h => h) (Or.inl ⟨by rfl, ?_⟩) ?_ ?_
  rotate_left
  · intro w'
    go_simp
    with_reducible rfl
  rotate_left
  · simp only [Act.put, List.setIfInBounds_toArray, List.set_cons_zero, List.set_cons_succ, i64_w, i32_w]
    rfl
  refine pure_ (i := 1) (N := some 29) (v := ?_) (a' := ?_) #[true, true, false, false, false, false, false, false] rfl rfl (by kernel_rfl) (fun _ _ _ h => h) (Or.inl ⟨by rfl, ?_⟩) ?_ ?_
  rotate_left
  · intro w'
    go_simp
    with_reducible rfl
  rotate_left
  · simp only [Act.put, List.setIfInBounds_toArray, List.set_cons_zero, List.set_cons_succ, i64_w, i32_w]
    rfl
  refine pure_ (i := 2) (N := some 30) (v := ?_) (a' := ?_) #[true, true, true, false, false, false, false, false] rfl rfl (by kernel_rfl) (fun _ _ _ h => h) (Or.inl ⟨by rfl, ?_⟩) ?_ ?_
  rotate_left
  · intro w'
    go_simp
    with_reducible rfl
  rotate_left
  · simp only [Act.put, List.setIfInBounds_toArray, List.set_cons_zero, List.set_cons_succ, i64_w, i32_w]
    rfl
  refine pure_ (i := 3) (N := some 31) (v := ?_) (a' := ?_) #[true, true, true, true, false, false, false, false] rfl rfl (by kernel_rfl) (fun _ _ _ h => h) (Or.inl ⟨by rfl, ?_⟩) ?_ ?_
  rotate_left
  · intro w'
    go_simp
    with_reducible rfl
  rotate_left
  · simp only [Act.put, List.setIfInBounds_toArray, List.set_cons_zero, List.set_cons_succ, i64_w, i32_w]
    rfl
  refine pure_ (i := 4) (N := some 32) (v := ?_) (a' := ?_) #[true, true, true, true, true, false, false, false] rfl rfl (by kernel_rfl) (fun _ _ _ h => h) (Or.inl ⟨by rfl, ?_⟩) ?_ ?_
  rotate_left
  · intro w'
    go_simp
    with_reducible rfl
  rotate_left
  · simp only [Act.put, List.setIfInBounds_toArray, List.set_cons_zero, List.set_cons_succ, i64_w, i32_w]
    rfl
  refine pure_ (i := 5) (N := some 33) (v := ?_) (a' := ?_) #[true, true, true, true, true, true, false, false] rfl rfl (by kernel_rfl) (fun _ _ _ h => h) (Or.inl ⟨by rfl, ?_⟩) ?_ ?_
  rotate_left
  · intro w'
    go_simp
    with_reducible rfl
  rotate_left
  · simp only [Act.put, List.setIfInBounds_toArray, List.set_cons_zero, List.set_cons_succ, i64_w, i32_w]
    rfl
  refine pure_ (i := 6) (N := some 6) (v := ?_) (a' := ?_) #[true, true, true, true, true, true, true, false] rfl rfl (by kernel_rfl) (fun _ _ _ h => h) (Or.inl ⟨by rfl, ?_⟩) ?_ ?_
  rotate_left
  · intro w'
    go_simp
    with_reducible rfl
  rotate_left
  · simp only [Act.put, List.setIfInBounds_toArray, List.set_cons_zero, List.set_cons_succ, i64_w, i32_w]
    rfl
  refine pure_ (i := 7) (N := some 7) (v := ?_) (a' := ?_) #[true, true, true, true, true, true, true, true] rfl rfl (by kernel_rfl) (fun _ _ _ h => h) (Or.inl ⟨by rfl, ?_⟩) ?_ ?_
  rotate_left
  · intro w'
    go_simp
    with_reducible rfl
  rotate_left
  · simp only [Act.put, List.setIfInBounds_toArray, List.set_cons_zero, List.set_cons_succ, i64_w, i32_w]
    rfl
  refine done_ (by kernel_rfl) ?_
  go_wp2
  have hle : lo / q < 18446744073709551616 := Nat.lt_of_le_of_lt (Nat.div_le_self lo q) hlo
  have e : IntKind.u64.wrap ((lo : Int) / (q : Int)) = ((lo / q : Nat) : Int) := by
    obtain ⟨d, hd⟩ : ∃ d, d = lo / q := ⟨_, rfl⟩
    rw [← Int.natCast_ediv, ← hd, IntKind.wrap_u64]
    rw [← hd] at hle
    omega
  rw [e]
  go_ret2
  exact ⟨_, rfl, HB.out⟩
def scl (n p q : Nat) : Nat := min (n * p / q) 4611686018427387904
set_option maxHeartbeats 1600000 in
set_option maxRecDepth 100000 in
theorem scale_c (n p q : Nat) (hn : n ≤ 4611686018427387904) (hp : p ≤ 1000) (hq : 1 ≤ q) (hq2 : q ≤ 1000) (hnp : n * p < 18446744073709551616) (w : World) :
    Calls Try.prog 31 #[.int .i64 n, .int .i64 p, .int .i64 q] w fun e w' => e = .returned (.int .i64 (scl n p q : Int)) ∧ Below w.heap.size w w' := by
  have hm := mul_c n p (by omega) (by omega)
  rw [Nat.div_eq_of_lt hnp, Nat.mod_eq_of_lt hnp] at hm
  have HM := Aside0.mk hm
  have HD := Aside0.mk (fun W => div_c (n * p) q hq hq2 hnp W)
  obtain ⟨z, hz⟩ : ∃ z, z = n * p / q := ⟨_, rfl⟩
  have hzl : z < 18446744073709551616 := by rw [hz]; exact Nat.lt_of_le_of_lt (Nat.div_le_self _ q) hnp
  have HS := Aside0.mk (show scl n p q = min z 4611686018427387904 from by rw [scl, hz])
  rw [← hz] at HD
  obtain ⟨lo, hlo⟩ : ∃ lo, lo = n * p := ⟨_, rfl⟩
  rw [← hlo] at HM HD
  have hq0 : (0 : Int) < q := by omega
  have hqI : (q : Int) ≤ 1000 := by omega
  have hpI : (p : Int) ≤ 1000 := by omega
  have hnI : (n : Int) ≤ 4611686018427387904 := by omega
  have HZL := Aside0.mk hzl
  clear hm hz hlo hnp hn hp hq hq2 hzl
  go_enter Try.func31, Try.ntmps31
  have hwn : IntKind.u64.wrap (n : Int) = n := by rw [IntKind.wrap_u64]; omega
  have hwp : IntKind.u64.wrap (p : Int) = p := by rw [IntKind.wrap_u64]; omega
  have hwq : IntKind.u64.wrap (q : Int) = q := by rw [IntKind.wrap_u64]; omega
  go_wp2_with fail
  refine (HM.out _).mono ?_
  rintro e w2 ⟨rfl, hw2⟩
  have HW2 := Aside0.mk hw2
  clear hw2
  go_wp2_with fail
  refine (HD.out _).mono ?_
  rintro e w3 ⟨v3, rfl, hb3⟩
  have HB3 := Aside0.mk hb3
  clear hb3
  go_wp2
  all_goals
    go_ret
    refine ⟨?_, HW2.out ▸ HB3.out⟩
    rw [HS.out]
    first
      | (rw [Nat.min_eq_left (by omega)]; rfl)
      | (rw [Nat.min_eq_right (by omega)]; rfl)
end Go.Proofs.Ytmongghhagbokaa.PlScale
