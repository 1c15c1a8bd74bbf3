/- bits.LeadingZeros64, bits.Div64 by a small number, and play.scale without a bound on the product, as contracts. -/
import Derived.Test.YtmongghhagbokaaPlScale
import Derived.Shelf.Small.Bits
import Derived.Lib.ItoaNum
namespace Go.Proofs.Ytmongghhagbokaa.PlDiv
open Go.RowKit Go.Shelf Go.Proofs.Ytmongghhagbokaa.Kit Go.Proofs.Ytmongghhagbokaa.Plain Go.Proofs.Ytmongghhagbokaa.Mine Go.Proofs.Ytmongghhagbokaa.PlScale Go.Proofs.YtmongghhagbokaaW.PrintWords Go.Proofs.YtmongghhagbokaaW.PrintLast Go.Proofs.YtmongghhagbokaaW.PrintMore
set_option linter.unusedVariables false
set_option linter.unusedSimpArgs false
def renZ : Ren := ⟨fun | 129 => 41 | 134 => 40 | n => n, fun | 46 => 67 | 53 => 63 | 3 => 3 | 4 => 4 | 5 => 5 | 9 => 9 | n => n, fun n => n⟩
theorem laysZ : Lays.n134 Try.prog renZ := by constructor <;> first | kernel_rfl | exact fun _ => rfl
theorem zeros_c (q : Nat) (hq : 1 ≤ q) (hq2 : q ≤ 1000) (w : World) : ∃ b s : Nat, 1 ≤ b ∧ b ≤ 10 ∧ s = 64 - b ∧ q < 2 ^ b ∧
    Calls Try.prog 40 #[.int .u64 q] w fun e w' => e = .returned (.int .i64 (s : Int)) ∧ w' = w := by
  have hb := Go.Lib.bitLenAux_bounds 64 q (by omega) (by omega)
  have hl := Go.Lib.bitLen_le q 10 (by omega) (by omega)
  obtain ⟨b, hbb⟩ : ∃ b, b = Go.Lib.bitLen q := ⟨_, rfl⟩
  have h := Any.bits_LeadingZeros64 laysZ (q : Int) w (by omega) (by omega)
  rw [Int.toNat_natCast, ← hbb] at h
  rw [← hbb] at hl
  have hb' : 1 ≤ b ∧ 2 ^ (b - 1) ≤ q ∧ q < 2 ^ b := by rw [hbb]; exact hb
  refine ⟨b, 64 - b, hb'.1, hl, rfl, hb'.2.2, ?_⟩
  have e : (64 : Int) - (b : Int) = ((64 - b : Nat) : Int) := by omega
  rw [e] at h
  exact h
theorem parts (b s : Nat) (hb : b ≤ 32) (hs : s = 64 - b) : 2 ^ s * 2 ^ b = 18446744073709551616 ∧ 2 ^ s = 4294967296 * 2 ^ (s - 32) := by
  subst hs
  constructor
  · rw [← Nat.pow_add, show 64 - b + b = 64 by omega]
  · rw [show (4294967296 : Nat) = 2 ^ 32 by decide, ← Nat.pow_add]; congr 1; omega
theorem div_plain {hi lo q S B S2 : Nat} (hSB : S * B = 18446744073709551616) (hS2 : S = 4294967296 * S2) (h1 : hi < q) (hqB : q < B) (hlo : lo < 18446744073709551616) :
    ∃ Y U E V F q1 r T q0 y2 : Nat, q * S = y2 ∧ y2 < 18446744073709551616 ∧ y2 / 4294967296 = Y ∧ y2 % 4294967296 = 0 ∧ 0 < Y ∧ Y < 4294967296 ∧ y2 = Y * 4294967296 ∧
      hi * S < 18446744073709551616 ∧ lo / B < S ∧ hi * S + lo / B = U ∧ U < y2 ∧ lo * S % 18446744073709551616 = E ∧ E / 4294967296 = V ∧ E % 4294967296 = F ∧ V < 4294967296 ∧
      U / Y = q1 ∧ q1 < 4294967296 ∧ U = q1 * Y + r ∧ r < Y ∧ T = r * 4294967296 + V ∧ T < y2 ∧ T / Y = q0 ∧ q0 < 4294967296 ∧ q0 * Y ≤ T ∧
      q1 * 4294967296 + q0 = (hi * 18446744073709551616 + lo) / q := by
  have hS0 : 0 < S := Nat.pos_of_ne_zero (by intro h; rw [h] at hSB; omega)
  have hS20 : 0 < S2 := by omega
  have hB0 : 0 < B := by omega
  obtain ⟨Y, hY⟩ : ∃ Y, Y = q * S2 := ⟨_, rfl⟩
  have hy2 : q * S = Y * 4294967296 := by rw [hY, hS2]; ac_rfl
  have hq0 : 0 < q := by omega
  have hY0 : 0 < Y := by rw [hY]; exact Nat.mul_pos hq0 hS20
  have hylt : q * S < 18446744073709551616 := by rw [← hSB, Nat.mul_comm S B]; exact Nat.mul_lt_mul_of_pos_right hqB hS0
  have hYlt : Y < 4294967296 := by omega
  have hlB : lo / B < S := by rw [Nat.div_lt_iff_lt_mul hB0, hSB]; exact hlo
  obtain ⟨U, hU⟩ : ∃ U, U = hi * S + lo / B := ⟨_, rfl⟩
  have hUlt : U < q * S := by
    have : (hi + 1) * S ≤ q * S := Nat.mul_le_mul_right S h1
    rw [Nat.add_mul, Nat.one_mul] at this
    omega
  obtain ⟨E, hE⟩ : ∃ E, E = lo * S % 18446744073709551616 := ⟨_, rfl⟩
  have hElt : E < 18446744073709551616 := by rw [hE]; exact Nat.mod_lt _ (by omega)
  have hlS : lo * S = (lo / B) * 18446744073709551616 + E := by
    have e : lo * S / 18446744073709551616 = lo / B := by rw [← hSB, Nat.mul_comm lo S, Nat.mul_div_mul_left _ _ hS0]
    have := Nat.div_add_mod (lo * S) 18446744073709551616
    rw [e, ← hE] at this
    omega
  obtain ⟨q1, hq1⟩ : ∃ q1, q1 = U / Y := ⟨_, rfl⟩
  obtain ⟨r, hr⟩ : ∃ r, r = U % Y := ⟨_, rfl⟩
  have hUr : U = q1 * Y + r := by have := Nat.div_add_mod U Y; rw [← hq1, ← hr, Nat.mul_comm] at this; omega
  have hrY : r < Y := by rw [hr]; exact Nat.mod_lt _ hY0
  have hq1lt : q1 < 4294967296 := by rw [hq1, Nat.div_lt_iff_lt_mul hY0, Nat.mul_comm, ← hy2]; exact hUlt
  have hVlt : E / 4294967296 < 4294967296 := by omega
  obtain ⟨T, hT⟩ : ∃ T, T = r * 4294967296 + E / 4294967296 := ⟨_, rfl⟩
  have hTlt : T < Y * 4294967296 := by
    have : (r + 1) * 4294967296 ≤ Y * 4294967296 := Nat.mul_le_mul_right _ hrY
    omega
  have hq0lt : T / Y < 4294967296 := by rw [Nat.div_lt_iff_lt_mul hY0, Nat.mul_comm]; exact hTlt
  refine ⟨Y, U, E, E / 4294967296, E % 4294967296, q1, r, T, T / Y, q * S, rfl, hylt, by omega, by omega, hY0, hYlt, hy2, by omega, hlB, hU.symm, hUlt, hE.symm, rfl, rfl, hVlt, hq1.symm, hq1lt, hUr, hrY, hT, by omega, rfl, hq0lt, by have := Nat.div_mul_le_self T Y; omega, ?_⟩
  have e1 : (hi * 18446744073709551616 + lo) * S = (U * 4294967296 + E / 4294967296) * 4294967296 + E % 4294967296 := by
    rw [Nat.add_mul, hlS, hU, show hi * 18446744073709551616 * S = hi * S * 18446744073709551616 by ac_rfl]
    omega
  have e2 : (hi * 18446744073709551616 + lo) / q = (U * 4294967296 + E / 4294967296) / Y := by
    rw [← Nat.mul_div_mul_right _ q hS0, e1, hy2, Nat.mul_comm Y, ← Nat.div_div_eq_div_mul]
    congr 1
    omega
  rw [e2, hUr, show (q1 * Y + r) * 4294967296 + E / 4294967296 = T + Y * (q1 * 4294967296) by rw [hT, Nat.add_mul, show q1 * Y * 4294967296 = Y * (q1 * 4294967296) by ac_rfl]; omega, Nat.add_mul_div_left _ _ hY0, Nat.add_comm]
theorem or_plain (hi S x s : Nat) (hS : S = 2 ^ s) (hx : x < S) (hlt : hi * S + x < 18446744073709551616) : Go.bits .or .u64 ((hi * S : Nat) : Int) (x : Int) = ((hi * S + x : Nat) : Int) := by
  subst hS
  show IntKind.u64.wrap ((BitVec.ofInt 64 ((hi * 2 ^ s : Nat) : Int) ||| BitVec.ofInt 64 (x : Int)).toNat : Int) = _
  rw [BitVec.toNat_or, BitVec.toNat_ofInt, BitVec.toNat_ofInt]
  have e1 : (((hi * 2 ^ s : Nat) : Int) % ((2 ^ 64 : Nat) : Int)).toNat = hi * 2 ^ s := by
    have : ((2 ^ 64 : Nat) : Int) = 18446744073709551616 := by decide
    rw [this]; omega
  have e2 : ((x : Int) % ((2 ^ 64 : Nat) : Int)).toNat = x := by
    have : ((2 ^ 64 : Nat) : Int) = 18446744073709551616 := by decide
    rw [this]; omega
  rw [e1, e2, Nat.mul_comm hi, ← Nat.two_pow_add_eq_or_of_lt hx, IntKind.wrap_u64, Nat.mul_comm]
  omega
theorem low32 (n : Nat) (hn : n < 18446744073709551616) : Go.bits .and .u64 (n : Int) 4294967295 = ((n % 4294967296 : Nat) : Int) := by
  show IntKind.u64.wrap ((BitVec.ofInt 64 (n : Int) &&& BitVec.ofInt 64 4294967295).toNat : Int) = _
  rw [BitVec.toNat_and, BitVec.toNat_ofInt, BitVec.toNat_ofInt]
  have e0 : ((2 ^ 64 : Nat) : Int) = 18446744073709551616 := by decide
  have e1 : ((n : Int) % ((2 ^ 64 : Nat) : Int)).toNat = n := by rw [e0]; omega
  have e2 : ((4294967295 : Int) % ((2 ^ 64 : Nat) : Int)).toNat = 2 ^ 32 - 1 := by decide
  have e3 : (2 : Nat) ^ 32 = 4294967296 := by decide
  rw [e1, e2, Nat.and_two_pow_sub_one_eq_mod, e3, IntKind.wrap_u64]
  omega
theorem wrapN (n : Nat) (h : n < 18446744073709551616) : IntKind.u64.wrap (n : Int) = (n : Int) := by rw [IntKind.wrap_u64]; omega
theorem wrapM (z : Int) (n : Nat) (h : z % 18446744073709551616 = (n : Int)) : IntKind.u64.wrap z = (n : Int) := by rw [IntKind.wrap_u64]; exact h
theorem sub_law {a b M r T V U : Nat} (ha : a = (U * 4294967296 + V) % 18446744073709551616) (hb : b = M * 4294967296 % 18446744073709551616) (hU : U = M + r) (hT : T = r * 4294967296 + V) (hl : T < 18446744073709551616) : ((a : Int) - b) % 18446744073709551616 = T := by omega
theorem div_walk {hi lo q s : Nat} (hs : 54 ≤ s) (hs2 : s ≤ 63) (h1 : hi < q) (hqB : q < 2 ^ (64 - s)) (hlo : lo < 18446744073709551616) :
    ∃ Y U E V F q1 r T q0 y2 hS x m1 T0 W1 W2 W3 m0 r2 T2 T3 m3 : Nat,
      (IntKind.u64.wrap ((q : Int) * 2 ^ s) = y2 ∧ (y2 : Int) / 4294967296 = Y ∧ Go.bits .and .u64 (y2 : Int) 4294967295 = 0 ∧ IntKind.u64.wrap ((hi : Int) * 2 ^ s) = hS ∧ (lo : Int) / 2 ^ (64 - s) = x ∧ Go.bits .or .u64 (hS : Int) (x : Int) = U ∧ IntKind.u64.wrap ((lo : Int) * 2 ^ s) = E ∧ (E : Int) / 4294967296 = V ∧ Go.bits .and .u64 (E : Int) 4294967295 = F) ∧
      ((U : Int) / Y = q1 ∧ IntKind.u64.wrap ((q1 : Int) * Y) = m1 ∧ IntKind.u64.wrap ((U : Int) - m1) = r ∧ IntKind.u64.wrap (4294967296 * (r : Int)) = T0 ∧ IntKind.u64.wrap ((T0 : Int) + V) = T ∧
      IntKind.u64.wrap ((U : Int) * 4294967296) = W1 ∧ IntKind.u64.wrap ((W1 : Int) + V) = W2 ∧ IntKind.u64.wrap ((q1 : Int) * y2) = W3 ∧ IntKind.u64.wrap ((W2 : Int) - W3) = T) ∧
      ((T : Int) / Y = q0 ∧ IntKind.u64.wrap ((q0 : Int) * Y) = m0 ∧ IntKind.u64.wrap ((T : Int) - m0) = r2 ∧ IntKind.u64.wrap (4294967296 * (r2 : Int)) = T2 ∧ IntKind.u64.wrap ((T2 : Int) + F) = T3 ∧ IntKind.u64.wrap ((q1 : Int) * 4294967296) = m3 ∧ IntKind.u64.wrap ((m3 : Int) + q0) = (((hi * 18446744073709551616 + lo) / q : Nat) : Int)) ∧
      ((0 : Int) < Y ∧ (q1 : Int) ≤ 4294967295 ∧ (q0 : Int) ≤ 4294967295) := by
  obtain ⟨pp1, pp2⟩ := parts (64 - s) s (by omega) (by omega)
  obtain ⟨Y, U, E, V, F, q1, r, T, q0, y2, d1, d2, d3, d4, d5, d6, d7, d8, d9, d10, d11, d12, d13, d14, d15, d16, d17, d18, d19, d20, d21, d22, d23, d24, d25⟩ := div_plain pp1 pp2 h1 hqB hlo
  have hr2 : T - q0 * Y < 18446744073709551616 := by omega
  have q1Y : q1 * Y < 18446744073709551616 := by omega
  have q0Y : q0 * Y < 18446744073709551616 := by omega
  have hE : E < 18446744073709551616 := by rw [← d12]; exact Nat.mod_lt _ (by omega)
  have cs (n : Nat) : (n : Int) * 2 ^ s = ((n * 2 ^ s : Nat) : Int) := by push_cast; rfl
  have hdiv : (lo : Int) / 2 ^ (64 - s) = ((lo / 2 ^ (64 - s) : Nat) : Int) := by push_cast; rfl
  have e7 : q1 * y2 = q1 * Y * 4294967296 := by rw [d7, Nat.mul_assoc]
  obtain ⟨M, hM⟩ : ∃ M, M = q1 * Y := ⟨_, rfl⟩
  obtain ⟨Z, hZ⟩ : ∃ Z, Z = (hi * 18446744073709551616 + lo) / q := ⟨_, rfl⟩
  rw [← hM] at e7 d18 q1Y
  rw [← hZ] at d25
  have hZlt : Z < 18446744073709551616 := by omega
  refine ⟨Y, U, E, V, F, q1, r, T, q0, y2, hi * 2 ^ s, lo / 2 ^ (64 - s), M, r * 4294967296, U * 4294967296 % 18446744073709551616, (U * 4294967296 + V) % 18446744073709551616, q1 * y2 % 18446744073709551616, q0 * Y, T - q0 * Y, 4294967296 * (T - q0 * Y) % 18446744073709551616, (4294967296 * (T - q0 * Y) % 18446744073709551616 + F) % 18446744073709551616, q1 * 4294967296, ⟨?_, ?_, ?_, ?_, ?_, ?_, ?_, ?_, ?_⟩, ⟨?_, ?_, ?_, ?_, ?_, ?_, ?_, ?_, ?_⟩, ⟨?_, ?_, ?_, ?_, ?_, ?_, ?_⟩, ⟨?_, ?_, ?_⟩⟩
  · rw [cs, d1]; exact wrapN _ d2
  · omega
  · rw [low32 _ d2, d4, Int.natCast_zero]
  · rw [cs]; exact wrapN _ d8
  · exact hdiv
  · rw [or_plain hi (2 ^ s) (lo / 2 ^ (64 - s)) s rfl d9 (by omega), d10]
  · rw [cs]; exact wrapM _ _ (by omega)
  · omega
  · rw [low32 _ hE, d14]
  · rw [← d16, Int.natCast_ediv]
  · rw [hM, Int.natCast_mul]; rw [← Int.natCast_mul]; exact wrapN _ (by rw [← hM]; exact q1Y)
  · rw [show (U : Int) - M = r by omega]; exact wrapN _ (by omega)
  · rw [show (4294967296 : Int) * (r : Int) = ((r * 4294967296 : Nat) : Int) by omega]; exact wrapN _ (by omega)
  · rw [show ((r * 4294967296 : Nat) : Int) + V = ((T : Nat) : Int) by omega]; exact wrapN _ (by omega)
  · exact wrapM _ _ (by omega)
  · exact wrapM _ _ (by omega)
  · rw [← Int.natCast_mul]; exact wrapM _ _ (by omega)
  · exact wrapM _ _ (sub_law rfl (by rw [e7]) d18 d20 (Nat.lt_trans d21 d2))
  · rw [← d22, Int.natCast_ediv]
  · rw [← Int.natCast_mul]; exact wrapN _ q0Y
  · rw [show (T : Int) - ((q0 * Y : Nat) : Int) = ((T - q0 * Y : Nat) : Int) by omega]; exact wrapN _ hr2
  · exact wrapM _ _ (by omega)
  · exact wrapM _ _ (by omega)
  · rw [show (q1 : Int) * 4294967296 = ((q1 * 4294967296 : Nat) : Int) by omega]; exact wrapN _ (by omega)
  · rw [← hZ, show ((q1 * 4294967296 : Nat) : Int) + q0 = ((Z : Nat) : Int) by omega]; exact wrapN _ hZlt
  · omega
  · omega
  · omega
set_option maxHeartbeats 1600000 in
set_option maxRecDepth 100000 in
theorem div_c2 (hi lo q : Nat) (hq : 1 ≤ q) (hq2 : q ≤ 1000) (hhi : hi < q) (hh0 : 0 < hi) (hlo : lo < 18446744073709551616) (w : World) :
    Calls Try.prog 39 #[.int .u64 hi, .int .u64 lo, .int .u64 q] w fun e w' => ∃ v, e = .returned (.tuple #[.int .u64 (((hi * 18446744073709551616 + lo) / q : Nat) : Int), v]) ∧ Below w.heap.size w w' := by
  obtain ⟨b, s, hb1, hb2, hs, hqb, hz⟩ := zeros_c q hq hq2 w
  have HZ := Aside0.mk hz
  obtain ⟨Z, hZ⟩ : ∃ Z, Z = (hi * 18446744073709551616 + lo) / q := ⟨_, rfl⟩
  rw [← hZ]
  have hq1 : (1 : Int) ≤ q := by omega
  have hq2' : (q : Int) ≤ 1000 := by omega
  have hh1 : (hi : Int) < q := by omega
  have hh2 : (0 : Int) < hi := by omega
  have HB := Aside0.mk (below_drew (Below.refl w.heap.size w))
  go_enter Try.func39, Try.ntmps39
  go_wp2_with fail
  refine HZ.out.mono ?_
  rintro e w1 ⟨rfl, rfl⟩
  obtain ⟨Y, U, E, V, F, q1, r, T, q0, y2, hS, x, m1, T0, W1, W2, W3, m0, r2, T2, T3, m3, ⟨a1, a2, a3, a4, a5, a6, a7, a8, a9⟩, fB, fC, ⟨k1, k2, k3⟩⟩ := div_walk (hi := hi) (lo := lo) (q := q) (s := s) (by omega) (by omega) hhi (by rw [show 64 - s = b by omega]; exact hqb) hlo
  rw [← hZ] at fC
  have FB := Aside0.mk fB
  have FC := Aside0.mk fC
  have hsI : (s : Int) ≤ 63 := by omega
  have hsI2 : (54 : Int) ≤ s := by omega
  clear hz HZ hs hb1 hb2 hqb hlo hhi hh0 hq hq2 fB fC hZ
  go_upto_region 15 with fail
  clear a1 a2 a3 a4 a5 a6 a7 a8 a9
  obtain ⟨b1, b2, b3, b4, b5, b6, b7, b8, b9⟩ := FB.out
  have HB1 := Aside0.mk (show IntKind.u64.wrap ((U : Int) * 4294967296) = W1 ∧ IntKind.u64.wrap ((W1 : Int) + V) = W2 ∧ IntKind.u64.wrap ((q1 : Int) * y2) = W3 ∧ IntKind.u64.wrap ((W2 : Int) - W3) = T from ⟨b6, b7, b8, b9⟩)
  have HB0 := Aside0.mk (show IntKind.u64.wrap (4294967296 * (r : Int)) = T0 ∧ IntKind.u64.wrap ((T0 : Int) + V) = T from ⟨b4, b5⟩)
  clear FB b4 b5 b6 b7 b8 b9
  have hwz : IntKind.u64.wrap 0 = 0 := by decide
  go_upto_region 17 with fail
  clear b1 b2 b3
  go_loopg [15, 16] 0 (fun gk v15 v16 W => v15 = .int .u64 (q1 : Int) ∧ v16 = .int .u64 (r : Int) ∧ W = w1)
  case atStart => exact ⟨rfl, rfl, rfl⟩
  case round =>
    obtain ⟨rfl, rfl, rfl⟩ := hrel
    have hd : decide (4294967296 ≤ q1) = false := decide_eq_false (by omega)
    have hd2 : decide ((4294967296 : Int) ≤ (q1 : Int)) = false := decide_eq_false (by omega)
    have hd3 : decide ((T : Int) < 0) = false := decide_eq_false (by omega)
    have he : decide (4294967296 ≤ q0) = false := decide_eq_false (by omega)
    have he2 : decide ((4294967296 : Int) ≤ (q0 : Int)) = false := decide_eq_false (by omega)
    have he3 : decide ((T3 : Int) < 0) = false := decide_eq_false (by omega)
    have hw0 : IntKind.u64.wrap (q0 : Int) = q0 := wrapN _ (by omega)
    clear k2 k3 hq1 hq2' hh1 hh2
    obtain ⟨b4, b5⟩ := HB0.out
    go_upto_region 21 with fail
    clear b4 b5 hd hd2 hd3
    obtain ⟨b6, b7, b8, b9⟩ := HB1.out
    go_upto_region 22 with fail
    clear b6 b7 b8 b9
    obtain ⟨e1, e2, e3, e4, e5, e6, e7⟩ := FC.out
    go_upto_region 24 with fail
    clear e1 e2 e3 FC HB0 HB1 hw0
    go_loopg [18, 16] 0 (fun gk v18 v16 W => v18 = .int .u64 (q0 : Int) ∧ v16 = .int .u64 (r2 : Int) ∧ W = wr)
    case atStart => exact ⟨rfl, rfl, rfl⟩
    case round =>
      obtain ⟨rfl, rfl, rfl⟩ := hrel
      go_upto_region 28 with fail
      clear he he2 he3 hwz k1
      go_wp2
      go_ret2
      exact ⟨_, rfl, Below.refl _ _⟩
theorem top_law {q hi : Nat} (hq : 1 ≤ q) (hb : q ≤ hi) (lo : Nat) : min ((hi * 18446744073709551616 + lo) / q) 4611686018427387904 = 4611686018427387904 := by
  have h1 := Nat.mul_le_mul_right 18446744073709551616 hb
  have h2 : 18446744073709551616 ≤ (hi * 18446744073709551616 + lo) / q := (Nat.le_div_iff_mul_le (by omega)).2 (by rw [Nat.mul_comm]; exact Nat.le_trans h1 (Nat.le_add_right _ _))
  omega
theorem low_law {q hi lo : Nat} (hb : hi < q) (hlo : lo < 18446744073709551616) : (hi * 18446744073709551616 + lo) / q < 18446744073709551616 := by
  rw [Nat.div_lt_iff_lt_mul (by omega)]
  have := Nat.mul_le_mul_right 18446744073709551616 (show hi + 1 ≤ q by omega)
  rw [Nat.mul_comm 18446744073709551616 q]
  rw [Nat.add_mul] at this
  omega
set_option maxHeartbeats 1600000 in
set_option maxRecDepth 100000 in
theorem wscale_c (n p q : Nat) (hn : n ≤ 4611686018427387904) (hp : p ≤ 1000) (hq : 1 ≤ q) (hq2 : q ≤ 1000) (w : World) :
    Calls Try.prog 31 #[.int .i64 n, .int .i64 p, .int .i64 q] w fun e w' => e = .returned (.int .i64 (scl n p q : Int)) ∧ Below w.heap.size w w' := by
  by_cases hnp : n * p < 18446744073709551616
  · exact scale_c n p q hn hp hq hq2 hnp w
  · have hm := mul_c n p (by omega) (by omega)
    have HM := Aside0.mk hm
    obtain ⟨hi, hhi⟩ : ∃ hi, hi = n * p / 18446744073709551616 := ⟨_, rfl⟩
    obtain ⟨lo, hlo⟩ : ∃ lo, lo = n * p % 18446744073709551616 := ⟨_, rfl⟩
    have hnp2 : n * p ≤ 4611686018427387904 * 1000 := Nat.mul_le_mul hn hp
    have hsum : n * p = hi * 18446744073709551616 + lo := by omega
    have hlolt : lo < 18446744073709551616 := by omega
    have hh0 : 0 < hi := by omega
    have hhl : hi ≤ 250 := by omega
    rw [← hhi, ← hlo] at HM
    have HS := Aside0.mk (show scl n p q = min ((hi * 18446744073709551616 + lo) / q) 4611686018427387904 from by rw [scl, hsum])
    have HMN := Aside0.mk (fun z : Nat => show min (z : Int) 4611686018427387904 = ((min z 4611686018427387904 : Nat) : Int) from by omega)
    have hqI0 : (0 : Int) < q := by omega
    have hqI : (q : Int) ≤ 1000 := by omega
    have hpI : (p : Int) ≤ 1000 := by omega
    have hnI : (n : Int) ≤ 4611686018427387904 := by omega
    have hhI : (hi : Int) ≤ 250 := by omega
    have hwn : IntKind.u64.wrap (n : Int) = n := by rw [IntKind.wrap_u64]; omega
    have hwp : IntKind.u64.wrap (p : Int) = p := by rw [IntKind.wrap_u64]; omega
    have hwq : IntKind.u64.wrap (q : Int) = q := by rw [IntKind.wrap_u64]; omega
    clear hm hnp hnp2 hsum hhi hlo hn hp
    by_cases hb : q ≤ hi
    · have E := Aside0.mk (top_law hq hb lo)
      have hbI : (q : Int) ≤ hi := by omega
      have HB := Aside0.mk (below_drew (Below.refl w.heap.size w))
      clear hlolt hh0 hhl hq hq2 hb
      go_enter Try.func31, Try.ntmps31
      go_wp2_with fail
      refine (HM.out _).mono ?_
      rintro e w2 ⟨rfl, rfl⟩
      clear HM hwn hwp
      go_wp2
      go_ret
      exact ⟨by rw [HS.out, E.out]; rfl, by first | exact Below.refl _ _ | exact HB.out⟩
    · have HD := Aside0.mk (fun W => div_c2 hi lo q hq hq2 (by omega) hh0 hlolt W)
      obtain ⟨z, hz⟩ : ∃ z, z = (hi * 18446744073709551616 + lo) / q := ⟨_, rfl⟩
      have hzl : z < 18446744073709551616 := by rw [hz]; exact low_law (by omega) hlolt
      rw [← hz] at HD HS
      have hbI : (hi : Int) < q := by omega
      have HZL := Aside0.mk hzl
      clear hlolt hh0 hhl hq hq2 hb hz hzl
      go_enter Try.func31, Try.ntmps31
      go_wp2_with fail
      refine (HM.out _).mono ?_
      rintro e w2 ⟨rfl, hw2⟩
      have HW2 := Aside0.mk hw2
      clear HM hwn hwp hw2
      go_wp2_with fail
      refine (HD.out _).mono ?_
      rintro e w3 ⟨v3, rfl, hb3⟩
      have HB3 := Aside0.mk hb3
      clear hb3 HD
      go_wp2
      all_goals
        go_ret
        have := HZL.out
        refine ⟨?_, HW2.out ▸ HB3.out⟩
        rw [HS.out]
        first
          | (rw [Nat.min_eq_left (by omega)]; rfl)
          | (rw [Nat.min_eq_right (by omega)]; rfl)
          | exact congrArg (fun v => Ending.returned (Value.int .i64 v)) (HMN.out z)
end Go.Proofs.Ytmongghhagbokaa.PlDiv
