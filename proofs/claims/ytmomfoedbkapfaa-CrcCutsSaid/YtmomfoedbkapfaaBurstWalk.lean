/- The law CrcBursts returns true: a walk through its text; no condition but that the slice can be read. -/
import Derived.Test.YtmomfoedbkapfaaCrcFit
namespace Go.Proofs.Ytmomfoedbkapfaa.BurstWalk
open Go.RowKit Go.Proofs.Ytmomfoedbkapfaa.Kit Go.Proofs.Ytmomfoedbkapfaa.Plain Go.Proofs.Ytmomfoedbkapfaa.Crc Go.Proofs.Ytmomfoedbkapfaa.CrcCode Go.Proofs.Ytmomfoedbkapfaa.CrcFit Go.Proofs.Ytmomfoedbkapfaa.Mine Go.Proofs.Ytmomfoedbkapfaa.Vary Go.Proofs.YtmomfoedbkapfaaW.PrintWords Go.Proofs.YtmomfoedbkapfaaW.PrintLast Go.Proofs.YtmomfoedbkapfaaW.PrintMore
set_option linter.unusedVariables false
set_option linter.unusedSimpArgs false

theorem le_snoc (n : Nat) : ∀ v, le (n + 1) v = le n v ++ [((v / 2 ^ (8 * n) % 256 : Nat) : Int)] := by
  induction n with
  | zero => intro v; simp [le]
  | succ n ih =>
    intro v
    rw [le, ih, le, List.cons_append, Nat.div_div_eq_div_mul, show 256 * 2 ^ (8 * n) = 2 ^ (8 * (n + 1)) by rw [show 8 * (n + 1) = 8 * n + 8 by omega, Nat.pow_add]; omega]
/-- The frame, the first j of four bytes turned. -/
def part (f : List Int) (fr tn j : Nat) : List Int := f.take fr ++ turned ((f.drop fr).take j) (le j tn) ++ f.drop (fr + j)
theorem turned_len (xs ys : List Int) (h : xs.length = ys.length) : (turned xs ys).length = xs.length := by
  unfold turned
  rw [List.length_zipWith, h, Nat.min_self]
theorem part_len (f : List Int) (fr tn j : Nat) (h : fr + j ≤ f.length) : (part f fr tn j).length = f.length := by
  unfold part
  rw [List.length_append, List.length_append, turned_len _ _ (by rw [List.length_take, List.length_drop, le_len]; omega), List.length_take, List.length_take, List.length_drop, List.length_drop]
  omega
theorem part_cut (f : List Int) (fr tn j : Nat) (h : fr + j < f.length) : ∃ P : List Int, P.length = fr + j ∧ part f fr tn j = P ++ f[fr + j] :: f.drop (fr + j + 1) ∧ part f fr tn (j + 1) = P ++ ((f[fr + j].toNat ^^^ (tn / 2 ^ (8 * j) % 256) : Nat) : Int) :: f.drop (fr + j + 1) := by
  refine ⟨f.take fr ++ turned ((f.drop fr).take j) (le j tn), ?_, ?_, ?_⟩
  · rw [List.length_append, turned_len _ _ (by rw [List.length_take, List.length_drop, le_len]; omega), List.length_take, List.length_take, List.length_drop]
    omega
  · unfold part
    rw [List.drop_eq_getElem_cons h]
  · unfold part
    have h1 : (f.drop fr).take (j + 1) = (f.drop fr).take j ++ [f[fr + j]] := by
      rw [List.take_succ_eq_append_getElem (by rw [List.length_drop]; omega), List.getElem_drop]
    have h2 : turned ((f.drop fr).take j ++ [f[fr + j]]) (le j tn ++ [((tn / 2 ^ (8 * j) % 256 : Nat) : Int)]) = turned ((f.drop fr).take j) (le j tn) ++ [((f[fr + j].toNat ^^^ (tn / 2 ^ (8 * j) % 256) : Nat) : Int)] := by
      unfold turned
      rw [List.zipWith_append (by rw [List.length_take, List.length_drop, le_len]; omega)]
      rfl
    rw [h1, le_snoc, h2, ← Nat.add_assoc]
    simp [List.append_assoc]
theorem part_rd (f : List Int) (fr tn j : Nat) (h : fr + j < f.length) : rd (part f fr tn j) ((fr + j : Nat) : Int) = f[fr + j] := by
  obtain ⟨P, h1, h2, _⟩ := part_cut f fr tn j h
  unfold rd
  rw [h2, Int.toNat_natCast]
  generalize f[fr + j] = y
  rw [← h1]
  simp [List.getD_eq_getElem?_getD]
theorem part_set (f : List Int) (fr tn j : Nat) (h : fr + j < f.length) : (part f fr tn j).set (fr + j) ((f[fr + j].toNat ^^^ (tn / 2 ^ (8 * j) % 256) : Nat) : Int) = part f fr tn (j + 1) := by
  obtain ⟨P, h1, h2, h3⟩ := part_cut f fr tn j h
  rw [h2, h3]
  generalize f[fr + j] = y
  rw [← h1, List.set_append_right _ _ (Nat.le_refl _), Nat.sub_self]
  rfl
theorem and16 (n : Int) : 0 ≤ Go.bits .and .i64 n 65535 ∧ Go.bits .and .i64 n 65535 ≤ 65535 := by
  unfold Go.bits
  show 0 ≤ IntKind.i64.wrap (((BitVec.ofInt 64 n &&& BitVec.ofInt 64 65535).toNat : Nat) : Int) ∧ IntKind.i64.wrap (((BitVec.ofInt 64 n &&& BitVec.ofInt 64 65535).toNat : Nat) : Int) ≤ 65535
  rw [BitVec.toNat_and, show (BitVec.ofInt 64 65535).toNat = 65535 from rfl, IntKind.wrap_i64]
  have h : (BitVec.ofInt 64 n).toNat &&& 65535 ≤ 65535 := Nat.and_le_right
  omega
theorem xor8 (a b : Nat) (ha : a < 256) (hb : b < 256) : Go.bits .xor .u8 (a : Int) (b : Int) = ((a ^^^ b : Nat) : Int) := by
  unfold Go.bits
  show IntKind.u8.wrap (((BitVec.ofInt 8 a ^^^ BitVec.ofInt 8 b).toNat : Nat) : Int) = _
  rw [BitVec.ofInt_natCast, BitVec.ofInt_natCast, BitVec.toNat_xor, BitVec.toNat_ofNat, BitVec.toNat_ofNat, Nat.mod_eq_of_lt (by simpa using ha), Nat.mod_eq_of_lt (by simpa using hb), IntKind.wrap_u8]
  have : a ^^^ b < 2 ^ 8 := Nat.xor_lt_two_pow (by simpa using ha) (by simpa using hb)
  omega
theorem wr_add (a b : Nat) (h : a + b < 1000000) : wrap64 ((a : Int) + (b : Int)) = (a : Int) + (b : Int) := by unfold wrap64; omega
theorem wr_mul (b : Nat) (h : b < 1000000) : wrap64 (8 * (b : Int)) = 8 * (b : Int) := by unfold wrap64; omega
set_option maxHeartbeats 400000 in
set_option maxRecDepth 100000 in
theorem burst_off (A : Option Addr) (c : Nat) (x : List Int) (n tn : Int) (w : World) (h : 300 < x.length ∨ tn = 0) :
    Calls Try.prog 5 #[.slice A x.length c, .int .i64 n, .int .u32 tn] w fun e w' => e = .returned (.bool true) ∧ Below w.heap.size w w' := by
  by_cases h1 : 300 < x.length
  · have t1 : 300 < (x.length : Int) := by omega
    clear h h1
    go_enter Try.func5, Try.ntmps5
    go_wp2_with (go_at_call 8; refine (fit_c _).mono ?_; rintro e w1 ⟨rfl, hb⟩; have HB := Aside0.mk hb; clear hb)
    go_ret
    exact ⟨rfl, HB.out⟩
  · have t1 : (x.length : Int) ≤ 300 := by omega
    obtain rfl : tn = 0 := by omega
    clear h h1
    go_enter Try.func5, Try.ntmps5
    go_wp2_with (go_at_call 8; refine (fit_c _).mono ?_; rintro e w1 ⟨rfl, hb⟩; have HB := Aside0.mk hb; clear hb)
    go_ret
    exact ⟨rfl, HB.out⟩
set_option maxHeartbeats 1600000 in
set_option maxRecDepth 100000 in
theorem burst_on (A : Option Addr) (c : Nat) (x : List Int) (n : Int) (tn : Nat) (w : World) (hr : Kd.C (Kd.int .u8) w A x.length x) (hc : x.length ≤ c) (hb : ∀ y ∈ x, 0 ≤ y ∧ y < 256) (h : x.length ≤ 300) (ht : 0 < tn) (ht2 : tn < 4294967296) :
    Calls Try.prog 5 #[.slice A x.length c, .int .i64 n, .int .u32 (tn : Int)] w fun e w' => e = .returned (.bool true) ∧ Below w.heap.size w w' := by
  have HR := Aside0.mk hr
  have HBY := Aside0.mk hb
  have t1 : (x.length : Int) ≤ 300 := by omega
  have t2 : ((tn : Int) == 0) = false := beq_eq_false_iff_ne.mpr (by omega)
  have hfl := frame_len x
  have he := enc_len10 x.length (by omega)
  have hep := enc_pos x.length
  have HFC := Aside0.mk (fun W h => frame_nil_c A c x W h hc hb (by omega))
  have hfb := frame_bytes x hb
  obtain ⟨f, hf⟩ : ∃ f, f = frame x := ⟨_, rfl⟩
  rw [← hf] at hfl HFC hfb
  have HF := Aside0.mk hf
  have HFB := Aside0.mk hfb
  have ha := and16 n
  obtain ⟨a, hae⟩ : ∃ a, Go.bits .and .i64 n 65535 = a := ⟨_, rfl⟩
  rw [hae] at ha
  obtain ⟨k, hk⟩ : ∃ k, k = (enc x.length).length := ⟨_, rfl⟩
  rw [← hk] at hfl he hep
  have HK := Aside0.mk hk
  have hfl1 : (f.length : Int) ≤ 320 := by omega
  have hfl2 : (5 : Int) ≤ f.length := by omega
  have HFL := Aside0.mk hfl
  clear hr hb hf hfb hk hfl
  have hm0 : 0 ≤ a % ((x.length : Int) + 1) := Int.emod_nonneg _ (by omega)
  have hm1 : a % ((x.length : Int) + 1) < (x.length : Int) + 1 := Int.emod_lt_of_pos _ (by omega)
  have hm2 : Int.tmod a ((x.length : Int) + 1) = a % ((x.length : Int) + 1) := Int.tmod_eq_emod_of_nonneg ha.1
  have HM2 := Aside0.mk hm2
  clear hm2
  go_enter Try.func5, Try.ntmps5
  go_upto_region 7 with (first
    | (go_at_call 8; refine (fit_c _).mono ?_; rintro e w1 ⟨rfl, hb⟩; have HW1 := Aside0.mk hb; clear hb)
    | (go_at_call 11; refine (HFC.out _ (Kd.C_below HR.out HW1.out)).mono ?_; rintro e w2 ⟨Af, cf, rfl, hcf, _, hrf, hb⟩; have HRF := Aside0.mk hrf; have HW2 := Aside0.mk (below_kept HW1.out hb); have HZ1 := Aside0.mk HW1.out.size; clear hb hrf hcf))
  obtain ⟨fr, hfr⟩ : ∃ fr : Nat, (f.length : Int) - x.length - 4 + a % ((x.length : Int) + 1) = (fr : Int) := ⟨((f.length : Int) - x.length - 4 + a % ((x.length : Int) + 1)).toNat, by have := HFL.out; omega⟩
  have hfr1 : k ≤ fr := by have := HFL.out; omega
  have hfr2 : fr + 4 ≤ f.length := by have := HFL.out; omega
  have hfr3 : (1 : Int) ≤ fr := by omega
  have hfr4 : (fr : Int) + 4 ≤ f.length := by omega
  rw [hfr]
  have HFR := Aside0.mk hfr
  clear hfr ha hae hm0 hm1
  obtain ⟨gb, cg, hgb, hgb1, hgb2, _⟩ := Kd.R_form HRF.out (by omega)
  injection hgb with hg1 hg2 hg3
  subst hg1
  subst hg3
  go_wp2_with fail
  go_loopg [45] 4 (fun g v45 W => ∃ j : Nat, v45 = .int .i64 (j : Int) ∧ Aside0 (g + j = 4) ∧ Aside0 (Kd.R (Kd.int .u8) 5 W w1.heap.size (fun k => w1.heap.size ≤ k) (.slice (some ⟨gb, 0, none⟩) f.length cf) (part f fr tn j)) ∧ Aside0 (Below w.heap.size w W))
  case atStart => exact ⟨0, rfl, ⟨by omega⟩, ⟨by simpa [part, turned] using HRF.out⟩, HW2⟩
  case round =>
    clear HRF HW2
    obtain ⟨j, rfl, HJ, HRF, HW⟩ := hrel
    have hgj := HJ.out
    by_cases hj : j < 4
    · obtain ⟨g1, rfl⟩ : ∃ g1, gk = g1 + 1 := ⟨gk - 1, by omega⟩
      have hjl : (j : Int) < 4 := by omega
      have hpl := part_len f fr tn j (by omega)
      have hcell := Kd.R_celln (0 : Int) HRF.out ((fr + j : Nat) : Int) (by omega) (by omega)
      rw [Int.toNat_natCast] at hcell
      have hcf := hcell.2
      have hcv : wr.cell? ⟨gb, fr + j, none⟩ = some (.int .u8 (f[fr + j])) := by
        rw [hcell.1]
        congr 2
        exact part_rd f fr tn j (by omega)
      have hyb := HFB.out f[fr + j] (List.getElem_mem (by omega))
      have hset := part_set f fr tn j (by omega)
      obtain ⟨y, hy⟩ : ∃ y : Nat, f[fr + j] = (y : Int) := ⟨f[fr + j].toNat, by omega⟩
      rw [hy] at hcv hyb hset
      rw [Int.toNat_natCast] at hset
      have hb8 : tn / 2 ^ (8 * j) % 256 < 256 := Nat.mod_lt _ (by decide)
      have hx8 := xor8 y (tn / 2 ^ (8 * j) % 256) (by omega) hb8
      have HSET := Aside0.mk hset
      have HX8 := Aside0.mk hx8
      have hw2 : (0 : Int) ≤ (fr : Int) + (j : Int) := by omega
      have hw3 : (fr : Int) + (j : Int) < f.length := by omega
      have hw4 : ((fr : Int) + (j : Int)).toNat = fr + j := by omega
      have hw6 : (0 : Int) ≤ 8 * (j : Int) := by omega
      have hw7 : 8 * (j : Int) ≤ 24 := by omega
      have hw5 := wr_mul j (by omega)
      have hw1 := wr_add fr j (by have := HFL.out; omega)
      clear hcell hset hx8 hb8 hy hpl
      go_wp2
      refine start_ (n := 14) (S := fun w' => True) (ds := []) #[false, false, false, false, false, false, false, false, false, false, false, false, false, false] (by kernel_rfl) rfl rfl trivial (fun hHeld => ?_)
      refine pure_ (i := 0) (N := some 48) (v := ?_) (a' := ?_) #[true, false, false, false, false, false, false, false, false, false, false, false, false, false] rfl rfl (by kernel_rfl) (fun _ _ _ h => h) (Or.inl ⟨by rfl, ?_⟩) ?_ ?_
      rotate_left
      · intro w'
        go_simp
        with_reducible rfl
      rotate_left
      · simp only [Act.put, List.setIfInBounds_toArray, List.set_cons_zero, List.set_cons_succ, i64_w, i32_w]
        rfl
      refine pure_ (i := 1) (N := some 49) (v := ?_) (a' := ?_) #[true, true, false, false, false, false, false, false, false, false, false, false, false, false] rfl rfl (by kernel_rfl) (fun _ _ _ h => h) (Or.inl ⟨by rfl, ?_⟩) ?_ ?_
      rotate_left
      · intro w'
        go_simp
        with_reducible rfl
      rotate_left
      · simp only [Act.put, List.setIfInBounds_toArray, List.set_cons_zero, List.set_cons_succ, i64_w, i32_w]
        rfl
      refine pure_ (i := 2) (N := some 50) (v := ?_) (a' := ?_) #[true, true, true, false, false, false, false, false, false, false, false, false, false, false] rfl rfl (by kernel_rfl) (fun _ _ _ h => h) (Or.inl ⟨by rfl, ?_⟩) ?_ ?_
      rotate_left
      · intro w'
        go_simp
        with_reducible rfl
      rotate_left
      · simp only [Act.put, List.setIfInBounds_toArray, List.set_cons_zero, List.set_cons_succ, i64_w, i32_w]
        rfl
      refine pure_ (i := 3) (N := some 51) (v := ?_) (a' := ?_) #[true, true, true, true, false, false, false, false, false, false, false, false, false, false] rfl rfl (by kernel_rfl) (fun _ _ _ h => h) (Or.inl ⟨by rfl, ?_⟩) ?_ ?_
      rotate_left
      · intro w'
        go_simp
        with_reducible rfl
      rotate_left
      · simp only [Act.put, List.setIfInBounds_toArray, List.set_cons_zero, List.set_cons_succ, i64_w, i32_w]
        rfl
      refine pure_ (i := 4) (N := some 52) (v := ?_) (a' := ?_) #[true, true, true, true, true, false, false, false, false, false, false, false, false, false] rfl rfl (by kernel_rfl) (fun _ _ _ h => h) (Or.inl ⟨by rfl, ?_⟩) ?_ ?_
      rotate_left
      · intro w'
        go_simp
        with_reducible rfl
      rotate_left
      · simp only [Act.put, List.setIfInBounds_toArray, List.set_cons_zero, List.set_cons_succ, i64_w, i32_w]
        rfl
      refine pure_ (i := 6) (N := some 54) (v := ?_) (a' := ?_) #[true, true, true, true, true, false, true, false, false, false, false, false, false, false] rfl rfl (by kernel_rfl) (fun _ _ _ h => h) (Or.inl ⟨by rfl, ?_⟩) ?_ ?_
      rotate_left
      · intro w'
        go_simp
        with_reducible rfl
      rotate_left
      · simp only [Act.put, List.setIfInBounds_toArray, List.set_cons_zero, List.set_cons_succ, i64_w, i32_w]
        rfl
      refine pure_ (i := 7) (N := some 55) (v := ?_) (a' := ?_) #[true, true, true, true, true, false, true, true, false, false, false, false, false, false] rfl rfl (by kernel_rfl) (fun _ _ _ h => h) (Or.inl ⟨by rfl, ?_⟩) ?_ ?_
      rotate_left
      · intro w'
        go_simp
        with_reducible rfl
      rotate_left
      · simp only [Act.put, List.setIfInBounds_toArray, List.set_cons_zero, List.set_cons_succ, i64_w, i32_w]
        rfl
      refine pure_ (i := 8) (N := some 56) (v := ?_) (a' := ?_) #[true, true, true, true, true, false, true, true, true, false, false, false, false, false] rfl rfl (by kernel_rfl) (fun _ _ _ h => h) (Or.inl ⟨by rfl, ?_⟩) ?_ ?_
      rotate_left
      · intro w'
        go_simp
        with_reducible rfl
      rotate_left
      · simp only [Act.put, List.setIfInBounds_toArray, List.set_cons_zero, List.set_cons_succ, i64_w, i32_w]
        rfl
      refine pure_ (i := 9) (N := some 57) (v := ?_) (a' := ?_) #[true, true, true, true, true, false, true, true, true, true, false, false, false, false] rfl rfl (by kernel_rfl) (fun _ _ _ h => h) (Or.inl ⟨by rfl, ?_⟩) ?_ ?_
      rotate_left
      · intro w'
        go_simp
        with_reducible rfl
      rotate_left
      · simp only [Act.put, List.setIfInBounds_toArray, List.set_cons_zero, List.set_cons_succ, i64_w, i32_w]
        rfl
      refine pure_ (i := 10) (N := some 58) (v := ?_) (a' := ?_) #[true, true, true, true, true, false, true, true, true, true, true, false, false, false] rfl rfl (by kernel_rfl) (fun _ _ _ h => h) (Or.inl ⟨by rfl, ?_⟩) ?_ ?_
      rotate_left
      · intro w'
        go_simp
        with_reducible rfl
      rotate_left
      · simp only [Act.put, List.setIfInBounds_toArray, List.set_cons_zero, List.set_cons_succ, i64_w, i32_w]
        rfl
      refine one_ (i := 5) (N := some 53) #[true, true, true, true, true, true, true, true, true, true, true, false, false, false] rfl rfl (by kernel_rfl) (by decide) (fun K hK => ?_)
      refine value_ (w1 := ?_) (v := ?_) (by rfl) rfl ?_ ?_
      rotate_left 2
      · go_simp
        constructor
        · rfl
        · rfl
      refine hK.out _ _ trivial (fun hHeld => ?_)
      clear hK K
      refine norm_ (a' := ?_) ?_ ?_
      rotate_left
      · show Act.put _ (some 53) _ = _
        simp only [Act.put, List.setIfInBounds_toArray, List.set_cons_zero, List.set_cons_succ, i64_w, i32_w]
        rfl
      refine pure_ (i := 11) (N := some 59) (v := ?_) (a' := ?_) #[true, true, true, true, true, true, true, true, true, true, true, true, false, false] rfl rfl (by kernel_rfl) (fun _ _ _ h => h) (Or.inl ⟨by rfl, ?_⟩) ?_ ?_
      rotate_left
      · intro w'
        go_simp
        with_reducible rfl
      rotate_left
      · simp only [Act.put, List.setIfInBounds_toArray, List.set_cons_zero, List.set_cons_succ, i64_w, i32_w]
        rfl
      refine pure_ (i := 12) (N := some 60) (v := ?_) (a' := ?_) #[true, true, true, true, true, true, true, true, true, true, true, true, true, false] rfl rfl (by kernel_rfl) (fun _ _ _ h => h) (Or.inl ⟨by rfl, ?_⟩) ?_ ?_
      rotate_left
      · intro w'
        go_simp
        with_reducible rfl
      rotate_left
      · simp only [Act.put, List.setIfInBounds_toArray, List.set_cons_zero, List.set_cons_succ, i64_w, i32_w]
        rfl
      refine one_ (i := 13) (N := none) #[true, true, true, true, true, true, true, true, true, true, true, true, true, true] rfl rfl (by kernel_rfl) (by decide) (fun K hK => ?_)
      refine skip_ (w1 := ?_) (by rfl) rfl ?_ ?_
      rotate_left
      · go_simp
        rfl
      refine hK.out _ _ trivial (fun hHeld => ?_)
      clear hK K
      refine done_ (by kernel_rfl) ?_
      clear hw1 hw5
      go_wp2
      have hput := Kd.R_putn HRF.out ((fr + j : Nat) : Int) ((y ^^^ tn / 2 ^ (8 * j) % 256 : Nat) : Int)
      rw [Int.toNat_natCast, HSET.out, ← HX8.out] at hput
      rw [show (((tn / 2 ^ (8 * j) % 256 : Nat)) : Int) = (tn : Int) / 2 ^ (8 * j) % 256 by simp] at hput
      have HPUT := Aside0.mk (Kd.R_drew hput)
      have HW9 := Aside0.mk (show Below w.heap.size w (wr.setCell ⟨gb, fr + j, none⟩ (.int .u8 (Go.bits .xor .u8 (y : Int) ((tn : Int) / 2 ^ (8 * j) % 256)))).drew from (HW.out.setCell (Nat.le_trans HZ1.out hgb1) _).drew)
      clear hput
      go_roundg g1
      case measure => omega
      case rel => exact ⟨j + 1, by go_num, ⟨by omega⟩, HPUT, HW9⟩
    · have hjl : (4 : Int) ≤ j := by omega
      have hj4 : j = 4 := by omega
      have hR4 := HRF.out
      rw [hj4] at hR4
      have hpl := part_len f fr tn 4 hfr2
      have hnone : next (part f fr tn 4) = ([], 0) := by
        have hfd : f = f.take fr ++ (f.drop fr).take 4 ++ f.drop (fr + 4) := by
          rw [List.append_assoc, ← List.drop_drop, List.take_append_drop, List.take_append_drop]
        refine burst x (f.take fr) ((f.drop fr).take 4) (f.drop (fr + 4)) tn HBY.out (by omega) ht ht2 (by rw [← HF.out]; exact hfd) (by rw [List.length_take, List.length_drop]; omega) ?_
        rw [List.length_take, ← HK.out]
        omega
      have hpb : ∀ y ∈ part f fr tn 4, 0 ≤ y ∧ y < 256 := by
        intro y hy
        unfold part at hy
        rcases List.mem_append.1 hy with hy | hy
        · rcases List.mem_append.1 hy with hy | hy
          · exact HFB.out y (List.mem_of_mem_take hy)
          · unfold turned at hy
            obtain ⟨i, hi, rfl⟩ := List.getElem_of_mem hy
            rw [List.length_zipWith] at hi
            rw [List.getElem_zipWith]
            have h1 := HFB.out (((f.drop fr).take 4)[i]'(by omega)) (List.mem_of_mem_drop (List.mem_of_mem_take (List.getElem_mem _)))
            have h2 := le_bytes 4 tn ((le 4 tn)[i]'(by omega)) (List.getElem_mem _)
            have h3 := Nat.xor_lt_two_pow (n := 8) (x := (((f.drop fr).take 4)[i]'(by omega)).toNat) (y := ((le 4 tn)[i]'(by omega)).toNat) (by omega) (by omega)
            omega
        · exact HFB.out y (List.mem_of_mem_drop hy)
      obtain ⟨p, hp⟩ : ∃ p, p = part f fr tn 4 := ⟨_, rfl⟩
      rw [← hp] at hR4 hpl hnone hpb
      have hr4 := Kd.R_reads' hR4
      rw [hpl] at hr4
      have hn8 := next_c (some ⟨gb, 0, none⟩) cf p wr (by rw [hpl]; exact hr4.2.2) (by rw [hpl]; exact hr4.2.1) hpb (by omega)
      unfold NextPost at hn8
      rw [hnone, hpl] at hn8
      have HN8 := Aside0.mk hn8
      clear hn8 hr4 hR4 hnone hpb hp hpl hj4
      go_wp2_with fail
      refine HN8.out.mono ?_
      rintro e w9 ⟨A9, c9, rfl, _, hb9⟩
      have HW9 := Aside0.mk (below_kept HW.out hb9)
      clear hb9
      go_wp2
      go_ret
      exact ⟨rfl, HW9.out⟩
theorem wf_u8 {x : Int} (h : (Lit.int .u8 x).wf = true) : 0 ≤ x ∧ x < 256 := by
  have h2 : 0 ≤ x ∧ x ≤ 255 := by simpa [Lit.wf, IntKind.min, IntKind.max, IntKind.bits, IntKind.signed] using h
  omega
theorem wf_u32 {x : Int} (h : (Lit.int .u32 x).wf = true) : 0 ≤ x ∧ x < 4294967296 := by
  have h2 : 0 ≤ x ∧ x ≤ 4294967295 := by simpa [Lit.wf, IntKind.min, IntKind.max, IntKind.bits, IntKind.signed] using h
  omega
/-- As the row hands it over. -/
theorem burst_row {W : World} (a : Option Addr) (cap : Nat) (l : List Int) (hr : ReadsInt W .u8 a l.length l) (hc : l.length ≤ cap) (hw : ∀ x ∈ l, (Lit.int .u8 x).wf = true) (_ : l.length * 1 ≤ 140737488351232)
    (n : Int) (_ : (Lit.int .i64 n).wf = true) (tn : Int) (hw3 : (Lit.int .u32 tn).wf = true) :
    Calls Try.prog 5 #[.slice a l.length cap, .int .i64 n, .int .u32 tn] W fun e w' => e = .returned (.bool true) ∧ Below W.heap.size W w' := by
  have ht := wf_u32 hw3
  by_cases h : 300 < l.length ∨ tn = 0
  · exact burst_off a cap l n tn W h
  · obtain ⟨t, rfl⟩ : ∃ t : Nat, tn = (t : Int) := ⟨tn.toNat, by omega⟩
    exact burst_on a cap l n t W (Kd.C_of_reads (d := (0 : Int)) (h1 := fun _ => rfl) hr) hc (fun x hx => wf_u8 (hw x hx)) (by omega) (by omega) (by omega)
end Go.Proofs.Ytmomfoedbkapfaa.BurstWalk
