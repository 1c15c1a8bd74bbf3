/- The law VaryAny returns true: a walk through its text; no condition but that the slices can be read. -/
import Derived.Test.YtmkcblcgjjjkiaaBase
import Derived.Test.YtmkcblcgjjjkiaaMine
namespace Go.Proofs.Ytmkcblcgjjjkiaa.AnyWalk
open Go.RowKit Go.Proofs.Ytmkcblcgjjjkiaa.PVaryNums Go.Proofs.Ytmkcblcgjjjkiaa.Plain Go.Proofs.Ytmkcblcgjjjkiaa.Base Go.Proofs.Ytmkcblcgjjjkiaa.Mine Go.Proofs.YtmkcblcgjjjkiaaW.PrintWords Go.Proofs.YtmkcblcgjjjkiaaW.PrintLast Go.Proofs.YtmkcblcgjjjkiaaW.PrintMore
set_option linter.unusedVariables false
set_option linter.unusedSimpArgs false

/-- The blocks that lay at w are as they were. -/
def Good (w W : World) : Prop := Below w.heap.size w W
theorem Good.drew {w W : World} (h : Good w W) : Good w W.drew := Below.drew h
theorem Good.alloc {w W : World} (h : Good w W) (o : Obj) : Good w (W.alloc o) := below_alloc h o
attribute [local go_sem] Good.drew Good.alloc

set_option maxHeartbeats 400000 in
set_option maxRecDepth 100000 in
theorem any_big (A1 A2 : Option Addr) (c1 c2 : Nat) (b m : List Int) (w : World) (h : 100 < b.length ∨ 100 < m.length) :
    Calls Try.prog 4 #[.slice A1 b.length c1, .slice A2 m.length c2] w fun e w' => e = .returned (.bool true) ∧ Below w.heap.size w w' := by
  by_cases h1 : 100 < b.length
  · have t1 : 100 < (b.length : Int) := by omega
    clear h h1
    go_enter Try.func4, Try.ntmps4
    go_wp2_with (go_at_call 9; refine (fit_c _).mono ?_; rintro e w1 ⟨rfl, hb⟩; have HB := Aside0.mk hb; clear hb)
    go_ret
    exact ⟨rfl, HB.out⟩
  · have t1 : (b.length : Int) ≤ 100 := by omega
    have t2 : 100 < (m.length : Int) := by omega
    clear h h1
    go_enter Try.func4, Try.ntmps4
    go_wp2_with (go_at_call 9; refine (fit_c _).mono ?_; rintro e w1 ⟨rfl, hb⟩; have HB := Aside0.mk hb; clear hb)
    go_ret
    exact ⟨rfl, HB.out⟩
set_option maxHeartbeats 400000 in
set_option maxRecDepth 100000 in
theorem any_none (A1 A2 : Option Addr) (c1 c2 : Nat) (b m : List Int) (w : World) (hr1 : Kd.C (Kd.int .u8) w A1 b.length b) (hc1 : b.length ≤ c1) (hb1 : ∀ x ∈ b, 0 ≤ x ∧ x < 256) (h1 : b.length ≤ 100) (h2 : m.length ≤ 100) (hd : decI b 0 0 = (0, 0)) :
    Calls Try.prog 4 #[.slice A1 b.length c1, .slice A2 m.length c2] w fun e w' => e = .returned (.bool true) ∧ Below w.heap.size w w' := by
  have t1 : (b.length : Int) ≤ 100 := by omega
  have t2 : (m.length : Int) ≤ 100 := by omega
  have ht := fun W h => take_c A1 c1 b W h hc1 hb1 (by omega)
  rw [hd] at ht
  have HT := Aside0.mk ht
  have HR1 := Aside0.mk hr1
  clear h1 h2 hd hr1 ht
  go_enter Try.func4, Try.ntmps4
  go_wp2_with (first | (go_at_call 9; refine (fit_c _).mono ?_; rintro e w1 ⟨rfl, hb⟩; have HB := Aside0.mk hb; clear hb) | (go_at_call 11; refine (HT.out _ (Kd.C_below HR1.out HB.out)).mono ?_; rintro e w2 ⟨rfl, hd⟩; have HB2 := Aside0.mk (below_then HB.out HB.out.size hd.below); clear hd))
  go_ret
  exact ⟨rfl, HB2.out⟩
set_option maxHeartbeats 800000 in
set_option maxRecDepth 100000 in
theorem any_some (A1 A2 : Option Addr) (c1 c2 : Nat) (b m r : List Int) (n : Nat) (w : World) (hr1 : Kd.C (Kd.int .u8) w A1 b.length b) (hr2 : Kd.C (Kd.int .u8) w A2 m.length m) (hc1 : b.length ≤ c1) (hc2 : m.length ≤ c2) (hb1 : ∀ x ∈ b, 0 ≤ x ∧ x < 256) (hb2 : ∀ x ∈ m, 0 ≤ x ∧ x < 256) (h1 : b.length ≤ 100) (h2 : m.length ≤ 100)
    (hn : n < 18446744073709551616) (hb : b = enc n ++ r) :
    Calls Try.prog 4 #[.slice A1 b.length c1, .slice A2 m.length c2] w fun e w' => e = .returned (.bool true) ∧ Below w.heap.size w w' := by
  have t1 : (b.length : Int) ≤ 100 := by omega
  have t2 : (m.length : Int) ≤ 100 := by omega
  have ht := fun W h => take_c A1 c1 b W h hc1 hb1 (by omega)
  rw [show decI b 0 0 = ((n : Int), ((enc n).length : Int)) from by rw [hb]; exact decI_enc n hn r] at ht
  have hlen := enc_len10 n (by omega)
  have hpos := enc_pos n
  have hbl : (enc n).length ≤ b.length := by rw [hb, List.length_append]; omega
  obtain ⟨L, hL⟩ : ∃ L, L = (enc n).length := ⟨_, rfl⟩
  have htk : b.take ((L : Nat) : Int).toNat = enc n := by rw [Int.toNat_natCast, hb, hL, List.take_left]
  have HTK := Aside0.mk htk
  rw [← hL] at hlen hpos hbl ht
  have HT := Aside0.mk ht
  have HR1 := Aside0.mk hr1
  have HR2 := Aside0.mk hr2
  have HB := Aside0.mk hb
  have HL := Aside0.mk hL
  have HN := Aside0.mk hn
  have tl : ((L : Int) == 0) = false := beq_eq_false_iff_ne.mpr (by omega)
  obtain ⟨hcut, hcl, hrc⟩ := cut_to_ex (P := Try.prog) (Kd.int .u8) 24 5 (.int .u8 0) 1 Try.underlying24 info5 A1 c1 b (L : Int) (by omega) (by omega) hc1
  rw [HTK.out, ← HL.out] at hcut hrc
  have HRC := Aside0.mk hrc
  clear h1 h2 hr1 hr2 ht htk hb hL hn hcl hrc
  have hconv : ∀ W, Good w W → (convert 24 9 (.slice A1 L c1)).run Try.prog W = .ok (.string (strOfNums (enc n))) W := fun W hW => by
    have := Kd.C_string (P := Try.prog) (src := 24) (dst := 9) (e := 5) (c := c1) Try.underlying24 Try.underlying5 Try.underlying9 (HRC.out W (Kd.C_below HR1.out hW))
    exact this
  have HCV := Aside0.mk hconv
  clear hconv
  go_enter Try.func4, Try.ntmps4
  go_upto_region 8 with (first | (go_at_call 9; refine (fit_c _).mono ?_; rintro e w1 ⟨rfl, hb⟩; have HB1 := Aside0.mk hb; clear hb) | (go_at_call 11; refine (HT.out _ (Kd.C_below HR1.out HB1.out)).mono ?_; rintro e w2 ⟨rfl, hd⟩; have HB2 := Aside0.mk (below_then HB1.out HB1.out.size hd.below); clear hd))
  go_cut [46] (fun v46 W => v46 = .bool false ∧ Good w W)
  case first =>
    have hG : Good w w2 := HB2.out
    have hconv := HCV.out
    have d1 : decide ((L : Int) < 0) = false := decide_eq_false (by omega)
    have d2 : decide (b.length < L) = false := decide_eq_false (by omega)
    have hput : Calls Try.prog 10 #[.slice none 0 0, .slice (some ⟨w2.heap.size, 0, none⟩) 1 1] (w2.alloc (.cells #[.int .u64 (n : Int)] 26)).drew fun e w' => ∃ (A' : Option Addr) (c' : Nat), e = .returned (.slice A' L c') ∧ (convert 24 9 (.slice A' L c')).run Try.prog w' = .ok (.string (strOfNums (enc n))) w' ∧ Good w w' := by
      have hr := (Kd.R_reads' (lit_R w2 w2.heap.size 26 .u64 (fun _ => True) [(n : Int)] (Nat.le_refl _) trivial (by simp))).2.2
      refine (put_nil_c (some ⟨w2.heap.size, 0, none⟩) 1 [(n : Int)] _ (Kd.C_drew hr) (by simp) (by simp; have := HN.out; omega) (by simp)).mono ?_
      rintro e w' ⟨A', c', rfl, hc, hC, _, hb⟩
      rw [encs_one] at hc hC
      have := Kd.C_string (P := Try.prog) (src := 24) (dst := 9) (e := 5) (c := c') Try.underlying24 Try.underlying5 Try.underlying9 hC
      rw [HL.out, encs_one]
      exact ⟨A', c', rfl, this, below_then (hG.alloc _).drew (by have := hG.size; simp; omega) hb⟩
    have HP := Aside0.mk hput
    have hS : Good w w2.drew ∧ (convert 24 9 (.slice A1 L c1)).run Try.prog w2.drew = .ok (.string (strOfNums (enc n))) w2.drew := ⟨hG.drew, hconv _ hG.drew⟩
    have hG' : Good w (w2.alloc (.cells #[.int .u64 (n : Int)] 26)).drew := (hG.alloc _).drew
    clear hput
    refine start_ (n := 19) (S := fun w' => Good w w' ∧ (convert 24 9 (.slice A1 L c1)).run Try.prog w' = .ok (.string (strOfNums (enc n))) w') (ds := []) #[false, false, false, false, false, false, false, false, false, false, false, false, false, false, false, false, false, false, false] (by kernel_rfl) rfl rfl ⟨hS.1, hS.2⟩ (fun hHeld => ?_)
    refine pure_ (i := 0) (N := some 28) (v := ?_) (a' := ?_) #[true, false, false, false, false, false, false, false, false, false, false, false, false, false, false, false, false, false, false] rfl rfl (by kernel_rfl) (fun _ _ _ h => h) (Or.inl ⟨by rfl, ?_⟩) ?_ ?_
    rotate_left
    · intro w'
      go_simp
      with_reducible rfl
    rotate_left
    · simp only [Act.put, List.setIfInBounds_toArray, List.set_cons_zero, List.set_cons_succ, i64_w, i32_w]
      rfl
    refine pure_ (i := 1) (N := some 29) (v := ?_) (a' := ?_) #[true, true, false, false, false, false, false, false, false, false, false, false, false, false, false, false, false, false, false] rfl rfl (by kernel_rfl) (fun _ _ _ h => h) (Or.inl ⟨by rfl, ?_⟩) ?_ ?_
    rotate_left
    · intro w'
      go_simp
      with_reducible rfl
    rotate_left
    · simp only [Act.put, List.setIfInBounds_toArray, List.set_cons_zero, List.set_cons_succ, i64_w, i32_w]
      rfl
    refine pure_ (i := 2) (N := some 30) (v := ?_) (a' := ?_) #[true, true, true, false, false, false, false, false, false, false, false, false, false, false, false, false, false, false, false] rfl rfl (by kernel_rfl) (fun _ _ _ h => h) (Or.inl ⟨by rfl, ?_⟩) ?_ ?_
    rotate_left
    · intro w'
      go_simp
      with_reducible rfl
    rotate_left
    · simp only [Act.put, List.setIfInBounds_toArray, List.set_cons_zero, List.set_cons_succ, i64_w, i32_w]
      rfl
    refine pure_ (i := 3) (N := some 31) (v := ?_) (a' := ?_) #[true, true, true, true, false, false, false, false, false, false, false, false, false, false, false, false, false, false, false] rfl rfl (by kernel_rfl) (fun _ _ _ h => h) (Or.inl ⟨by rfl, ?_⟩) ?_ ?_
    rotate_left
    · intro w'
      go_simp
      with_reducible rfl
    rotate_left
    · simp only [Act.put, List.setIfInBounds_toArray, List.set_cons_zero, List.set_cons_succ, i64_w, i32_w]
      rfl
    refine pure_ (i := 4) (N := some 32) (v := ?_) (a' := ?_) #[true, true, true, true, true, false, false, false, false, false, false, false, false, false, false, false, false, false, false] rfl rfl (by kernel_rfl) (fun _ _ _ h => h) (Or.inl ⟨by rfl, ?_⟩) ?_ ?_
    rotate_left
    · intro w'
      go_simp
      with_reducible rfl
    rotate_left
    · simp only [Act.put, List.setIfInBounds_toArray, List.set_cons_zero, List.set_cons_succ, i64_w, i32_w]
      rfl
    refine pure_ (i := 5) (N := some 33) (v := ?_) (a' := ?_) #[true, true, true, true, true, true, false, false, false, false, false, false, false, false, false, false, false, false, false] rfl rfl (by kernel_rfl) (fun _ _ _ h => h) (Or.inl ⟨by rfl, ?_⟩) ?_ ?_
    rotate_left
    · intro w'
      go_simp
      with_reducible rfl
    rotate_left
    · simp only [Act.put, List.setIfInBounds_toArray, List.set_cons_zero, List.set_cons_succ, i64_w, i32_w]
      rfl
    refine pure_ (i := 6) (N := some 34) (v := ?_) (a' := ?_) #[true, true, true, true, true, true, true, false, false, false, false, false, false, false, false, false, false, false, false] rfl rfl (by kernel_rfl) (fun _ _ _ h => h) (Or.inl ⟨by rfl, ?_⟩) ?_ ?_
    rotate_left
    · intro w'
      go_simp
      with_reducible rfl
    rotate_left
    · simp only [Act.put, List.setIfInBounds_toArray, List.set_cons_zero, List.set_cons_succ, i64_w, i32_w]
      rfl
    refine pure_ (i := 7) (N := some 35) (v := ?_) (a' := ?_) #[true, true, true, true, true, true, true, true, false, false, false, false, false, false, false, false, false, false, false] rfl rfl (by kernel_rfl) (fun _ _ _ h => h) (Or.inl ⟨by rfl, ?_⟩) ?_ ?_
    rotate_left
    · intro w'
      go_simp
      with_reducible rfl
    rotate_left
    · simp only [Act.put, List.setIfInBounds_toArray, List.set_cons_zero, List.set_cons_succ, i64_w, i32_w]
      rfl
    refine pure_ (i := 8) (N := some 36) (v := ?_) (a' := ?_) #[true, true, true, true, true, true, true, true, true, false, false, false, false, false, false, false, false, false, false] rfl rfl (by kernel_rfl) (fun _ _ _ h => h) (Or.inl ⟨by rfl, ?_⟩) ?_ ?_
    rotate_left
    · intro w'
      go_simp
      with_reducible rfl
    rotate_left
    · simp only [Act.put, List.setIfInBounds_toArray, List.set_cons_zero, List.set_cons_succ, i64_w, i32_w]
      rfl
    refine pure_ (i := 9) (N := some 37) (v := ?_) (a' := ?_) #[true, true, true, true, true, true, true, true, true, true, false, false, false, false, false, false, false, false, false] rfl rfl (by kernel_rfl) (fun _ _ _ h => h) (Or.inl ⟨by rfl, ?_⟩) ?_ ?_
    rotate_left
    · intro w'
      go_simp
      with_reducible rfl
    rotate_left
    · simp only [Act.put, List.setIfInBounds_toArray, List.set_cons_zero, List.set_cons_succ, i64_w, i32_w]
      rfl
    refine pure_ (i := 13) (N := some 41) (v := ?_) (a' := ?_) #[true, true, true, true, true, true, true, true, true, true, false, false, false, true, false, false, false, false, false] rfl rfl (by kernel_rfl) (fun _ _ _ h => h) (Or.inl ⟨by rfl, ?_⟩) ?_ ?_
    rotate_left
    · intro w'
      go_simp
      with_reducible rfl
    rotate_left
    · simp only [Act.put, List.setIfInBounds_toArray, List.set_cons_zero, List.set_cons_succ, i64_w, i32_w]
      rfl
    refine pure_ (i := 14) (N := some 42) (v := ?_) (a' := ?_) #[true, true, true, true, true, true, true, true, true, true, false, false, false, true, true, false, false, false, false] rfl rfl (by kernel_rfl) (fun _ _ _ h => h) (Or.inl ⟨by rfl, ?_⟩) ?_ ?_
    rotate_left
    · intro w'
      go_simp
      with_reducible rfl
    rotate_left
    · simp only [Act.put, List.setIfInBounds_toArray, List.set_cons_zero, List.set_cons_succ, i64_w, i32_w]
      rfl
    refine pure_ (i := 15) (N := some 43) (v := ?_) (a' := ?_) #[true, true, true, true, true, true, true, true, true, true, false, false, false, true, true, true, false, false, false] rfl rfl (by kernel_rfl) (fun _ _ _ h => h) (Or.inl ⟨by rfl, ?_⟩) ?_ ?_
    rotate_left
    · intro w'
      go_simp
      with_reducible rfl
    rotate_left
    · simp only [Act.put, List.setIfInBounds_toArray, List.set_cons_zero, List.set_cons_succ, i64_w, i32_w]
      rfl
    refine take_ (i := 16) (N := some 44) (v := ?_) (a' := ?_) #[true, true, true, true, true, true, true, true, true, true, false, false, false, true, true, true, true, false, false] rfl rfl (by kernel_rfl) (fun _ _ _ h => h) (Or.inl ⟨by rfl, ?_⟩) hHeld ?_ ?_
    rotate_left
    · rintro w' ⟨s0, s1⟩
      go_simp
      with_reducible rfl
    rotate_left
    · simp only [Act.put, List.setIfInBounds_toArray, List.set_cons_zero, List.set_cons_succ, i64_w, i32_w]
      rfl
    refine one_ (i := 10) (N := some 38) #[true, true, true, true, true, true, true, true, true, true, true, false, false, true, true, true, true, false, false] rfl rfl (by kernel_rfl) (by decide) (fun K hK => ?_)
    refine value_ (w1 := ?_) (v := ?_) (by rfl) rfl ?_ ?_
    rotate_left 2
    · go_simp
      constructor
      · rfl
      · rfl
    refine hK.out _ _ ⟨hG', (hconv _ hG')⟩ (fun hHeld => ?_)
    clear hK K
    refine norm_ (a' := ?_) ?_ ?_
    rotate_left
    · show Act.put _ (some 38) _ = _
      simp only [Act.put, List.setIfInBounds_toArray, List.set_cons_zero, List.set_cons_succ, i64_w, i32_w]
      rfl
    refine one_ (i := 11) (N := some 39) #[true, true, true, true, true, true, true, true, true, true, true, true, false, true, true, true, true, false, false] rfl rfl (by kernel_rfl) (by decide) (fun K hK => ?_)
    refine goes_ Try.func10 (by kernel_rfl) rfl #[.slice none 0 0, .slice (some ⟨w2.heap.size, 0, none⟩) 1 1] (by rfl) rfl rfl (by simp only [List.map_toArray, List.map_cons, List.map_nil]; rfl) ?_
    with_reducible refine (HP.out).mono ?_
    rintro e w6 ⟨A6, c6, rfl, hcv6, hG6⟩
    refine ⟨_, rfl, ?_⟩
    refine hK.out _ _ ⟨hG6, (hconv _ hG6)⟩ (fun hHeld => ?_)
    clear hK K
    refine norm_ (a' := ?_) ?_ ?_
    rotate_left
    · show Act.put _ (some 39) _ = _
      simp only [Act.put, List.setIfInBounds_toArray, List.set_cons_zero, List.set_cons_succ, i64_w, i32_w]
      rfl
    refine one_ (i := 12) (N := some 40) #[true, true, true, true, true, true, true, true, true, true, true, true, true, true, true, true, true, false, false] rfl rfl (by kernel_rfl) (by decide) (fun K hK => ?_)
    refine value_ (w1 := ?_) (v := ?_) (by rfl) rfl ?_ ?_
    rotate_left 2
    · go_simp
      constructor
      · rfl
      · rfl
    refine hK.out _ _ ⟨hG6, (hconv _ hG6)⟩ (fun hHeld => ?_)
    clear hK K
    refine norm_ (a' := ?_) ?_ ?_
    rotate_left
    · show Act.put _ (some 40) _ = _
      simp only [Act.put, List.setIfInBounds_toArray, List.set_cons_zero, List.set_cons_succ, i64_w, i32_w]
      rfl
    refine pure_ (i := 17) (N := some 45) (v := ?_) (a' := ?_) #[true, true, true, true, true, true, true, true, true, true, true, true, true, true, true, true, true, true, false] rfl rfl (by kernel_rfl) (fun _ _ _ h => h) (Or.inl ⟨by rfl, ?_⟩) ?_ ?_
    rotate_left
    · intro w'
      go_simp
      with_reducible rfl
    rotate_left
    · simp only [Act.put, List.setIfInBounds_toArray, List.set_cons_zero, List.set_cons_succ, i64_w, i32_w]
      rfl
    refine pure_ (i := 18) (N := some 46) (v := ?_) (a' := ?_) #[true, true, true, true, true, true, true, true, true, true, true, true, true, true, true, true, true, true, true] rfl rfl (by kernel_rfl) (fun _ _ _ h => h) (Or.inl ⟨by rfl, ?_⟩) ?_ ?_
    rotate_left
    · intro w'
      go_simp
      with_reducible rfl
    rotate_left
    · simp only [Act.put, List.setIfInBounds_toArray, List.set_cons_zero, List.set_cons_succ, i64_w, i32_w]
      rfl
    refine done_ (by kernel_rfl) ?_
    go_wp2
    go_meet
    case rel => exact ⟨by first | rfl | (simp; done) | (simp [d1, d2]; done), hG6⟩
  case rest =>
    obtain ⟨rfl, hG⟩ := hcut
    have HBC := Aside0.mk (show Below w.heap.size w wc from hG)
    clear hG
    have HR1c := Aside0.mk (Kd.C_below HR1.out HBC.out)
    have HR2c := Aside0.mk (Kd.C_below HR2.out HBC.out)
    obtain ⟨bm, hbme⟩ : ∃ bm, bm = b ++ m := ⟨_, rfl⟩
    have HBME := Aside0.mk hbme
    have hbm : ∀ x ∈ b ++ m, 0 ≤ x ∧ x < 256 := fun x hx => (List.mem_append.1 hx).elim (hb1 x) (hb2 x)
    rw [← hbme] at hbm
    have HBM := Aside0.mk hbm
    have hde : decI bm 0 0 = ((n : Int), (L : Int)) := by rw [hbme, HB.out, List.append_assoc, HL.out]; exact decI_enc n HN.out _
    have HDE := Aside0.mk hde
    have hl2 : bm.length = b.length + m.length := by rw [hbme, List.length_append]
    have HL2 := Aside0.mk hl2
    have h100 : b.length ≤ 100 ∧ m.length ≤ 100 := by omega
    have H100 := Aside0.mk h100
    clear hbm hde hl2 h100 tl hcut hbme
    go_wp2_with (first
      | ((with_reducible refine gate_builtin (b := .append) (xs := #[.const (.slice none 0 0), .tmp 48]) rfl ?_); at_builtin; refine Kd.R_append_row (h1 := fun _ => rfl) (Value.int .u8) (0 : Int) (w0 := w) w.heap.size rfl (.const (.slice none 0 0)) (.tmp 48) 24 5 (.int .u8 0) 1 rfl Try.underlying24 info5 rfl (by decide) (.slice none 0 0) [] b A1 b.length c1 (fun k => w.heap.size ≤ k) rfl rfl ?aF (Kd.R_nil _ _ _ _ _) HR1c.out HBC.out HBC.out.size ?aL ?_; (case aF => exact fun k hk => Nat.le_trans HBC.out.size hk); (case aL => have := H100.out; simp; omega); intro v1 w7 ho hb hg hat; have HO7 := Aside0.mk ho; have HB7 := Aside0.mk hb; have HR7 := Aside0.mk (Kd.C_below HR2.out hb); clear ho hb hg hat)
      | ((with_reducible refine gate_builtin (b := .append) (xs := #[.tmp 49, .tmp 50]) rfl ?_); at_builtin; refine Kd.R_append_row (h1 := fun _ => rfl) (Value.int .u8) (0 : Int) (w0 := w) w.heap.size rfl (.tmp 49) (.tmp 50) 24 5 (.int .u8 0) 1 rfl Try.underlying24 info5 rfl (by decide) v1 ([] ++ b) m A2 m.length c2 (fun k => w.heap.size ≤ k) rfl rfl ?aF HO7.out HR7.out HB7.out HB7.out.size ?aL ?_; (case aF => exact fun k hk => Nat.le_trans HB7.out.size hk); (case aL => have := H100.out; simp; omega); intro v2 w8 ho hb hg hat; rw [List.nil_append, ← HBME.out] at ho; obtain ⟨A8, c8, rfl⟩ := Kd.R_slice ho; have HC8 := Aside0.mk (Kd.R_reads' ho).2.1; have HR8 := Aside0.mk (Kd.R_reads' ho).2.2; have HB8 := Aside0.mk hb; clear ho hb hg hat)
      | fail)
    have ht8 := take_c A8 c8 bm w8 HR8.out HC8.out HBM.out (by have := HL2.out; have := H100.out; omega)
    rw [HDE.out] at ht8
    refine ht8.mono ?_
    rintro e w9 ⟨rfl, hd⟩
    have HB9 := Aside0.mk (below_then HB8.out HB8.out.size hd.below)
    clear hd ht8
    go_wp2
    go_ret
    exact ⟨by first | rfl | (simp; done), HB9.out⟩
/-- Whole. -/
theorem any_walk (A1 A2 : Option Addr) (c1 c2 : Nat) (b m : List Int) (w : World) (hr1 : Kd.C (Kd.int .u8) w A1 b.length b) (hr2 : Kd.C (Kd.int .u8) w A2 m.length m) (hc1 : b.length ≤ c1) (hc2 : m.length ≤ c2) (hb1 : ∀ x ∈ b, 0 ≤ x ∧ x < 256) (hb2 : ∀ x ∈ m, 0 ≤ x ∧ x < 256) :
    Calls Try.prog 4 #[.slice A1 b.length c1, .slice A2 m.length c2] w fun e w' => e = .returned (.bool true) ∧ Below w.heap.size w w' := by
  by_cases h : 100 < b.length ∨ 100 < m.length
  · exact any_big A1 A2 c1 c2 b m w h
  · cases hd : dec b 0 0 with
    | mk v k =>
      rcases dec_some b 0 0 v k hb1 hd with ⟨rfl, rfl⟩ | ⟨n, r, h1, h2, h3, _, h5, _⟩
      · exact any_none A1 A2 c1 c2 b m w hr1 hc1 hb1 (by omega) (by omega) (by unfold decI; rw [hd]; rfl)
      · exact any_some A1 A2 c1 c2 b m r n w hr1 hr2 hc1 hc2 hb1 hb2 (by omega) (by omega) (by simpa using h5) h1
theorem wf_u8 {x : Int} (h : (Lit.int .u8 x).wf = true) : 0 ≤ x ∧ x < 256 := by
  have h2 : 0 ≤ x ∧ x ≤ 255 := by simpa [Lit.wf, IntKind.min, IntKind.max, IntKind.bits, IntKind.signed] using h
  omega
/-- As the row hands it over. -/
theorem any_row {W : World} (a : Option Addr) (cap : Nat) (l : List Int) (hr : ReadsInt W .u8 a l.length l) (hc : l.length ≤ cap) (hw : ∀ x ∈ l, (Lit.int .u8 x).wf = true) (_ : l.length * 1 ≤ 140737488351232)
    (a2 : Option Addr) (cap2 : Nat) (l2 : List Int) (hr2 : ReadsInt W .u8 a2 l2.length l2) (hc2 : l2.length ≤ cap2) (hw2 : ∀ x ∈ l2, (Lit.int .u8 x).wf = true) (_ : l2.length * 1 ≤ 140737488351232) :
    Calls Try.prog 4 #[.slice a l.length cap, .slice a2 l2.length cap2] W fun e w' => e = .returned (.bool true) ∧ Below W.heap.size W w' :=
  any_walk a a2 cap cap2 l l2 W (Kd.C_of_reads (d := (0 : Int)) (h1 := fun _ => rfl) hr) (Kd.C_of_reads (d := (0 : Int)) (h1 := fun _ => rfl) hr2) hc hc2 (fun x hx => wf_u8 (hw x hx)) (fun x hx => wf_u8 (hw2 x hx))
end Go.Proofs.Ytmkcblcgjjjkiaa.AnyWalk
