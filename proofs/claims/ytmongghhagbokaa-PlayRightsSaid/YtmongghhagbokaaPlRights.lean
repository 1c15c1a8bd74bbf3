/- The law PlayRights returns true: a walk through its text; no condition. -/
import Derived.Test.YtmongghhagbokaaPlFit
import Derived.Test.YtmongghhagbokaaEvOpen
namespace Go.Proofs.Ytmongghhagbokaa.PlRights
open Go.RowKit Go.Proofs.Ytmongghhagbokaa.Kit Go.Proofs.Ytmongghhagbokaa.Plain Go.Proofs.Ytmongghhagbokaa.Mine Go.Proofs.Ytmongghhagbokaa.Event Go.Proofs.Ytmongghhagbokaa.EventRef Go.Proofs.Ytmongghhagbokaa.EventList Go.Proofs.Ytmongghhagbokaa.EventListR Go.Proofs.Ytmongghhagbokaa.EvUntil Go.Proofs.Ytmongghhagbokaa.PlScale Go.Proofs.Ytmongghhagbokaa.PlNow Go.Proofs.Ytmongghhagbokaa.PlDue Go.Proofs.Ytmongghhagbokaa.PlNew Go.Proofs.Ytmongghhagbokaa.PlFit Go.Proofs.YtmongghhagbokaaW.PrintWords Go.Proofs.YtmongghhagbokaaW.PrintLast Go.Proofs.YtmongghhagbokaaW.PrintMore
open Go.Proofs.Ytmongghhagbokaa.PPlayRights (S54 z54 k54 k54_open k54_mk k54_mkM rd_T54 at_T54 info54)
set_option linter.unusedVariables false
set_option linter.unusedSimpArgs false
set_option maxHeartbeats 3200000 in
set_option maxRecDepth 100000 in
theorem rights_big (A : Option Addr) (c : Nat) (l : List S54) (a b d : Int) (w : World) (hl : 60 < l.length) (hm : l.length ≤ maxLen) :
    Calls Try.prog 5 #[.slice A l.length c, .agg #[.int .i64 a, .int .i64 b, .int .i64 d]] w fun e w' => e = .returned (.bool true) ∧ Below w.heap.size w w' := by
  have h1 : (60 : Int) < l.length := by omega
  have h2 : (l.length : Int) ≤ 9223372036854775807 := by have := hm; unfold maxLen at this; omega
  clear hl hm
  go_enter Try.func5, Try.ntmps5
  go_wp2_with fail
  have hb0 := below_alloc (Below.refl w.heap.size w) (.cells #[.int .i64 a, .int .i64 b, .int .i64 d] 23)
  refine (fit_c _).mono ?_
  rintro e w1 ⟨rfl, hb⟩
  have HB := Aside0.mk (below_then hb0 (Nat.le_trans (Nat.le_refl _) hb0.size) hb)
  clear hb hb0
  go_wp2
  go_ret
  exact ⟨rfl, HB.out⟩
set_option maxHeartbeats 3200000 in
set_option maxRecDepth 100000 in
theorem rights_bad (A : Option Addr) (c : Nat) (l : List S54) (a b d : Int) (w : World) (hC : Kd.C k54 w A l.length l) (hl : l.length ≤ 60) (h : okNew a b d l = false) :
    Calls Try.prog 5 #[.slice A l.length c, .agg #[.int .i64 a, .int .i64 b, .int .i64 d]] w fun e w' => e = .returned (.bool true) ∧ Below w.heap.size w w' := by
  have h1 : (l.length : Int) ≤ 60 := by omega
  have HNB := Aside0.mk (fun W (hc : Kd.C k54 W A l.length l) => new_bad A c l a b d W hc h)
  have HRL := Aside0.mk (fun W (hc : Kd.C k54 W A l.length l) => rlist_c A c l W hc)
  have HRS := Aside0.mk (fun W => rspeed_c b d W)
  have HC := Aside0.mk hC
  obtain ⟨r, hr⟩ : ∃ r, r = listR 0 l := ⟨_, rfl⟩
  obtain ⟨s, hs⟩ : ∃ s, s = speedB b d := ⟨_, rfl⟩
  have hor : r = false ∨ (r = true ∧ (a < 0 ∨ (0 ≤ a ∧ 4611686018427387904 ≤ a) ∨ (0 ≤ a ∧ a ≤ 4611686018427387903 ∧ s = false))) := by
    unfold okNew at h
    rw [← hr, ← hs] at h
    cases hr' : r with
    | false => exact .inl rfl
    | true =>
      refine .inr ⟨rfl, ?_⟩
      by_cases k1 : a < 0
      · exact .inl k1
      · by_cases k2 : 4611686018427387904 ≤ a
        · exact .inr (.inl ⟨by omega, k2⟩)
        · refine .inr (.inr ⟨by omega, by omega, ?_⟩)
          rw [hr', decide_eq_true (show 0 ≤ a ∧ a < 4611686018427387904 from ⟨by omega, by omega⟩)] at h
          simpa using h
  rw [← hr] at HRL
  rw [← hs] at HRS
  have HOR := Aside0.mk hor
  clear hC hl h hr hs hor
  go_enter Try.func5, Try.ntmps5
  go_upto_region 1 with fail
  obtain ⟨w1, hw1⟩ : ∃ w1, w1 = w.alloc (.cells #[.int .i64 a, .int .i64 b, .int .i64 d] 23) := ⟨_, rfl⟩
  obtain ⟨g, hg⟩ : ∃ g, g = w.heap.size := ⟨_, rfl⟩
  have HK1 := Aside0.mk (show w1.heap[g]? = some (.cells #[.int .i64 a, .int .i64 b, .int .i64 d] 23 (0, 0)) from by rw [hw1, hg]; exact blk_new w _)
  have hb1 : Below w.heap.size w w1 := by rw [hw1]; exact below_alloc (Below.refl _ _) _
  have HB1 := Aside0.mk hb1
  have HC1 := Aside0.mk (Kd.C_below HC.out hb1)
  rw [← hw1, ← hg]
  clear hw1 hg hb1
  go_wp2_with fail
  refine (fit_c _).mono ?_
  rintro e w2 ⟨rfl, hb⟩
  have HK2 := Aside0.mk (blk_below HK1.out hb)
  have HB2 := Aside0.mk (below_kept HB1.out hb)
  have HC2 := Aside0.mk (Kd.C_below HC1.out hb)
  clear hb
  have c0 : w2.cell? ⟨g, 0, none⟩ = some (.int .i64 a) := (blk_cell HK2.out 0).trans rfl
  have c1 : w2.cell? ⟨g, 1, none⟩ = some (.int .i64 b) := (blk_cell HK2.out 1).trans rfl
  have c2 : w2.cell? ⟨g, 2, none⟩ = some (.int .i64 d) := (blk_cell HK2.out 2).trans rfl
  go_wp2_with fail
  refine (HNB.out w2 HC2.out).mono ?_
  rintro e w3 ⟨rfl, hb⟩
  have HK3 := Aside0.mk (blk_below HK2.out hb)
  have HB3 := Aside0.mk (below_kept HB2.out hb)
  have HC3 := Aside0.mk (Kd.C_below HC2.out hb)
  clear hb c0 c1 c2
  go_wp2_with fail
  refine (HRL.out w3 HC3.out).mono ?_
  rintro e w4 ⟨rfl, hb⟩
  have HK4 := Aside0.mk (blk_below HK3.out hb)
  have HB4 := Aside0.mk (below_kept HB3.out hb)
  clear hb
  have c0 : w4.cell? ⟨g, 0, none⟩ = some (.int .i64 a) := (blk_cell HK4.out 0).trans rfl
  have c1 : w4.cell? ⟨g, 1, none⟩ = some (.int .i64 b) := (blk_cell HK4.out 1).trans rfl
  have c2 : w4.cell? ⟨g, 2, none⟩ = some (.int .i64 d) := (blk_cell HK4.out 2).trans rfl
  rcases HOR.out with h | ⟨h, h2 | ⟨h2, h3⟩ | ⟨h2, h3, h4⟩⟩
  · subst h
    clear HOR
    go_wp2
    go_ret
    exact ⟨rfl, HB4.out⟩
  · subst h
    clear HOR
    go_wp2
    go_ret
    exact ⟨rfl, HB4.out⟩
  · subst h
    clear HOR
    have n1 : decide (a < 0) = false := decide_eq_false (by omega)
    have n2 : (4611686018427387903 : Int) < a := by omega
    clear h3
    go_wp2
    go_ret
    exact ⟨rfl, HB4.out⟩
  · subst h
    subst h4
    clear HOR
    have n1 : decide (a < 0) = false := decide_eq_false (by omega)
    have n2 : decide ((4611686018427387903 : Int) < a) = false := decide_eq_false (by omega)
    go_wp2_with fail
    refine (HRS.out w4).mono ?_
    rintro e w5 ⟨rfl, hb⟩
    have HB5 := Aside0.mk (below_kept HB4.out hb)
    clear hb
    go_wp2
    go_ret
    exact ⟨rfl, HB5.out⟩
theorem scl_zero (p q : Nat) : scl 0 p q = 0 := by unfold scl; rw [Nat.zero_mul, Nat.zero_div]; rfl
set_option maxHeartbeats 3200000 in
set_option maxRecDepth 100000 in
theorem rights_ok (A : Option Addr) (c : Nat) (l : List S54) (a b d : Nat) (w : World) (hC : Kd.C k54 w A l.length l) (hl : l.length ≤ 60) (ha : a < 4611686018427387904) (hs : speedB b d = true) (hr : listR 0 l = true) :
    Calls Try.prog 5 #[.slice A l.length c, .agg #[.int .i64 a, .int .i64 b, .int .i64 d]] w fun e w' => e = .returned (.bool true) ∧ Below w.heap.size w w' := by
  have hu := Try.underlying57
  have h1 : (l.length : Int) ≤ 60 := by omega
  have h0 : (0 : Int) ≤ a := by omega
  have h2 : (a : Int) ≤ 4611686018427387903 := by omega
  have HNO := Aside0.mk (fun W (hc : Kd.C k54 W A l.length l) => new_ok A c l a b d W hc (by omega) ha hs hr)
  have HRL := Aside0.mk (fun W (hc : Kd.C k54 W A l.length l) => rlist_c A c l W hc)
  have HRS := Aside0.mk (fun W => rspeed_c b d W)
  have HRU := Aside0.mk (fun W (hc : Kd.C k54 W A l.length l) => runtil_c A c l (a : Int) W hc (by omega))
  rw [hr] at HRL
  rw [hs] at HRS
  have hcl := countT_le (a : Int) l
  have hnow : nowN a b d 0 = a := by unfold nowN; rw [scl_zero, Nat.add_zero]; exact Nat.min_eq_left (by omega)
  have hsp := of_decide_eq_true hs
  have hfi : Fine a b d 0 := ⟨ha, by omega, by omega, by omega, by omega, by decide, by simp⟩
  obtain ⟨k, hk⟩ : ∃ k, k = countT (a : Int) l := ⟨_, rfl⟩
  rw [← hk] at HNO HRU hcl
  have HNW := Aside0.mk (fun g ev W (hk : PC W g ev a b d 0 k false) => now_c g ev a b d 0 k false W hk hfi)
  rw [hnow] at HNW
  obtain ⟨n, hn⟩ : ∃ n, n = l.length := ⟨_, rfl⟩
  have HC := Aside0.mk hC
  rw [← hn] at HNO HRL HRU HC hcl h1
  rw [← hn]
  have hsub : wrap64 ((n : Int) - k) = ((n - k : Nat) : Int) := by unfold wrap64; omega
  have HCL := Aside0.mk hcl
  have HN5 := Aside0.mk (show n < 1000000000 by omega)
  have n1 : decide ((a : Int) < 0) = false := decide_eq_false (by omega)
  have n2 : decide ((4611686018427387903 : Int) < a) = false := decide_eq_false (by omega)
  clear hC hl ha hs hr hnow hsp hfi hk hn hcl
  go_enter Try.func5, Try.ntmps5
  go_upto_region 1 with fail
  obtain ⟨w1, hw1⟩ : ∃ w1, w1 = w.alloc (.cells #[.int .i64 a, .int .i64 b, .int .i64 d] 23) := ⟨_, rfl⟩
  obtain ⟨gs, hg⟩ : ∃ g, g = w.heap.size := ⟨_, rfl⟩
  have HK1 := Aside0.mk (show w1.heap[gs]? = some (.cells #[.int .i64 a, .int .i64 b, .int .i64 d] 23 (0, 0)) from by rw [hw1, hg]; exact blk_new w _)
  have hb1 : Below w.heap.size w w1 := by rw [hw1]; exact below_alloc (Below.refl _ _) _
  have HB1 := Aside0.mk hb1
  have HC1 := Aside0.mk (Kd.C_below HC.out hb1)
  rw [← hw1, ← hg]
  clear hw1 hg hb1 hsub
  have hsub := HCL.out
  clear hsub
  go_wp2_with fail
  refine (fit_c _).mono ?_
  rintro e w2 ⟨rfl, hb⟩
  have HK2 := Aside0.mk (blk_below HK1.out hb)
  have HB2 := Aside0.mk (below_kept HB1.out hb)
  have HC2 := Aside0.mk (Kd.C_below HC1.out hb)
  clear hb
  have c0 : w2.cell? ⟨gs, 0, none⟩ = some (.int .i64 a) := (blk_cell HK2.out 0).trans rfl
  have c1 : w2.cell? ⟨gs, 1, none⟩ = some (.int .i64 b) := (blk_cell HK2.out 1).trans rfl
  have c2 : w2.cell? ⟨gs, 2, none⟩ = some (.int .i64 d) := (blk_cell HK2.out 2).trans rfl
  go_wp2_with fail
  refine (HNO.out w2 HC2.out).mono ?_
  rintro e w3 ⟨g, A2, cp, rfl, hgw, hp, _, hb⟩
  have HP3 := Aside0.mk hp
  have HK3 := Aside0.mk (blk_below HK2.out hb)
  have HB3 := Aside0.mk (below_kept HB2.out hb)
  have HC3 := Aside0.mk (Kd.C_below HC2.out hb)
  clear hb c0 c1 c2 hp hgw
  go_wp2_with fail
  refine (HRL.out w3 HC3.out).mono ?_
  rintro e w4 ⟨rfl, hb⟩
  have HP4 := Aside0.mk (show PC w4 g (.slice A2 n cp) a b d 0 k false from blk_below HP3.out hb)
  have HK4 := Aside0.mk (blk_below HK3.out hb)
  have HB4 := Aside0.mk (below_kept HB3.out hb)
  have HC4 := Aside0.mk (Kd.C_below HC3.out hb)
  clear hb
  have c0 : w4.cell? ⟨gs, 0, none⟩ = some (.int .i64 a) := (blk_cell HK4.out 0).trans rfl
  have c1 : w4.cell? ⟨gs, 1, none⟩ = some (.int .i64 b) := (blk_cell HK4.out 1).trans rfl
  have c2 : w4.cell? ⟨gs, 2, none⟩ = some (.int .i64 d) := (blk_cell HK4.out 2).trans rfl
  go_wp2_with fail
  refine (HRS.out w4).mono ?_
  rintro e w5 ⟨rfl, hb⟩
  have HP5 := Aside0.mk (show PC w5 g (.slice A2 n cp) a b d 0 k false from blk_below HP4.out hb)
  have HK5 := Aside0.mk (blk_below HK4.out hb)
  have HB5 := Aside0.mk (below_kept HB4.out hb)
  have HC5 := Aside0.mk (Kd.C_below HC4.out hb)
  clear hb c0 c1 c2
  go_upto_region 8 with fail
  have hsub : wrap64 ((n : Int) - k) = ((n - k : Nat) : Int) := by have := HCL.out; unfold wrap64; omega
  have hsub2 : (n : Int) - k = ((n - k : Nat) : Int) := by have := HCL.out; omega
  have hsub3 : wrap64 ((n - k : Nat) : Int) = ((n - k : Nat) : Int) := by have := HCL.out; unfold wrap64; omega
  have HB5d := Aside0.mk (below_drew HB5.out)
  have HP5d := Aside0.mk (show PC w5.drew g (.slice A2 n cp) a b d 0 k false from blk_drew HP5.out)
  have c0 : w5.drew.cell? ⟨gs, 0, none⟩ = some (.int .i64 a) := (blk_cell (blk_drew HK5.out) 0).trans rfl
  have HK5d := Aside0.mk (blk_drew HK5.out)
  have HC5d := Aside0.mk (Kd.C_drew HC5.out)
  refine start_ (n := 31) (S := fun w' => w'.cell? ⟨gs, 0, none⟩ = some (.int .i64 a)) (ds := []) #[false, false, false, false, false, false, false, false, false, false, false, false, false, false, false, false, false, false, false, false, false, false, false, false, false, false, false, false, false, false, false] (by kernel_rfl) rfl rfl (c0) (fun hHeld => ?_)
  refine pure_ (i := 0) (N := some 50) (v := ?_) (a' := ?_) #[true, false, false, false, false, false, false, false, false, false, false, false, false, false, false, false, false, false, false, false, false, false, false, false, false, false, false, false, false, false, false] rfl rfl (by kernel_rfl) (fun _ _ _ h => h) (Or.inl ⟨by rfl, ?_⟩) ?_ ?_
  rotate_left
  · intro w'
    go_simp
    with_reducible rfl
  rotate_left
  · simp only [Act.put, List.setIfInBounds_toArray, List.set_cons_zero, List.set_cons_succ, i64_w, i32_w]
    rfl
  refine pure_ (i := 1) (N := some 51) (v := ?_) (a' := ?_) #[true, true, false, false, false, false, false, false, false, false, false, false, false, false, false, false, false, false, false, false, false, false, false, false, false, false, false, false, false, false, false] rfl rfl (by kernel_rfl) (fun _ _ _ h => h) (Or.inl ⟨by rfl, ?_⟩) ?_ ?_
  rotate_left
  · intro w'
    go_simp
    with_reducible rfl
  rotate_left
  · simp only [Act.put, List.setIfInBounds_toArray, List.set_cons_zero, List.set_cons_succ, i64_w, i32_w]
    rfl
  refine pure_ (i := 2) (N := some 52) (v := ?_) (a' := ?_) #[true, true, true, false, false, false, false, false, false, false, false, false, false, false, false, false, false, false, false, false, false, false, false, false, false, false, false, false, false, false, false] rfl rfl (by kernel_rfl) (fun _ _ _ h => h) (Or.inl ⟨by rfl, ?_⟩) ?_ ?_
  rotate_left
  · intro w'
    go_simp
    with_reducible rfl
  rotate_left
  · simp only [Act.put, List.setIfInBounds_toArray, List.set_cons_zero, List.set_cons_succ, i64_w, i32_w]
    rfl
  refine pure_ (i := 3) (N := some 53) (v := ?_) (a' := ?_) #[true, true, true, true, false, false, false, false, false, false, false, false, false, false, false, false, false, false, false, false, false, false, false, false, false, false, false, false, false, false, false] rfl rfl (by kernel_rfl) (fun _ _ _ h => h) (Or.inl ⟨by rfl, ?_⟩) ?_ ?_
  rotate_left
  · intro w'
    go_simp
    with_reducible rfl
  rotate_left
  · simp only [Act.put, List.setIfInBounds_toArray, List.set_cons_zero, List.set_cons_succ, i64_w, i32_w]
    rfl
  refine pure_ (i := 4) (N := some 54) (v := ?_) (a' := ?_) #[true, true, true, true, true, false, false, false, false, false, false, false, false, false, false, false, false, false, false, false, false, false, false, false, false, false, false, false, false, false, false] rfl rfl (by kernel_rfl) (fun _ _ _ h => h) (Or.inl ⟨by rfl, ?_⟩) ?_ ?_
  rotate_left
  · intro w'
    go_simp
    with_reducible rfl
  rotate_left
  · simp only [Act.put, List.setIfInBounds_toArray, List.set_cons_zero, List.set_cons_succ, i64_w, i32_w]
    rfl
  refine pure_ (i := 5) (N := some 55) (v := ?_) (a' := ?_) #[true, true, true, true, true, true, false, false, false, false, false, false, false, false, false, false, false, false, false, false, false, false, false, false, false, false, false, false, false, false, false] rfl rfl (by kernel_rfl) (fun _ _ _ h => h) (Or.inl ⟨by rfl, ?_⟩) ?_ ?_
  rotate_left
  · intro w'
    go_simp
    with_reducible rfl
  rotate_left
  · simp only [Act.put, List.setIfInBounds_toArray, List.set_cons_zero, List.set_cons_succ, i64_w, i32_w]
    rfl
  refine pure_ (i := 6) (N := some 56) (v := ?_) (a' := ?_) #[true, true, true, true, true, true, true, false, false, false, false, false, false, false, false, false, false, false, false, false, false, false, false, false, false, false, false, false, false, false, false] rfl rfl (by kernel_rfl) (fun _ _ _ h => h) (Or.inl ⟨by rfl, ?_⟩) ?_ ?_
  rotate_left
  · intro w'
    go_simp
    with_reducible rfl
  rotate_left
  · simp only [Act.put, List.setIfInBounds_toArray, List.set_cons_zero, List.set_cons_succ, i64_w, i32_w]
    rfl
  refine pure_ (i := 7) (N := some 57) (v := ?_) (a' := ?_) #[true, true, true, true, true, true, true, true, false, false, false, false, false, false, false, false, false, false, false, false, false, false, false, false, false, false, false, false, false, false, false] rfl rfl (by kernel_rfl) (fun _ _ _ h => h) (Or.inl ⟨by rfl, ?_⟩) ?_ ?_
  rotate_left
  · intro w'
    go_simp
    with_reducible rfl
  rotate_left
  · simp only [Act.put, List.setIfInBounds_toArray, List.set_cons_zero, List.set_cons_succ, i64_w, i32_w]
    rfl
  refine pure_ (i := 9) (N := some 59) (v := ?_) (a' := ?_) #[true, true, true, true, true, true, true, true, false, true, false, false, false, false, false, false, false, false, false, false, false, false, false, false, false, false, false, false, false, false, false] rfl rfl (by kernel_rfl) (fun _ _ _ h => h) (Or.inl ⟨by rfl, ?_⟩) ?_ ?_
  rotate_left
  · intro w'
    go_simp
    with_reducible rfl
  rotate_left
  · simp only [Act.put, List.setIfInBounds_toArray, List.set_cons_zero, List.set_cons_succ, i64_w, i32_w]
    rfl
  refine take_ (i := 10) (N := some 60) (v := ?_) (a' := ?_) #[true, true, true, true, true, true, true, true, false, true, true, false, false, false, false, false, false, false, false, false, false, false, false, false, false, false, false, false, false, false, false] rfl rfl (by kernel_rfl) (fun _ _ _ h => h) (Or.inl ⟨by rfl, ?_⟩) hHeld ?_ ?_
  rotate_left
  · intro w' s0
    go_simp
    with_reducible rfl
  rotate_left
  · simp only [Act.put, List.setIfInBounds_toArray, List.set_cons_zero, List.set_cons_succ, i64_w, i32_w]
    rfl
  refine one_ (i := 8) (N := some 58) #[true, true, true, true, true, true, true, true, true, true, true, false, false, false, false, false, false, false, false, false, false, false, false, false, false, false, false, false, false, false, false] rfl rfl (by kernel_rfl) (by decide) (fun K hK => ?_)
  refine goes_ Try.func13 (by kernel_rfl) rfl #[.pointer (some ⟨g, 0, none⟩)] (by rfl) rfl rfl (by simp only [List.map_toArray, List.map_cons, List.map_nil]; rfl) ?_
  with_reducible refine (HNW.out g _ _ HP5d.out).mono ?_
  rintro e w6 ⟨rfl, hb6⟩
  refine ⟨_, rfl, ?_⟩
  have HP6 := Aside0.mk (show PC w6 g (.slice A2 n cp) a b d 0 k false from blk_below HP5d.out hb6)
  have HK6 := Aside0.mk (blk_below HK5d.out hb6)
  have HB6 := Aside0.mk (below_kept HB5d.out hb6)
  have HC6 := Aside0.mk (Kd.C_below HC5d.out hb6)
  clear hb6
  have e6 := (blk_cell HK6.out 0).trans (rfl : _ = some (Value.int .i64 a))
  refine hK.out _ _ (e6) (fun hHeld => ?_)
  clear hK K
  refine norm_ (a' := ?_) ?_ ?_
  rotate_left
  · show Act.put _ (some 58) _ = _
    simp only [Act.put, List.setIfInBounds_toArray, List.set_cons_zero, List.set_cons_succ, i64_w, i32_w]
    rfl
  refine pure_ (i := 11) (N := some 61) (v := ?_) (a' := ?_) #[true, true, true, true, true, true, true, true, true, true, true, true, false, false, false, false, false, false, false, false, false, false, false, false, false, false, false, false, false, false, false] rfl rfl (by kernel_rfl) (fun _ _ _ h => h) (Or.inl ⟨by rfl, ?_⟩) ?_ ?_
  rotate_left
  · intro w'
    go_simp
    with_reducible rfl
  rotate_left
  · simp only [Act.put, List.setIfInBounds_toArray, List.set_cons_zero, List.set_cons_succ, i64_w, i32_w]
    rfl
  refine pure_ (i := 12) (N := some 62) (v := ?_) (a' := ?_) #[true, true, true, true, true, true, true, true, true, true, true, true, true, false, false, false, false, false, false, false, false, false, false, false, false, false, false, false, false, false, false] rfl rfl (by kernel_rfl) (fun _ _ _ h => h) (Or.inl ⟨by rfl, ?_⟩) ?_ ?_
  rotate_left
  · intro w'
    go_simp
    with_reducible rfl
  rotate_left
  · simp only [Act.put, List.setIfInBounds_toArray, List.set_cons_zero, List.set_cons_succ, i64_w, i32_w]
    rfl
  refine pure_ (i := 13) (N := some 63) (v := ?_) (a' := ?_) #[true, true, true, true, true, true, true, true, true, true, true, true, true, true, false, false, false, false, false, false, false, false, false, false, false, false, false, false, false, false, false] rfl rfl (by kernel_rfl) (fun _ _ _ h => h) (Or.inl ⟨by rfl, ?_⟩) ?_ ?_
  rotate_left
  · intro w'
    go_simp
    with_reducible rfl
  rotate_left
  · simp only [Act.put, List.setIfInBounds_toArray, List.set_cons_zero, List.set_cons_succ, i64_w, i32_w]
    rfl
  refine pure_ (i := 14) (N := some 64) (v := ?_) (a' := ?_) #[true, true, true, true, true, true, true, true, true, true, true, true, true, true, true, false, false, false, false, false, false, false, false, false, false, false, false, false, false, false, false] rfl rfl (by kernel_rfl) (fun _ _ _ h => h) (Or.inl ⟨by rfl, ?_⟩) ?_ ?_
  rotate_left
  · intro w'
    go_simp
    with_reducible rfl
  rotate_left
  · simp only [Act.put, List.setIfInBounds_toArray, List.set_cons_zero, List.set_cons_succ, i64_w, i32_w]
    rfl
  refine pure_ (i := 16) (N := some 66) (v := ?_) (a' := ?_) #[true, true, true, true, true, true, true, true, true, true, true, true, true, true, true, false, true, false, false, false, false, false, false, false, false, false, false, false, false, false, false] rfl rfl (by kernel_rfl) (fun _ _ _ h => h) (Or.inl ⟨by rfl, ?_⟩) ?_ ?_
  rotate_left
  · intro w'
    go_simp
    with_reducible rfl
  rotate_left
  · simp only [Act.put, List.setIfInBounds_toArray, List.set_cons_zero, List.set_cons_succ, i64_w, i32_w]
    rfl
  refine pure_ (i := 17) (N := some 67) (v := ?_) (a' := ?_) #[true, true, true, true, true, true, true, true, true, true, true, true, true, true, true, false, true, true, false, false, false, false, false, false, false, false, false, false, false, false, false] rfl rfl (by kernel_rfl) (fun _ _ _ h => h) (Or.inl ⟨by rfl, ?_⟩) ?_ ?_
  rotate_left
  · intro w'
    go_simp
    with_reducible rfl
  rotate_left
  · simp only [Act.put, List.setIfInBounds_toArray, List.set_cons_zero, List.set_cons_succ, i64_w, i32_w]
    rfl
  refine pure_ (i := 18) (N := some 68) (v := ?_) (a' := ?_) #[true, true, true, true, true, true, true, true, true, true, true, true, true, true, true, false, true, true, true, false, false, false, false, false, false, false, false, false, false, false, false] rfl rfl (by kernel_rfl) (fun _ _ _ h => h) (Or.inl ⟨by rfl, ?_⟩) ?_ ?_
  rotate_left
  · intro w'
    go_simp
    with_reducible rfl
  rotate_left
  · simp only [Act.put, List.setIfInBounds_toArray, List.set_cons_zero, List.set_cons_succ, i64_w, i32_w]
    rfl
  refine pure_ (i := 19) (N := some 69) (v := ?_) (a' := ?_) #[true, true, true, true, true, true, true, true, true, true, true, true, true, true, true, false, true, true, true, true, false, false, false, false, false, false, false, false, false, false, false] rfl rfl (by kernel_rfl) (fun _ _ _ h => h) (Or.inl ⟨by rfl, ?_⟩) ?_ ?_
  rotate_left
  · intro w'
    go_simp
    with_reducible rfl
  rotate_left
  · simp only [Act.put, List.setIfInBounds_toArray, List.set_cons_zero, List.set_cons_succ, i64_w, i32_w]
    rfl
  refine take_ (i := 20) (N := some 70) (v := ?_) (a' := ?_) #[true, true, true, true, true, true, true, true, true, true, true, true, true, true, true, false, true, true, true, true, true, false, false, false, false, false, false, false, false, false, false] rfl rfl (by kernel_rfl) (fun _ _ _ h => h) (Or.inl ⟨by rfl, ?_⟩) hHeld ?_ ?_
  rotate_left
  · intro w' s0
    go_simp
    with_reducible rfl
  rotate_left
  · simp only [Act.put, List.setIfInBounds_toArray, List.set_cons_zero, List.set_cons_succ, i64_w, i32_w]
    rfl
  refine one_ (i := 15) (N := some 65) #[true, true, true, true, true, true, true, true, true, true, true, true, true, true, true, true, true, true, true, true, true, false, false, false, false, false, false, false, false, false, false] rfl rfl (by kernel_rfl) (by decide) (fun K hK => ?_)
  refine goes_ Try.func14 (by kernel_rfl) rfl #[.pointer (some ⟨g, 0, none⟩)] (by rfl) rfl rfl (by simp only [List.map_toArray, List.map_cons, List.map_nil]; rfl) ?_
  with_reducible refine (left_c g A2 n cp a b d 0 k false _ HP6.out HCL.out HN5.out).mono ?_
  rintro e w7 ⟨rfl, hb7⟩
  refine ⟨_, rfl, ?_⟩
  have HP7 := Aside0.mk (show PC w7 g (.slice A2 n cp) a b d 0 k false from blk_below HP6.out hb7)
  have HK7 := Aside0.mk (blk_below HK6.out hb7)
  have HB7 := Aside0.mk (below_kept HB6.out hb7)
  have HC7 := Aside0.mk (Kd.C_below HC6.out hb7)
  clear hb7
  have e7 := (blk_cell HK7.out 0).trans (rfl : _ = some (Value.int .i64 a))
  refine hK.out _ _ (e7) (fun hHeld => ?_)
  clear hK K
  refine norm_ (a' := ?_) ?_ ?_
  rotate_left
  · show Act.put _ (some 65) _ = _
    simp only [Act.put, List.setIfInBounds_toArray, List.set_cons_zero, List.set_cons_succ, i64_w, i32_w]
    rfl
  refine one_ (i := 21) (N := some 71) #[true, true, true, true, true, true, true, true, true, true, true, true, true, true, true, true, true, true, true, true, true, true, false, false, false, false, false, false, false, false, false] rfl rfl (by kernel_rfl) (by decide) (fun K hK => ?_)
  refine goes_ Try.func15 (by kernel_rfl) rfl #[.slice A n c, .int .i64 a] (by rfl) rfl rfl (by simp only [List.map_toArray, List.map_cons, List.map_nil]; rfl) ?_
  with_reducible refine (HRU.out _ HC7.out).mono ?_
  rintro e w8 ⟨rfl, hb8⟩
  refine ⟨_, rfl, ?_⟩
  have HP8 := Aside0.mk (show PC w8 g (.slice A2 n cp) a b d 0 k false from blk_below HP7.out hb8)
  have HK8 := Aside0.mk (blk_below HK7.out hb8)
  have HB8 := Aside0.mk (below_kept HB7.out hb8)
  have HC8 := Aside0.mk (Kd.C_below HC7.out hb8)
  clear hb8
  have e8 := (blk_cell HK8.out 0).trans (rfl : _ = some (Value.int .i64 a))
  refine hK.out _ _ (e8) (fun hHeld => ?_)
  clear hK K
  refine norm_ (a' := ?_) ?_ ?_
  rotate_left
  · show Act.put _ (some 71) _ = _
    simp only [Act.put, List.setIfInBounds_toArray, List.set_cons_zero, List.set_cons_succ, i64_w, i32_w]
    rfl
  refine pure_ (i := 22) (N := some 72) (v := ?_) (a' := ?_) #[true, true, true, true, true, true, true, true, true, true, true, true, true, true, true, true, true, true, true, true, true, true, true, false, false, false, false, false, false, false, false] rfl rfl (by kernel_rfl) (fun _ _ _ h => h) (Or.inl ⟨by rfl, ?_⟩) ?_ ?_
  rotate_left
  · intro w'
    go_simp
    with_reducible rfl
  rotate_left
  · simp only [Act.put, List.setIfInBounds_toArray, List.set_cons_zero, List.set_cons_succ, i64_w, i32_w]
    rfl
  refine pure_ (i := 23) (N := some 73) (v := ?_) (a' := ?_) #[true, true, true, true, true, true, true, true, true, true, true, true, true, true, true, true, true, true, true, true, true, true, true, true, false, false, false, false, false, false, false] rfl rfl (by kernel_rfl) (fun _ _ _ h => h) (Or.inl ⟨by rfl, ?_⟩) ?_ ?_
  rotate_left
  · intro w'
    go_simp
    with_reducible rfl
  rotate_left
  · simp only [Act.put, List.setIfInBounds_toArray, List.set_cons_zero, List.set_cons_succ, i64_w, i32_w]
    rfl
  refine pure_ (i := 24) (N := some 74) (v := ?_) (a' := ?_) #[true, true, true, true, true, true, true, true, true, true, true, true, true, true, true, true, true, true, true, true, true, true, true, true, true, false, false, false, false, false, false] rfl rfl (by kernel_rfl) (fun _ _ _ h => h) (Or.inl ⟨by rfl, ?_⟩) ?_ ?_
  rotate_left
  · intro w'
    go_simp
    with_reducible rfl
  rotate_left
  · simp only [Act.put, List.setIfInBounds_toArray, List.set_cons_zero, List.set_cons_succ, i64_w, i32_w]
    rfl
  refine pure_ (i := 25) (N := some 75) (v := ?_) (a' := ?_) #[true, true, true, true, true, true, true, true, true, true, true, true, true, true, true, true, true, true, true, true, true, true, true, true, true, true, false, false, false, false, false] rfl rfl (by kernel_rfl) (fun _ _ _ h => h) (Or.inl ⟨by rfl, ?_⟩) ?_ ?_
  rotate_left
  · intro w'
    go_simp
    with_reducible rfl
  rotate_left
  · simp only [Act.put, List.setIfInBounds_toArray, List.set_cons_zero, List.set_cons_succ, i64_w, i32_w]
    rfl
  refine pure_ (i := 26) (N := some 76) (v := ?_) (a' := ?_) #[true, true, true, true, true, true, true, true, true, true, true, true, true, true, true, true, true, true, true, true, true, true, true, true, true, true, true, false, false, false, false] rfl rfl (by kernel_rfl) (fun _ _ _ h => h) (Or.inl ⟨by rfl, ?_⟩) ?_ ?_
  rotate_left
  · intro w'
    go_simp
    with_reducible rfl
  rotate_left
  · simp only [Act.put, List.setIfInBounds_toArray, List.set_cons_zero, List.set_cons_succ, i64_w, i32_w]
    rfl
  refine one_ (i := 27) (N := some 77) #[true, true, true, true, true, true, true, true, true, true, true, true, true, true, true, true, true, true, true, true, true, true, true, true, true, true, true, true, false, false, false] rfl rfl (by kernel_rfl) (by decide) (fun K hK => ?_)
  refine goes_ Try.func19 (by kernel_rfl) rfl #[.pointer (some ⟨g, 0, none⟩)] (by rfl) rfl rfl (by simp only [List.map_toArray, List.map_cons, List.map_nil]; rfl) ?_
  with_reducible refine (paused_c g _ a b d 0 k false _ HP8.out).mono ?_
  rintro e w9 ⟨rfl, hb9⟩
  refine ⟨_, rfl, ?_⟩
  have HP9 := Aside0.mk (show PC w9 g (.slice A2 n cp) a b d 0 k false from blk_below HP8.out hb9)
  have HK9 := Aside0.mk (blk_below HK8.out hb9)
  have HB9 := Aside0.mk (below_kept HB8.out hb9)
  have HC9 := Aside0.mk (Kd.C_below HC8.out hb9)
  clear hb9
  have e9 := (blk_cell HK9.out 0).trans (rfl : _ = some (Value.int .i64 a))
  refine hK.out _ _ (e9) (fun hHeld => ?_)
  clear hK K
  refine norm_ (a' := ?_) ?_ ?_
  rotate_left
  · show Act.put _ (some 77) _ = _
    simp only [Act.put, List.setIfInBounds_toArray, List.set_cons_zero, List.set_cons_succ, i64_w, i32_w]
    rfl
  refine pure_ (i := 28) (N := some 78) (v := ?_) (a' := ?_) #[true, true, true, true, true, true, true, true, true, true, true, true, true, true, true, true, true, true, true, true, true, true, true, true, true, true, true, true, true, false, false] rfl rfl (by kernel_rfl) (fun _ _ _ h => h) (Or.inl ⟨by rfl, ?_⟩) ?_ ?_
  rotate_left
  · intro w'
    go_simp
    with_reducible rfl
  rotate_left
  · simp only [Act.put, List.setIfInBounds_toArray, List.set_cons_zero, List.set_cons_succ, i64_w, i32_w]
    rfl
  refine pure_ (i := 29) (N := some 79) (v := ?_) (a' := ?_) #[true, true, true, true, true, true, true, true, true, true, true, true, true, true, true, true, true, true, true, true, true, true, true, true, true, true, true, true, true, true, false] rfl rfl (by kernel_rfl) (fun _ _ _ h => h) (Or.inl ⟨by rfl, ?_⟩) ?_ ?_
  rotate_left
  · intro w'
    go_simp
    with_reducible rfl
  rotate_left
  · simp only [Act.put, List.setIfInBounds_toArray, List.set_cons_zero, List.set_cons_succ, i64_w, i32_w]
    rfl
  refine pure_ (i := 30) (N := some 4) (v := ?_) (a' := ?_) #[true, true, true, true, true, true, true, true, true, true, true, true, true, true, true, true, true, true, true, true, true, true, true, true, true, true, true, true, true, true, true] rfl rfl (by kernel_rfl) (fun _ _ _ h => h) (Or.inl ⟨by rfl, ?_⟩) ?_ ?_
  rotate_left
  · intro w'
    go_simp
    with_reducible rfl
  rotate_left
  · simp only [Act.put, List.setIfInBounds_toArray, List.set_cons_zero, List.set_cons_succ, i64_w, i32_w]
    rfl
  refine done_ (by kernel_rfl) ?_
  go_wp2
  go_ret
  exact ⟨by first | rfl | simp, HB9.out⟩
/-- The three together, as the row hands them over. -/
theorem rights_row {w : World} (A : Option Addr) (c : Nat) (l : List S54) (hC : Kd.C k54 w A l.length l) (a b d : Int) :
    Calls Try.prog 5 #[.slice A l.length c, .agg #[.int .i64 a, .int .i64 b, .int .i64 d]] w fun e w' => e = .returned (.bool true) ∧ Below w.heap.size w w' := by
  by_cases hl : 60 < l.length
  · exact rights_big A c l a b d w hl (by have := hC.2.1; unfold maxLen; omega)
  · cases h : okNew a b d l with
    | false => exact rights_bad A c l a b d w hC (by omega) h
    | true =>
      unfold okNew at h
      simp only [Bool.and_eq_true, decide_eq_true_eq] at h
      obtain ⟨⟨h1, h2⟩, h3, h4⟩ := h
      have h5 := of_decide_eq_true h3
      obtain ⟨a', rfl⟩ : ∃ n : Nat, a = n := ⟨a.toNat, by omega⟩
      obtain ⟨b', rfl⟩ : ∃ n : Nat, b = n := ⟨b.toNat, by omega⟩
      obtain ⟨d', rfl⟩ : ∃ n : Nat, d = n := ⟨d.toNat, by omega⟩
      exact rights_ok A c l a' b' d' w hC (by omega) (by omega) h3 h4
theorem row {w : World} (A : Option Addr) (c : Nat) (l : List S54) (hC : Kd.C k54 w A l.length l) (_ : l.length ≤ c) (_ : ∀ x ∈ l, EvOpen.evwf x) (a b d : Int) (_ : (Lit.int .i64 a).wf = true) (_ : (Lit.int .i64 b).wf = true) (_ : (Lit.int .i64 d).wf = true) :
    Calls Try.prog 5 #[.slice A l.length c, .agg #[.int .i64 a, .int .i64 b, .int .i64 d]] w fun e w' => e = .returned (.bool true) ∧ Below w.heap.size w w' := rights_row A c l hC a b d
end Go.Proofs.Ytmongghhagbokaa.PlRights
