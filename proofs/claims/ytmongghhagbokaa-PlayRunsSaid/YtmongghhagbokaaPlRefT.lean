/- The reference's Tick, Step and Speed as contracts. -/
import Derived.Test.YtmongghhagbokaaPlRefDue
namespace Go.Proofs.Ytmongghhagbokaa.PlRefT
open Go.RowKit Go.Proofs.Ytmongghhagbokaa.Kit Go.Proofs.Ytmongghhagbokaa.Plain Go.Proofs.Ytmongghhagbokaa.Mine Go.Proofs.Ytmongghhagbokaa.Event Go.Proofs.Ytmongghhagbokaa.EventRef Go.Proofs.Ytmongghhagbokaa.EventList Go.Proofs.Ytmongghhagbokaa.EvUntil Go.Proofs.Ytmongghhagbokaa.PlScale Go.Proofs.Ytmongghhagbokaa.PlNow Go.Proofs.Ytmongghhagbokaa.PlDue Go.Proofs.Ytmongghhagbokaa.PlPause Go.Proofs.Ytmongghhagbokaa.PlWide Go.Proofs.Ytmongghhagbokaa.PlStep Go.Proofs.Ytmongghhagbokaa.PlRef Go.Proofs.Ytmongghhagbokaa.PlRefDue Go.Proofs.YtmongghhagbokaaW.PrintWords Go.Proofs.YtmongghhagbokaaW.PrintLast Go.Proofs.YtmongghhagbokaaW.PrintMore
open Go.Proofs.Ytmongghhagbokaa.PPlayRights (S54 z54 k54 k54_open k54_mk k54_mkM rd_T54 at_T54 info54)
set_option linter.unusedVariables false
set_option linter.unusedSimpArgs false
theorem tick_cases (pz : Bool) (n : Int) : (pz = true ∨ n ≤ 0) ∨ (pz = false ∧ 0 < n) := by
  cases pz
  · by_cases h : 0 < n
    · exact .inr ⟨rfl, h⟩
    · exact .inl (.inr (by omega))
  · exact .inl (.inl rfl)
theorem wlT_skip {pz : Bool} {n : Int} {wl : Nat} (h : pz = true ∨ n ≤ 0) : wlT pz n wl = wl := by
  unfold wlT
  rcases h with rfl | h
  · rfl
  · split
    · rfl
    · unfold dN; omega
theorem wlT_top {n : Int} {wl : Nat} (hw : (wl : Int) ≤ 4611686018427387904) (hn : 0 < n) (h : 4611686018427387904 - (wl : Int) < n) : wlT false n wl = 4611686018427387904 := by
  rw [wlT, if_neg (by decide), dN]
  omega
theorem wlT_add {n : Int} {wl : Nat} (hw : (wl : Int) ≤ 4611686018427387904) (hn : 0 < n) (h : n ≤ 4611686018427387904 - (wl : Int)) : wlT false n wl = wl + n.toNat := by
  rw [wlT, if_neg (by decide), dN]
  omega
set_option maxHeartbeats 3200000 in
set_option maxRecDepth 100000 in
theorem rtick_c (g : Nat) (A : Option Addr) (c : Nat) (l : List S54) (n : Int) (st p q wl nx : Nat) (pz : Bool) (w : World) (base : Nat) (ok : Nat → Prop) (hok : ∀ k, ok k → k ≠ g) (hk : QC w g (.slice A l.length c) st p q wl nx pz) (hR : Kd.R k54 54 w base ok (.slice A l.length c) l) (hr : Rising l) (hl : l.length ≤ 1000) (hf : Wide st p q wl) (hnx : nx ≤ l.length) :
    Calls Try.prog 23 #[.pointer (some ⟨g, 0, none⟩), .int .i64 n] w fun e w' => ∃ (v : Value), e = .returned v ∧ Kd.R k54 54 w' w.heap.size (fun _ => True) v ((l.take (toN st p q (wlT pz n wl) nx l)).drop nx) ∧ QC w' g (.slice A l.length c) st p q (wlT pz n wl) (toN st p q (wlT pz n wl) nx l) pz ∧ Kd.R k54 54 w' base ok (.slice A l.length c) l ∧ Only g w w' := by
  have hu := Try.underlying48
  have HK := Aside0.mk (show w.heap[g]? = some (.cells #[.slice A l.length c, .int .i64 st, .int .i64 p, .int .i64 q, .int .i64 wl, .int .i64 nx, .bool pz] 48 (0, 0)) from hk)
  have HR := Aside0.mk hR
  have hle := wlT_le (pz := pz) (n := n) hf.2.2.2.2.2
  have HWL := Aside0.mk hf.2.2.2.2.2
  have HDUE := Aside0.mk (fun (wl2 : Nat) (h2 : wl2 ≤ 4611686018427387904) W (h : QC W g (.slice A l.length c) st p q wl2 nx pz) (hr2 : Kd.R k54 54 W base ok (.slice A l.length c) l) => rdue_c g A c l st p q wl2 nx pz W base ok hok h hr2 hr hl ⟨hf.1, hf.2.1, hf.2.2.1, hf.2.2.2.1, hf.2.2.2.2.1, h2⟩ hnx)
  obtain ⟨wl', hwl'⟩ : ∃ wl', wl' = wlT pz n wl := ⟨_, rfl⟩
  rw [← hwl'] at hle
  rw [← hwl']
  have HW' := Aside0.mk hwl'
  have HLE := Aside0.mk hle
  have c6 : w.cell? ⟨g, 6, none⟩ = some (.bool pz) := (blk_cell HK.out 6).trans rfl
  have c4 : w.cell? ⟨g, 4, none⟩ = some (.int .i64 wl) := (blk_cell HK.out 4).trans rfl
  have f4 := blk_frozen HK.out 4
  clear hk hR hr hl hf hnx hle hwl'
  have hcase := tick_cases pz n
  rcases hcase with hc | ⟨rfl, hn⟩
  · have hw : wl' = wl := by rw [HW'.out]; exact wlT_skip hc
    subst hw
    rcases hc with rfl | hn
    · go_enter Try.func23, Try.ntmps23
      go_wp2_with fail
      refine (HDUE.out wl' HLE.out w HK.out HR.out).mono ?_
      rintro e w1 ⟨v, rfl, hv, hq, hr, ho⟩
      go_wp2
      go_ret
      exact ⟨v, rfl, hv, hq, hr, ho⟩
    · have hnd : decide (0 < n) = false := decide_eq_false (by omega)
      go_enter Try.func23, Try.ntmps23
      go_wp2_with fail
      all_goals
        refine (HDUE.out wl' HLE.out w HK.out HR.out).mono ?_
        rintro e w1 ⟨v, rfl, hv, hq, hr, ho⟩
        go_wp2
        go_ret
        exact ⟨v, rfl, hv, hq, hr, ho⟩
  · have hnd : decide (0 < n) = true := decide_eq_true hn
    have hwI : (wl : Int) ≤ 4611686018427387904 := Int.ofNat_le.2 HWL.out
    by_cases hbig : 4611686018427387904 - (wl : Int) < n
    · have hw : wl' = 4611686018427387904 := by rw [HW'.out]; exact wlT_top hwI hn hbig
      have HE := Aside0.mk hw
      have hbd : decide (4611686018427387904 - (wl : Int) < n) = true := decide_eq_true hbig
      clear hw
      go_enter Try.func23, Try.ntmps23
      go_wp2_with fail
      have hkb := (KeepBut.refl w g none).set_ 4 (.int .i64 4611686018427387904)
      have ho1 := (Only.refl g w).set_ 4 (.int .i64 4611686018427387904)
      refine (HDUE.out wl' HLE.out _ (by rw [HE.out]; exact blk_put HK.out 4 (.int .i64 4611686018427387904) rfl) (Kd.R_keep HR.out hkb hok)).mono ?_
      rintro e w1 ⟨v, rfl, hv, hq, hr, ho⟩
      have HX := Aside0.mk (show _ ∧ _ ∧ _ ∧ _ from ⟨Kd.R_lower hv hkb.1, hq, hr, ho1.trans ho⟩)
      clear hv hq hr ho hkb ho1
      go_wp2
      go_ret
      exact ⟨v, rfl, HX.out⟩
    · have hw : wl' = wl + n.toNat := by rw [HW'.out]; exact wlT_add hwI hn (by omega)
      have HE := Aside0.mk (show (wl : Int) + n = (wl' : Int) by omega)
      have hbd : decide (4611686018427387904 - (wl : Int) < n) = false := decide_eq_false hbig
      have hnI : n ≤ 4611686018427387904 := by omega
      have hle2 : n ≤ 4611686018427387904 - (wl : Int) := by omega
      clear hw hbig
      go_enter Try.func23, Try.ntmps23
      go_wp2_with fail
      have hkb := (KeepBut.refl w g none).set_ 4 (.int .i64 ((wl : Int) + n))
      have ho1 := (Only.refl g w).set_ 4 (.int .i64 ((wl : Int) + n))
      have hp1 := blk_put HK.out 4 (.int .i64 ((wl : Int) + n)) rfl
      refine (HDUE.out wl' HLE.out _ (by unfold QC; rw [← HE.out]; exact hp1) (Kd.R_keep HR.out hkb hok)).mono ?_
      rintro e w1 ⟨v, rfl, hv, hq, hr, ho⟩
      have HX := Aside0.mk (show _ ∧ _ ∧ _ ∧ _ from ⟨Kd.R_lower hv hkb.1, hq, hr, ho1.trans ho⟩)
      clear hv hq hr ho hkb ho1
      go_wp2
      go_ret
      exact ⟨v, rfl, HX.out⟩
set_option maxHeartbeats 1600000 in
set_option maxRecDepth 100000 in
theorem rspeed_bad (g : Nat) (a b : Int) (w : World) (h : speedB a b = false) :
    Calls Try.prog 25 #[.pointer (some ⟨g, 0, none⟩), .int .i64 a, .int .i64 b] w fun e w' => e = .returned (.bool false) ∧ Below w.heap.size w w' := by
  have HS := Aside0.mk (fun W => rspeed_c a b W)
  rw [h] at HS
  clear h
  go_enter Try.func25, Try.ntmps25
  go_wp2_with fail
  refine (HS.out _).mono ?_
  rintro e w2 ⟨rfl, hb⟩
  have HB := Aside0.mk hb
  clear hb
  go_wp2
  go_ret
  exact ⟨rfl, HB.out⟩
set_option maxHeartbeats 1600000 in
set_option maxRecDepth 100000 in
theorem rspeed_ok (g : Nat) (ev : Value) (st p q wl nx a b t : Nat) (pz : Bool) (w : World) (hk : QC w g ev st p q wl nx pz) (hf : Wide st p q wl) (h : speedB a b = true) (ht : t = min (nowN st p q wl) 4611686018427387903) :
    Calls Try.prog 25 #[.pointer (some ⟨g, 0, none⟩), .int .i64 a, .int .i64 b] w fun e w' => e = .returned (.bool true) ∧ QC w' g ev t a b 0 nx pz ∧ Only g w w' := by
  have hu := Try.underlying48
  have HS := Aside0.mk (fun W => rspeed_c a b W)
  rw [h] at HS
  have HG := Aside0.mk (blk_lt hk)
  have HK := Aside0.mk (show w.heap[g]? = some (.cells #[ev, .int .i64 st, .int .i64 p, .int .i64 q, .int .i64 wl, .int .i64 nx, .bool pz] 48 (0, 0)) from hk)
  have HNOW := Aside0.mk (fun W (h : QC W g ev st p q wl nx pz) => rnow_c g ev st p q wl nx pz W h hf)
  have hnl : nowN st p q wl ≤ 4611686018427387904 := Nat.min_le_right _ _
  obtain ⟨now, hnow⟩ : ∃ now, now = nowN st p q wl := ⟨_, rfl⟩
  rw [← hnow] at HNOW ht hnl
  have HT := Aside0.mk ht
  have HNL := Aside0.mk hnl
  clear h hk hf hnow ht hnl
  go_enter Try.func25, Try.ntmps25
  go_wp2_with fail
  refine (HS.out _).mono ?_
  rintro e w2 ⟨rfl, hb⟩
  have HB := Aside0.mk hb
  have HK2 := Aside0.mk (show QC w2 g ev st p q wl nx pz from blk_below HK.out hb)
  clear hb
  go_wp2_with fail
  refine (HNOW.out _ HK2.out).mono ?_
  rintro e w3 ⟨rfl, hb⟩
  have HB3 := Aside0.mk (below_kept HB.out hb)
  have HK3 := Aside0.mk (show w3.heap[g]? = some (.cells #[ev, .int .i64 st, .int .i64 p, .int .i64 q, .int .i64 wl, .int .i64 nx, .bool pz] 48 (0, 0)) from blk_below HK2.out hb)
  clear hb HNOW HS
  have c1 : w3.cell? ⟨g, 1, none⟩ = some (.int .i64 st) := (blk_cell HK3.out 1).trans rfl
  have c2 : w3.cell? ⟨g, 2, none⟩ = some (.int .i64 p) := (blk_cell HK3.out 2).trans rfl
  have c3 : w3.cell? ⟨g, 3, none⟩ = some (.int .i64 q) := (blk_cell HK3.out 3).trans rfl
  have c4 : w3.cell? ⟨g, 4, none⟩ = some (.int .i64 wl) := (blk_cell HK3.out 4).trans rfl
  have f1 := blk_frozen HK3.out 1
  have f2 := blk_frozen HK3.out 2
  have f3 := blk_frozen HK3.out 3
  have f4 := blk_frozen HK3.out 4
  have HFIN := Aside0.mk (show ∀ tv : Value, tv = .int .i64 (t : Int) → QC ((((w3.setCell ⟨g, 1, none⟩ tv).setCell ⟨g, 4, none⟩ (.int .i64 0)).setCell ⟨g, 2, none⟩ (.int .i64 a)).setCell ⟨g, 3, none⟩ (.int .i64 b)) g ev t a b 0 nx pz ∧ Only g w ((((w3.setCell ⟨g, 1, none⟩ tv).setCell ⟨g, 4, none⟩ (.int .i64 0)).setCell ⟨g, 2, none⟩ (.int .i64 a)).setCell ⟨g, 3, none⟩ (.int .i64 b)) from by
    rintro tv rfl
    refine ⟨?_, ((((Only.of_below (g := g) HB3.out (Nat.le_of_lt HG.out)).set_ 1 _).set_ 4 _).set_ 2 _).set_ 3 _⟩
    have h1 : (w3.setCell ⟨g, 1, none⟩ (.int .i64 t)).heap[g]? = some (.cells #[ev, .int .i64 t, .int .i64 p, .int .i64 q, .int .i64 wl, .int .i64 nx, .bool pz] 48 (0, 0)) := blk_put HK3.out 1 _ rfl
    have h2 : ((w3.setCell ⟨g, 1, none⟩ (.int .i64 t)).setCell ⟨g, 4, none⟩ (.int .i64 0)).heap[g]? = some (.cells #[ev, .int .i64 t, .int .i64 p, .int .i64 q, .int .i64 0, .int .i64 nx, .bool pz] 48 (0, 0)) := blk_put h1 4 _ rfl
    have h3 : (((w3.setCell ⟨g, 1, none⟩ (.int .i64 t)).setCell ⟨g, 4, none⟩ (.int .i64 0)).setCell ⟨g, 2, none⟩ (.int .i64 a)).heap[g]? = some (.cells #[ev, .int .i64 t, .int .i64 a, .int .i64 q, .int .i64 0, .int .i64 nx, .bool pz] 48 (0, 0)) := blk_put h2 2 _ rfl
    exact blk_put h3 3 _ rfl)
  by_cases htop : now = 4611686018427387904
  · have hb1 : ((now : Int) == 4611686018427387904) = true := beq_iff_eq.mpr (by omega)
    have hb2 : decide ((now : Int) = 4611686018427387904) = true := decide_eq_true (by omega)
    have ht2 := Aside0.mk (show (.int .i64 4611686018427387903 : Value) = .int .i64 (t : Int) from congrArg (Value.int .i64) (by have := HT.out; omega))
    clear htop
    go_wp2
    go_ret
    exact ⟨rfl, HFIN.out _ ht2.out⟩
  · have hb1 : ((now : Int) == 4611686018427387904) = false := beq_eq_false_iff_ne.mpr (by omega)
    have hb2 : decide ((now : Int) = 4611686018427387904) = false := decide_eq_false (by omega)
    have ht2 := Aside0.mk (show (.int .i64 (now : Int) : Value) = .int .i64 (t : Int) from congrArg (Value.int .i64) (by have := HT.out; have := HNL.out; omega))
    clear htop
    go_wp2
    go_ret
    exact ⟨rfl, HFIN.out _ ht2.out⟩
set_option maxHeartbeats 1600000 in
set_option maxRecDepth 100000 in
theorem rstep_end (g : Nat) (A : Option Addr) (c : Nat) (l : List S54) (st p q wl : Nat) (pz : Bool) (w : World) (hk : QC w g (.slice A l.length c) st p q wl l.length pz) (hl : l.length ≤ 1000) :
    Calls Try.prog 24 #[.pointer (some ⟨g, 0, none⟩)] w fun e w' => e = .returned (.slice none 0 0) ∧ Below w.heap.size w w' := by
  have hu := Try.underlying48
  have HB := Aside0.mk (below_drew (Below.refl w.heap.size w))
  obtain ⟨n, hn⟩ : ∃ n, n = l.length := ⟨_, rfl⟩
  rw [← hn] at hk
  have hlI : (n : Int) ≤ 1000 := by omega
  have hb1 : ((n : Int) == (n : Int)) = true := beq_self_eq_true _
  have c0 : w.drew.cell? ⟨g, 0, none⟩ = some (.slice A n c) := (blk_cell (blk_drew hk) 0).trans rfl
  have c5 : w.drew.cell? ⟨g, 5, none⟩ = some (.int .i64 n) := (blk_cell (blk_drew hk) 5).trans rfl
  clear hk hl hn
  go_enter Try.func24, Try.ntmps24
  go_upto_region 1 with fail
  refine start_ (n := 10) (S := fun w' => w'.cell? ⟨g, 0, none⟩ = some (.slice A n c) ∧ w'.cell? ⟨g, 5, none⟩ = some (.int .i64 n)) (ds := []) #[false, false, false, false, false, false, false, false, false, false] (by kernel_rfl) rfl rfl ⟨c0, c5⟩ (fun hHeld => ?_)
  refine pure_ (i := 0) (N := some 3) (v := ?_) (a' := ?_) #[true, false, false, false, false, false, false, false, false, false] rfl rfl (by kernel_rfl) (fun _ _ _ h => h) (Or.inl ⟨by rfl, ?_⟩) ?_ ?_
  rotate_left
  · intro w'
    go_simp
    with_reducible rfl
  rotate_left
  · simp only [Act.put, List.setIfInBounds_toArray, List.set_cons_zero, List.set_cons_succ, i64_w, i32_w]
    rfl
  refine pure_ (i := 1) (N := some 4) (v := ?_) (a' := ?_) #[true, true, false, false, false, false, false, false, false, false] rfl rfl (by kernel_rfl) (fun _ _ _ h => h) (Or.inl ⟨by rfl, ?_⟩) ?_ ?_
  rotate_left
  · intro w'
    go_simp
    with_reducible rfl
  rotate_left
  · simp only [Act.put, List.setIfInBounds_toArray, List.set_cons_zero, List.set_cons_succ, i64_w, i32_w]
    rfl
  refine pure_ (i := 2) (N := some 5) (v := ?_) (a' := ?_) #[true, true, true, false, false, false, false, false, false, false] rfl rfl (by kernel_rfl) (fun _ _ _ h => h) (Or.inl ⟨by rfl, ?_⟩) ?_ ?_
  rotate_left
  · intro w'
    go_simp
    with_reducible rfl
  rotate_left
  · simp only [Act.put, List.setIfInBounds_toArray, List.set_cons_zero, List.set_cons_succ, i64_w, i32_w]
    rfl
  refine pure_ (i := 4) (N := some 7) (v := ?_) (a' := ?_) #[true, true, true, false, true, false, false, false, false, false] rfl rfl (by kernel_rfl) (fun _ _ _ h => h) (Or.inl ⟨by rfl, ?_⟩) ?_ ?_
  rotate_left
  · intro w'
    go_simp
    with_reducible rfl
  rotate_left
  · simp only [Act.put, List.setIfInBounds_toArray, List.set_cons_zero, List.set_cons_succ, i64_w, i32_w]
    rfl
  refine pure_ (i := 5) (N := some 8) (v := ?_) (a' := ?_) #[true, true, true, false, true, true, false, false, false, false] rfl rfl (by kernel_rfl) (fun _ _ _ h => h) (Or.inl ⟨by rfl, ?_⟩) ?_ ?_
  rotate_left
  · intro w'
    go_simp
    with_reducible rfl
  rotate_left
  · simp only [Act.put, List.setIfInBounds_toArray, List.set_cons_zero, List.set_cons_succ, i64_w, i32_w]
    rfl
  refine pure_ (i := 6) (N := some 9) (v := ?_) (a' := ?_) #[true, true, true, false, true, true, true, false, false, false] rfl rfl (by kernel_rfl) (fun _ _ _ h => h) (Or.inl ⟨by rfl, ?_⟩) ?_ ?_
  rotate_left
  · intro w'
    go_simp
    with_reducible rfl
  rotate_left
  · simp only [Act.put, List.setIfInBounds_toArray, List.set_cons_zero, List.set_cons_succ, i64_w, i32_w]
    rfl
  refine take_ (i := 3) (N := some 6) (v := ?_) (a' := ?_) #[true, true, true, true, true, true, true, false, false, false] rfl rfl (by kernel_rfl) (fun _ _ _ h => h) (Or.inl ⟨by rfl, ?_⟩) hHeld ?_ ?_
  rotate_left
  · rintro w' ⟨s0, s1⟩
    go_simp
    with_reducible rfl
  rotate_left
  · simp only [Act.put, List.setIfInBounds_toArray, List.set_cons_zero, List.set_cons_succ, i64_w, i32_w]
    rfl
  refine take_ (i := 7) (N := some 10) (v := ?_) (a' := ?_) #[true, true, true, true, true, true, true, true, false, false] rfl rfl (by kernel_rfl) (fun _ _ _ h => h) (Or.inl ⟨by rfl, ?_⟩) hHeld ?_ ?_
  rotate_left
  · rintro w' ⟨s0, s1⟩
    go_simp
    with_reducible rfl
  rotate_left
  · simp only [Act.put, List.setIfInBounds_toArray, List.set_cons_zero, List.set_cons_succ, i64_w, i32_w]
    rfl
  refine pure_ (i := 8) (N := some 11) (v := ?_) (a' := ?_) #[true, true, true, true, true, true, true, true, true, false] rfl rfl (by kernel_rfl) (fun _ _ _ h => h) (Or.inl ⟨by rfl, ?_⟩) ?_ ?_
  rotate_left
  · intro w'
    go_simp
    with_reducible rfl
  rotate_left
  · simp only [Act.put, List.setIfInBounds_toArray, List.set_cons_zero, List.set_cons_succ, i64_w, i32_w]
    rfl
  refine pure_ (i := 9) (N := some 12) (v := ?_) (a' := ?_) #[true, true, true, true, true, true, true, true, true, true] rfl rfl (by kernel_rfl) (fun _ _ _ h => h) (Or.inl ⟨by rfl, ?_⟩) ?_ ?_
  rotate_left
  · intro w'
    go_simp
    with_reducible rfl
  rotate_left
  · simp only [Act.put, List.setIfInBounds_toArray, List.set_cons_zero, List.set_cons_succ, i64_w, i32_w]
    rfl
  refine done_ (by kernel_rfl) ?_
  go_wp2
  go_ret
  exact ⟨rfl, HB.out⟩
set_option maxHeartbeats 3200000 in
set_option maxRecDepth 100000 in
theorem rstep_c (g : Nat) (A : Option Addr) (c : Nat) (l : List S54) (st p q wl nx t : Nat) (pz : Bool) (w : World) (base : Nat) (ok : Nat → Prop) (hok : ∀ k, ok k → k ≠ g) (hk : QC w g (.slice A l.length c) st p q wl nx pz) (hR : Kd.R k54 54 w base ok (.slice A l.length c) l) (hr : Rising l) (hl : l.length ≤ 1000) (hf : Wide st p q wl) (hnx : nx < l.length) (ht : (l[nx]).f0 = (t : Int)) (ht2 : t < 4611686018427387904) :
    Calls Try.prog 24 #[.pointer (some ⟨g, 0, none⟩)] w fun e w' => ∃ (v : Value), e = .returned v ∧ Kd.R k54 54 w' w.heap.size (fun _ => True) v ((l.take (toN t p q 0 nx l)).drop nx) ∧ QC w' g (.slice A l.length c) t p q 0 (toN t p q 0 nx l) pz ∧ Kd.R k54 54 w' base ok (.slice A l.length c) l ∧ Only g w w' := by
  have hu := Try.underlying48
  have HG := Aside0.mk (blk_lt hk)
  have HR := Aside0.mk (Kd.R_drew hR)
  have HDUE := Aside0.mk (fun W (h : QC W g (.slice A l.length c) t p q 0 nx pz) (hr2 : Kd.R k54 54 W base ok (.slice A l.length c) l) => rdue_c g A c l t p q 0 nx pz W base ok hok h hr2 hr hl ⟨ht2, hf.2.1, hf.2.2.1, hf.2.2.2.1, hf.2.2.2.2.1, Nat.zero_le _⟩ (Nat.le_of_lt hnx))
  have HK := Aside0.mk (show w.drew.heap[g]? = some (.cells #[.slice A l.length c, .int .i64 st, .int .i64 p, .int .i64 q, .int .i64 wl, .int .i64 nx, .bool pz] 48 (0, 0)) from blk_drew hk)
  have HKd := Aside0.mk (show w.drew.drew.heap[g]? = some (.cells #[.slice A l.length c, .int .i64 st, .int .i64 p, .int .i64 q, .int .i64 wl, .int .i64 nx, .bool pz] 48 (0, 0)) from blk_drew (blk_drew hk))
  obtain ⟨ad, ead, hc0, htr⟩ := at_ev (Kd.C_drew (Kd.R_reads' HR.out).2.2) nx hnx
  rw [ht] at hc0
  subst ead
  have hni : (nx : Int) < l.length := by omega
  have hlI : (l.length : Int) ≤ 1000 := by omega
  have hb1 : ((nx : Int) == (l.length : Int)) = false := beq_eq_false_iff_ne.mpr (by omega)
  have hb2 : decide ((nx : Int) = (l.length : Int)) = false := decide_eq_false (by omega)
  have c0 : w.drew.cell? ⟨g, 0, none⟩ = some (.slice (some ad) l.length c) := (blk_cell HK.out 0).trans rfl
  have c5 : w.drew.cell? ⟨g, 5, none⟩ = some (.int .i64 nx) := (blk_cell HK.out 5).trans rfl
  clear hk hR hr hl hf ht ht2 htr hnx
  go_enter Try.func24, Try.ntmps24
  go_upto_region 1 with fail
  refine start_ (n := 10) (S := fun w' => w'.cell? ⟨g, 0, none⟩ = some (.slice (some ad) l.length c) ∧ w'.cell? ⟨g, 5, none⟩ = some (.int .i64 nx)) (ds := []) #[false, false, false, false, false, false, false, false, false, false] (by kernel_rfl) rfl rfl ⟨c0, c5⟩ (fun hHeld => ?_)
  refine pure_ (i := 0) (N := some 3) (v := ?_) (a' := ?_) #[true, false, false, false, false, false, false, false, false, false] rfl rfl (by kernel_rfl) (fun _ _ _ h => h) (Or.inl ⟨by rfl, ?_⟩) ?_ ?_
  rotate_left
  · intro w'
    go_simp
    with_reducible rfl
  rotate_left
  · simp only [Act.put, List.setIfInBounds_toArray, List.set_cons_zero, List.set_cons_succ, i64_w, i32_w]
    rfl
  refine pure_ (i := 1) (N := some 4) (v := ?_) (a' := ?_) #[true, true, false, false, false, false, false, false, false, false] rfl rfl (by kernel_rfl) (fun _ _ _ h => h) (Or.inl ⟨by rfl, ?_⟩) ?_ ?_
  rotate_left
  · intro w'
    go_simp
    with_reducible rfl
  rotate_left
  · simp only [Act.put, List.setIfInBounds_toArray, List.set_cons_zero, List.set_cons_succ, i64_w, i32_w]
    rfl
  refine pure_ (i := 2) (N := some 5) (v := ?_) (a' := ?_) #[true, true, true, false, false, false, false, false, false, false] rfl rfl (by kernel_rfl) (fun _ _ _ h => h) (Or.inl ⟨by rfl, ?_⟩) ?_ ?_
  rotate_left
  · intro w'
    go_simp
    with_reducible rfl
  rotate_left
  · simp only [Act.put, List.setIfInBounds_toArray, List.set_cons_zero, List.set_cons_succ, i64_w, i32_w]
    rfl
  refine pure_ (i := 4) (N := some 7) (v := ?_) (a' := ?_) #[true, true, true, false, true, false, false, false, false, false] rfl rfl (by kernel_rfl) (fun _ _ _ h => h) (Or.inl ⟨by rfl, ?_⟩) ?_ ?_
  rotate_left
  · intro w'
    go_simp
    with_reducible rfl
  rotate_left
  · simp only [Act.put, List.setIfInBounds_toArray, List.set_cons_zero, List.set_cons_succ, i64_w, i32_w]
    rfl
  refine pure_ (i := 5) (N := some 8) (v := ?_) (a' := ?_) #[true, true, true, false, true, true, false, false, false, false] rfl rfl (by kernel_rfl) (fun _ _ _ h => h) (Or.inl ⟨by rfl, ?_⟩) ?_ ?_
  rotate_left
  · intro w'
    go_simp
    with_reducible rfl
  rotate_left
  · simp only [Act.put, List.setIfInBounds_toArray, List.set_cons_zero, List.set_cons_succ, i64_w, i32_w]
    rfl
  refine pure_ (i := 6) (N := some 9) (v := ?_) (a' := ?_) #[true, true, true, false, true, true, true, false, false, false] rfl rfl (by kernel_rfl) (fun _ _ _ h => h) (Or.inl ⟨by rfl, ?_⟩) ?_ ?_
  rotate_left
  · intro w'
    go_simp
    with_reducible rfl
  rotate_left
  · simp only [Act.put, List.setIfInBounds_toArray, List.set_cons_zero, List.set_cons_succ, i64_w, i32_w]
    rfl
  refine take_ (i := 3) (N := some 6) (v := ?_) (a' := ?_) #[true, true, true, true, true, true, true, false, false, false] rfl rfl (by kernel_rfl) (fun _ _ _ h => h) (Or.inl ⟨by rfl, ?_⟩) hHeld ?_ ?_
  rotate_left
  · rintro w' ⟨s0, s1⟩
    go_simp
    with_reducible rfl
  rotate_left
  · simp only [Act.put, List.setIfInBounds_toArray, List.set_cons_zero, List.set_cons_succ, i64_w, i32_w]
    rfl
  refine take_ (i := 7) (N := some 10) (v := ?_) (a' := ?_) #[true, true, true, true, true, true, true, true, false, false] rfl rfl (by kernel_rfl) (fun _ _ _ h => h) (Or.inl ⟨by rfl, ?_⟩) hHeld ?_ ?_
  rotate_left
  · rintro w' ⟨s0, s1⟩
    go_simp
    with_reducible rfl
  rotate_left
  · simp only [Act.put, List.setIfInBounds_toArray, List.set_cons_zero, List.set_cons_succ, i64_w, i32_w]
    rfl
  refine pure_ (i := 8) (N := some 11) (v := ?_) (a' := ?_) #[true, true, true, true, true, true, true, true, true, false] rfl rfl (by kernel_rfl) (fun _ _ _ h => h) (Or.inl ⟨by rfl, ?_⟩) ?_ ?_
  rotate_left
  · intro w'
    go_simp
    with_reducible rfl
  rotate_left
  · simp only [Act.put, List.setIfInBounds_toArray, List.set_cons_zero, List.set_cons_succ, i64_w, i32_w]
    rfl
  refine pure_ (i := 9) (N := some 12) (v := ?_) (a' := ?_) #[true, true, true, true, true, true, true, true, true, true] rfl rfl (by kernel_rfl) (fun _ _ _ h => h) (Or.inl ⟨by rfl, ?_⟩) ?_ ?_
  rotate_left
  · intro w'
    go_simp
    with_reducible rfl
  rotate_left
  · simp only [Act.put, List.setIfInBounds_toArray, List.set_cons_zero, List.set_cons_succ, i64_w, i32_w]
    rfl
  refine done_ (by kernel_rfl) ?_
  clear c0 c5
  have c0 : w.drew.drew.cell? ⟨g, 0, none⟩ = some (.slice (some ad) l.length c) := (blk_cell HKd.out 0).trans rfl
  have c5 : w.drew.drew.cell? ⟨g, 5, none⟩ = some (.int .i64 nx) := (blk_cell HKd.out 5).trans rfl
  have c1 : w.drew.drew.cell? ⟨g, 1, none⟩ = some (.int .i64 st) := (blk_cell HKd.out 1).trans rfl
  have f1 := blk_frozen HKd.out 1
  go_upto_region 3 with fail
  refine start_ (n := 15) (S := fun w' => w'.cell? ⟨g, 0, none⟩ = some (.slice (some ad) l.length c) ∧ w'.cell? ⟨g, 5, none⟩ = some (.int .i64 nx) ∧ w'.cell? (ad.add (nx * 5)) = some (.int .i64 t)) (ds := [14]) #[false, false, false, false, false, false, false, false, false, false, false, false, false, false, false] (by kernel_rfl) rfl rfl ⟨c0, c5, hc0⟩ (fun hHeld => ?_)
  refine pure_ (i := 0) (N := some 13) (v := ?_) (a' := ?_) #[true, false, false, false, false, false, false, false, false, false, false, false, false, false, false] rfl rfl (by kernel_rfl) (fun _ _ _ h => h) (Or.inl ⟨by rfl, ?_⟩) ?_ ?_
  rotate_left
  · intro w'
    go_simp
    with_reducible rfl
  rotate_left
  · simp only [Act.put, List.setIfInBounds_toArray, List.set_cons_zero, List.set_cons_succ, i64_w, i32_w]
    rfl
  refine pure_ (i := 1) (N := some 14) (v := ?_) (a' := ?_) #[true, true, false, false, false, false, false, false, false, false, false, false, false, false, false] rfl rfl (by kernel_rfl) (fun _ _ _ h => h) (Or.inl ⟨by rfl, ?_⟩) ?_ ?_
  rotate_left
  · intro w'
    go_simp
    with_reducible rfl
  rotate_left
  · simp only [Act.put, List.setIfInBounds_toArray, List.set_cons_zero, List.set_cons_succ, i64_w, i32_w]
    rfl
  refine pure_ (i := 2) (N := some 15) (v := ?_) (a' := ?_) #[true, true, true, false, false, false, false, false, false, false, false, false, false, false, false] rfl rfl (by kernel_rfl) (fun _ _ _ h => h) (Or.inl ⟨by rfl, ?_⟩) ?_ ?_
  rotate_left
  · intro w'
    go_simp
    with_reducible rfl
  rotate_left
  · simp only [Act.put, List.setIfInBounds_toArray, List.set_cons_zero, List.set_cons_succ, i64_w, i32_w]
    rfl
  refine pure_ (i := 3) (N := some 16) (v := ?_) (a' := ?_) #[true, true, true, true, false, false, false, false, false, false, false, false, false, false, false] rfl rfl (by kernel_rfl) (fun _ _ _ h => h) (Or.inl ⟨by rfl, ?_⟩) ?_ ?_
  rotate_left
  · intro w'
    go_simp
    with_reducible rfl
  rotate_left
  · simp only [Act.put, List.setIfInBounds_toArray, List.set_cons_zero, List.set_cons_succ, i64_w, i32_w]
    rfl
  refine pure_ (i := 5) (N := some 18) (v := ?_) (a' := ?_) #[true, true, true, true, false, true, false, false, false, false, false, false, false, false, false] rfl rfl (by kernel_rfl) (fun _ _ _ h => h) (Or.inl ⟨by rfl, ?_⟩) ?_ ?_
  rotate_left
  · intro w'
    go_simp
    with_reducible rfl
  rotate_left
  · simp only [Act.put, List.setIfInBounds_toArray, List.set_cons_zero, List.set_cons_succ, i64_w, i32_w]
    rfl
  refine pure_ (i := 6) (N := some 19) (v := ?_) (a' := ?_) #[true, true, true, true, false, true, true, false, false, false, false, false, false, false, false] rfl rfl (by kernel_rfl) (fun _ _ _ h => h) (Or.inl ⟨by rfl, ?_⟩) ?_ ?_
  rotate_left
  · intro w'
    go_simp
    with_reducible rfl
  rotate_left
  · simp only [Act.put, List.setIfInBounds_toArray, List.set_cons_zero, List.set_cons_succ, i64_w, i32_w]
    rfl
  refine pure_ (i := 7) (N := some 20) (v := ?_) (a' := ?_) #[true, true, true, true, false, true, true, true, false, false, false, false, false, false, false] rfl rfl (by kernel_rfl) (fun _ _ _ h => h) (Or.inl ⟨by rfl, ?_⟩) ?_ ?_
  rotate_left
  · intro w'
    go_simp
    with_reducible rfl
  rotate_left
  · simp only [Act.put, List.setIfInBounds_toArray, List.set_cons_zero, List.set_cons_succ, i64_w, i32_w]
    rfl
  refine take_ (i := 4) (N := some 17) (v := ?_) (a' := ?_) #[true, true, true, true, true, true, true, true, false, false, false, false, false, false, false] rfl rfl (by kernel_rfl) (fun _ _ _ h => h) (Or.inl ⟨by rfl, ?_⟩) hHeld ?_ ?_
  rotate_left
  · rintro w' ⟨s0, s1, s2⟩
    go_simp
    with_reducible rfl
  rotate_left
  · simp only [Act.put, List.setIfInBounds_toArray, List.set_cons_zero, List.set_cons_succ, i64_w, i32_w]
    rfl
  refine take_ (i := 8) (N := some 21) (v := ?_) (a' := ?_) #[true, true, true, true, true, true, true, true, true, false, false, false, false, false, false] rfl rfl (by kernel_rfl) (fun _ _ _ h => h) (Or.inl ⟨by rfl, ?_⟩) hHeld ?_ ?_
  rotate_left
  · rintro w' ⟨s0, s1, s2⟩
    go_simp
    with_reducible rfl
  rotate_left
  · simp only [Act.put, List.setIfInBounds_toArray, List.set_cons_zero, List.set_cons_succ, i64_w, i32_w]
    rfl
  refine pure_ (i := 9) (N := some 22) (v := ?_) (a' := ?_) #[true, true, true, true, true, true, true, true, true, true, false, false, false, false, false] rfl rfl (by kernel_rfl) (fun _ _ _ h => h) (Or.inl ⟨by rfl, ?_⟩) ?_ ?_
  rotate_left
  · intro w'
    go_simp
    with_reducible rfl
  rotate_left
  · simp only [Act.put, List.setIfInBounds_toArray, List.set_cons_zero, List.set_cons_succ, i64_w, i32_w]
    rfl
  refine pure_ (i := 10) (N := some 23) (v := ?_) (a' := ?_) #[true, true, true, true, true, true, true, true, true, true, true, false, false, false, false] rfl rfl (by kernel_rfl) (fun _ _ _ h => h) (Or.inl ⟨by rfl, ?_⟩) ?_ ?_
  rotate_left
  · intro w'
    go_simp
    with_reducible rfl
  rotate_left
  · simp only [Act.put, List.setIfInBounds_toArray, List.set_cons_zero, List.set_cons_succ, i64_w, i32_w]
    rfl
  refine take_ (i := 11) (N := some 24) (v := ?_) (a' := ?_) #[true, true, true, true, true, true, true, true, true, true, true, true, false, false, false] rfl rfl (by kernel_rfl) (fun _ _ _ h => h) (Or.inl ⟨by rfl, ?_⟩) hHeld ?_ ?_
  rotate_left
  · rintro w' ⟨s0, s1, s2⟩
    go_simp
    with_reducible rfl
  rotate_left
  · simp only [Act.put, List.setIfInBounds_toArray, List.set_cons_zero, List.set_cons_succ, i64_w, i32_w]
    rfl
  refine pure_ (i := 12) (N := some 25) (v := ?_) (a' := ?_) #[true, true, true, true, true, true, true, true, true, true, true, true, true, false, false] rfl rfl (by kernel_rfl) (fun _ _ _ h => h) (Or.inl ⟨by rfl, ?_⟩) ?_ ?_
  rotate_left
  · intro w'
    go_simp
    with_reducible rfl
  rotate_left
  · simp only [Act.put, List.setIfInBounds_toArray, List.set_cons_zero, List.set_cons_succ, i64_w, i32_w]
    rfl
  refine pure_ (i := 13) (N := some 26) (v := ?_) (a' := ?_) #[true, true, true, true, true, true, true, true, true, true, true, true, true, true, false] rfl rfl (by kernel_rfl) (fun _ _ _ h => h) (Or.inl ⟨by rfl, ?_⟩) ?_ ?_
  rotate_left
  · intro w'
    go_simp
    with_reducible rfl
  rotate_left
  · simp only [Act.put, List.setIfInBounds_toArray, List.set_cons_zero, List.set_cons_succ, i64_w, i32_w]
    rfl
  refine last_ (i := 14) (N := none) #[true, true, true, true, true, true, true, true, true, true, true, true, true, true, true] rfl rfl (by kernel_rfl) (by decide) (fun K hK => ?_)
  refine skip_ (w1 := ?_) (by rfl) rfl ?_ ?_
  rotate_left
  · go_simp
    rfl
  refine hK.out _ _ ?_
  clear hK K
  refine done_ (by kernel_rfl) ?_
  clear c0 c5 c1 f1 hc0
  have HK1 := Aside0.mk (show (w.setCell ⟨g, 1, none⟩ (.int .i64 t)).drew.drew.heap[g]? = some (.cells #[.slice (some ad) l.length c, .int .i64 t, .int .i64 p, .int .i64 q, .int .i64 wl, .int .i64 nx, .bool pz] 48 (0, 0)) from blk_drew (blk_drew (blk_put (show w.heap[g]? = some (.cells #[.slice (some ad) l.length c, .int .i64 st, .int .i64 p, .int .i64 q, .int .i64 wl, .int .i64 nx, .bool pz] 48 (0, 0)) from HK.out) 1 (.int .i64 t) rfl)))
  have ho1 : Only g w (w.setCell ⟨g, 1, none⟩ (.int .i64 t)).drew.drew := ⟨below_drewB (below_drewB (((Only.refl g w).set_ 1 (.int .i64 t)).1)), ((Only.refl g w).set_ 1 (.int .i64 t)).2⟩
  have HR1 := Aside0.mk (ho1.R (show Kd.R k54 54 w base ok (.slice (some ad) l.length c) l from HR.out) hok)
  have HO1 := Aside0.mk ho1
  obtain ⟨w1, hw1⟩ : ∃ w1, w1 = (w.setCell ⟨g, 1, none⟩ (.int .i64 t)).drew.drew := ⟨_, rfl⟩
  rw [← hw1] at HK1 HR1 HO1
  rw [← hw1]
  have c4 : w1.cell? ⟨g, 4, none⟩ = some (.int .i64 wl) := (blk_cell HK1.out 4).trans rfl
  have f4 := blk_frozen HK1.out 4
  clear hw1 ho1
  go_wp2_with fail
  have hkb := (KeepBut.refl w1 g none).set_ 4 (.int .i64 0)
  have ho2 := HO1.out.set_ 4 (.int .i64 0)
  refine (HDUE.out _ (blk_put HK1.out 4 (.int .i64 0) rfl) (Kd.R_keep HR1.out hkb hok)).mono ?_
  rintro e w2 ⟨v, rfl, hv, hq, hr, ho⟩
  have HX := Aside0.mk (show _ ∧ _ ∧ _ ∧ _ from ⟨Kd.R_lower hv ho2.1.size, hq, hr, ho2.trans ho⟩)
  clear hv hq hr ho hkb ho2 c4 f4
  go_wp2
  go_ret
  exact ⟨v, rfl, HX.out⟩
end Go.Proofs.Ytmongghhagbokaa.PlRefT
