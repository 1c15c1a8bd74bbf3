/- The law PlayParts returns true: a walk through its text; no condition. -/
import Derived.Test.YtmongghhagbokaaPlTimes
import Derived.Test.YtmongghhagbokaaPlWide
namespace Go.Proofs.Ytmongghhagbokaa.PlParts
open Go.RowKit Go.Proofs.Ytmongghhagbokaa.Kit Go.Proofs.Ytmongghhagbokaa.Plain Go.Proofs.Ytmongghhagbokaa.Mine Go.Proofs.Ytmongghhagbokaa.Event Go.Proofs.Ytmongghhagbokaa.EventRef Go.Proofs.Ytmongghhagbokaa.EventList Go.Proofs.Ytmongghhagbokaa.EventListR Go.Proofs.Ytmongghhagbokaa.Tame Go.Proofs.Ytmongghhagbokaa.EvUntil Go.Proofs.Ytmongghhagbokaa.EvSame Go.Proofs.Ytmongghhagbokaa.PlScale Go.Proofs.Ytmongghhagbokaa.PlNow Go.Proofs.Ytmongghhagbokaa.PlDue Go.Proofs.Ytmongghhagbokaa.PlNew Go.Proofs.Ytmongghhagbokaa.PlFit Go.Proofs.Ytmongghhagbokaa.PlPause Go.Proofs.Ytmongghhagbokaa.PlTimes Go.Proofs.Ytmongghhagbokaa.PlWide Go.Proofs.YtmongghhagbokaaW.PrintWords Go.Proofs.YtmongghhagbokaaW.PrintLast Go.Proofs.YtmongghhagbokaaW.PrintMore
open Go.Proofs.Ytmongghhagbokaa.PPlayRights (S54 z54 k54 k54_open k54_mk k54_mkM rd_T54 at_T54 info54)
set_option linter.unusedVariables false
set_option linter.unusedSimpArgs false
theorem mid_app {α : Type} (l : List α) {a b c : Nat} (h1 : a ≤ b) (h2 : b ≤ c) (h3 : c ≤ l.length) : (l.take b).drop a ++ (l.take c).drop b = (l.take c).drop a := by
  have e : (l.take c).take b = l.take b := by rw [List.take_take, Nat.min_eq_left h2]
  have h := List.take_append_drop b (l.take c)
  rw [e] at h
  conv => rhs; rw [← h]
  rw [List.drop_append_of_le_length (by rw [List.length_take]; omega)]
theorem part_facts (x : Int) : ∃ k : Nat, k ≤ 16777215 ∧ Go.bits .and .i64 x 16777215 = (k : Int) := ⟨(x % 16777216).toNat, by omega, by rw [low24]; omega⟩
theorem app_len {α : Type} {l : List α} (a b c d : Nat) (h : l.length ≤ 60) : (((l.take a).drop b).length + ((l.take c).drop d).length) * 48 ≤ 140737488355328 := by
  rw [List.length_drop, List.length_take, List.length_drop, List.length_take]
  omega
theorem wlT_small {k wl : Nat} (hk : k ≤ 16777215) (hw : wl ≤ 1500000000) : wlT false (k : Int) wl = wl + k := by
  rw [wlT, if_neg (by decide), dN_small (by omega) (by omega)]
theorem sum_le {k wl : Nat} (hk : k ≤ 16777215) (hw : wl ≤ 1500000000) : wl + k ≤ 1600000000 := by omega
set_option maxHeartbeats 3200000 in
set_option maxRecDepth 100000 in
theorem parts_small (A B : Option Addr) (c cb : Nat) (l : List S54) (ts : List Int) (a b d : Int) (w : World) (hC : Kd.C k54 w A l.length l) (hT : ReadsInt w .i64 B ts.length ts) (hl : l.length ≤ 60) (ht : ts.length ≤ 60) :
    Calls Try.prog 3 #[.slice A l.length c, .agg #[.int .i64 a, .int .i64 b, .int .i64 d], .slice B ts.length cb] w fun e w' => e = .returned (.bool true) ∧ Below w.heap.size w w' := by
  have hu := Try.underlying57
  have h1 : (l.length : Int) ≤ 60 := by omega
  have h2 : (ts.length : Int) ≤ 60 := by omega
  have HTM := Aside0.mk (fun W (h : Kd.C k54 W A l.length l) => tame_c A c l W h (by omega))
  have hlt := tame_len l 0
  have hrt := tame_right l 0 (by omega) (by omega)
  have HC := Aside0.mk hC
  have HT := Aside0.mk hT
  obtain ⟨l2, hl2⟩ : ∃ l2, l2 = tame 0 l := ⟨_, rfl⟩
  rw [← hl2] at HTM hlt hrt
  obtain ⟨n, hn⟩ : ∃ n, n = l.length := ⟨_, rfl⟩
  rw [← hn] at HTM HC hlt h1
  rw [← hn]
  have HLN := Aside0.mk hlt
  have HLR := Aside0.mk hrt
  have HRI := Aside0.mk (listR_rising l2 0 hrt)
  obtain ⟨m, hm⟩ : ∃ m, m = ts.length := ⟨_, rfl⟩
  rw [← hm] at HT h2
  rw [← hm]
  have HM := Aside0.mk hm
  obtain ⟨st, ea, hst2⟩ := st_facts a
  obtain ⟨bb, p, eb, eb2, eb3, ep, hp1⟩ := speed_facts b
  obtain ⟨dd, q, ed, ed2, ed3, eq, hq1⟩ := speed_facts d
  have HF := Aside0.mk (fun k (hk : k ≤ 2000000000) => fine_small (n := k) hst2 hp1.1 hp1.2 hq1.1 hq1.2 hk)
  have HNS := Aside0.mk (fun k (hk : k ≤ 2000000000) => now_small (q := q) (n := k) hst2 hp1.2 hk)
  have HN0 := Aside0.mk (show nowN st p q 0 = st from by rw [now_small hst2 hp1.2 (by omega), Nat.zero_mul, Nat.zero_div, Nat.add_zero])
  have HNG := Aside0.mk (fun wl : Nat => show st ≤ nowN st p q wl from by have h0 := now_small (st := st) (p := p) (q := q) (n := 0) hst2 hp1.2 (by omega); have h1 := now_mono (st := st) (p := p) (q := q) (n := 0) (m := wl) (Nat.zero_le _); rw [Nat.zero_mul, Nat.zero_div] at h0; omega)
  have HP1 := Aside0.mk hp1
  have HQ1 := Aside0.mk hq1
  have HST := Aside0.mk hst2
  have hsp : speedB (p : Int) (q : Int) = true := speedB_nat hp1 hq1
  have HSP := Aside0.mk hsp
  have HBS := Aside0.mk hl
  have HBN := Aside0.mk (show n ≤ 60 by omega)
  have HBT := Aside0.mk ht
  have hpI : (p : Int) ≤ 1000 := Int.ofNat_le.2 hp1.2
  have hqI : (q : Int) ≤ 1000 := Int.ofNat_le.2 hq1.2
  have hqP : (0 : Int) < q := Int.ofNat_lt.2 hq1.1
  have hsI : (st : Int) ≤ 65535 := Int.ofNat_le.2 (Nat.le_of_lt_succ hst2)
  clear hC hT hl ht hlt hrt hl2 hn hm hst2 hp1 hq1 hsp
  go_enter Try.func3, Try.ntmps3
  go_upto_region 1 with fail
  obtain ⟨w1, hw1⟩ : ∃ w1, w1 = w.alloc (.cells #[.int .i64 a, .int .i64 b, .int .i64 d] 23) := ⟨_, rfl⟩
  obtain ⟨gs, hg⟩ : ∃ g, g = w.heap.size := ⟨_, rfl⟩
  have HK1 := Aside0.mk (show w1.heap[gs]? = some (.cells #[.int .i64 a, .int .i64 b, .int .i64 d] 23 (0, 0)) from by rw [hw1, hg]; exact blk_new w _)
  have hb1 : Below w.heap.size w w1 := by rw [hw1]; exact below_alloc (Below.refl _ _) _
  have HB1 := Aside0.mk hb1
  have HC1 := Aside0.mk (Kd.C_below HC.out hb1)
  rw [← hw1, ← hg]
  clear hw1 hg hb1
  go_wp2_with fail
  refine (fit_c _).mono ?_
  rintro e w2 ⟨rfl, hb⟩
  have HK2 := Aside0.mk (blk_below HK1.out hb)
  have HB2 := Aside0.mk (below_kept HB1.out hb)
  have HC2 := Aside0.mk (Kd.C_below HC1.out hb)
  clear hb
  go_wp2_with fail
  refine (HTM.out w2 HC2.out).mono ?_
  rintro e w3 ⟨vl, rfl, ho, hb⟩
  obtain ⟨A2, c2, rfl⟩ := Kd.R_slice ho
  have HK3 := Aside0.mk (blk_below HK2.out hb)
  have HB3 := Aside0.mk (below_kept HB2.out hb)
  rw [HLN.out] at ho
  rw [HLN.out]
  have HL3 := Aside0.mk (Kd.R_lower ho HB2.out.size)
  clear ho hb HTM
  have c0 : w3.drew.cell? ⟨gs, 0, none⟩ = some (.int .i64 a) := (blk_cell (blk_drew HK3.out) 0).trans rfl
  have c1 : w3.drew.cell? ⟨gs, 1, none⟩ = some (.int .i64 b) := (blk_cell (blk_drew HK3.out) 1).trans rfl
  have c2' : w3.drew.cell? ⟨gs, 2, none⟩ = some (.int .i64 d) := (blk_cell (blk_drew HK3.out) 2).trans rfl
  go_upto_region 6 with fail
  refine start_ (n := 12) (S := fun w' => w'.cell? ⟨gs, 0, none⟩ = some (.int .i64 a) ∧ w'.cell? ⟨gs, 1, none⟩ = some (.int .i64 b) ∧ w'.cell? ⟨gs, 2, none⟩ = some (.int .i64 d)) (ds := []) #[false, false, false, false, false, false, false, false, false, false, false, false] (by kernel_rfl) rfl rfl ⟨c0, c1, c2'⟩ (fun hHeld => ?_)
  refine pure_ (i := 0) (N := some 29) (v := ?_) (a' := ?_) #[true, false, false, false, false, false, false, false, false, false, false, false] rfl rfl (by kernel_rfl) (fun _ _ _ h => h) (Or.inl ⟨by rfl, ?_⟩) ?_ ?_
  rotate_left
  · intro w'
    go_simp
    with_reducible rfl
  rotate_left
  · simp only [Act.put, List.setIfInBounds_toArray, List.set_cons_zero, List.set_cons_succ, i64_w, i32_w]
    rfl
  refine pure_ (i := 5) (N := some 34) (v := ?_) (a' := ?_) #[true, false, false, false, false, true, false, false, false, false, false, false] rfl rfl (by kernel_rfl) (fun _ _ _ h => h) (Or.inl ⟨by rfl, ?_⟩) ?_ ?_
  rotate_left
  · intro w'
    go_simp
    with_reducible rfl
  rotate_left
  · simp only [Act.put, List.setIfInBounds_toArray, List.set_cons_zero, List.set_cons_succ, i64_w, i32_w]
    rfl
  refine take_ (i := 1) (N := some 30) (v := ?_) (a' := ?_) #[true, true, false, false, false, true, false, false, false, false, false, false] rfl rfl (by kernel_rfl) (fun _ _ _ h => h) (Or.inl ⟨by rfl, ?_⟩) hHeld ?_ ?_
  rotate_left
  · rintro w' ⟨s0, s1, s2⟩
    go_simp
    with_reducible rfl
  rotate_left
  · simp only [Act.put, List.setIfInBounds_toArray, List.set_cons_zero, List.set_cons_succ, i64_w, i32_w]
    rfl
  refine pure_ (i := 2) (N := some 31) (v := ?_) (a' := ?_) #[true, true, true, false, false, true, false, false, false, false, false, false] rfl rfl (by kernel_rfl) (fun _ _ _ h => h) (Or.inl ⟨by rfl, ?_⟩) ?_ ?_
  rotate_left
  · intro w'
    go_simp
    with_reducible rfl
  rotate_left
  · simp only [Act.put, List.setIfInBounds_toArray, List.set_cons_zero, List.set_cons_succ, i64_w, i32_w]
    rfl
  refine pure_ (i := 3) (N := some 32) (v := ?_) (a' := ?_) #[true, true, true, true, false, true, false, false, false, false, false, false] rfl rfl (by kernel_rfl) (fun _ _ _ h => h) (Or.inl ⟨by rfl, ?_⟩) ?_ ?_
  rotate_left
  · intro w'
    go_simp
    with_reducible rfl
  rotate_left
  · simp only [Act.put, List.setIfInBounds_toArray, List.set_cons_zero, List.set_cons_succ, i64_w, i32_w]
    rfl
  refine pure_ (i := 4) (N := some 33) (v := ?_) (a' := ?_) #[true, true, true, true, true, true, false, false, false, false, false, false] rfl rfl (by kernel_rfl) (fun _ _ _ h => h) (Or.inl ⟨by rfl, ?_⟩) ?_ ?_
  rotate_left
  · intro w'
    go_simp
    with_reducible rfl
  rotate_left
  · simp only [Act.put, List.setIfInBounds_toArray, List.set_cons_zero, List.set_cons_succ, i64_w, i32_w]
    rfl
  refine pure_ (i := 10) (N := some 7) (v := ?_) (a' := ?_) #[true, true, true, true, true, true, false, false, false, false, true, false] rfl rfl (by kernel_rfl) (fun _ _ _ h => h) (Or.inl ⟨by rfl, ?_⟩) ?_ ?_
  rotate_left
  · intro w'
    go_simp
    with_reducible rfl
  rotate_left
  · simp only [Act.put, List.setIfInBounds_toArray, List.set_cons_zero, List.set_cons_succ, i64_w, i32_w]
    rfl
  refine take_ (i := 6) (N := some 35) (v := ?_) (a' := ?_) #[true, true, true, true, true, true, true, false, false, false, true, false] rfl rfl (by kernel_rfl) (fun _ _ _ h => h) (Or.inl ⟨by rfl, ?_⟩) hHeld ?_ ?_
  rotate_left
  · rintro w' ⟨s0, s1, s2⟩
    go_simp
    with_reducible rfl
  rotate_left
  · simp only [Act.put, List.setIfInBounds_toArray, List.set_cons_zero, List.set_cons_succ, i64_w, i32_w]
    rfl
  refine pure_ (i := 7) (N := some 36) (v := ?_) (a' := ?_) #[true, true, true, true, true, true, true, true, false, false, true, false] rfl rfl (by kernel_rfl) (fun _ _ _ h => h) (Or.inl ⟨by rfl, ?_⟩) ?_ ?_
  rotate_left
  · intro w'
    go_simp
    with_reducible rfl
  rotate_left
  · simp only [Act.put, List.setIfInBounds_toArray, List.set_cons_zero, List.set_cons_succ, i64_w, i32_w]
    rfl
  refine pure_ (i := 8) (N := some 37) (v := ?_) (a' := ?_) #[true, true, true, true, true, true, true, true, true, false, true, false] rfl rfl (by kernel_rfl) (fun _ _ _ h => h) (Or.inl ⟨by rfl, ?_⟩) ?_ ?_
  rotate_left
  · intro w'
    go_simp
    with_reducible rfl
  rotate_left
  · simp only [Act.put, List.setIfInBounds_toArray, List.set_cons_zero, List.set_cons_succ, i64_w, i32_w]
    rfl
  refine pure_ (i := 9) (N := some 38) (v := ?_) (a' := ?_) #[true, true, true, true, true, true, true, true, true, true, true, false] rfl rfl (by kernel_rfl) (fun _ _ _ h => h) (Or.inl ⟨by rfl, ?_⟩) ?_ ?_
  rotate_left
  · intro w'
    go_simp
    with_reducible rfl
  rotate_left
  · simp only [Act.put, List.setIfInBounds_toArray, List.set_cons_zero, List.set_cons_succ, i64_w, i32_w]
    rfl
  refine pure_ (i := 11) (N := some 8) (v := ?_) (a' := ?_) #[true, true, true, true, true, true, true, true, true, true, true, true] rfl rfl (by kernel_rfl) (fun _ _ _ h => h) (Or.inl ⟨by rfl, ?_⟩) ?_ ?_
  rotate_left
  · intro w'
    go_simp
    with_reducible rfl
  rotate_left
  · simp only [Act.put, List.setIfInBounds_toArray, List.set_cons_zero, List.set_cons_succ, i64_w, i32_w]
    rfl
  refine done_ (by kernel_rfl) ?_
  clear eb ed eb2 ed2 eb3 ed3 ep eq c0 c1 c2'
  have HB3d := Aside0.mk (below_drew HB3.out)
  have HL3d := Aside0.mk (Kd.R_drew HL3.out)
  have HK3d := Aside0.mk (blk_drew HK3.out)
  have c0 : w3.drew.cell? ⟨gs, 0, none⟩ = some (.int .i64 a) := (blk_cell HK3d.out 0).trans rfl
  go_wp2_with fail
  have hn60 : l2.length ≤ 1000 := by have h3 := HLN.out; omega
  have HNO := Aside0.mk (fun W (h : Kd.C k54 W A2 l2.length l2) => new_ok A2 c2 l2 st p q W h hn60 (by have := HST.out; omega) HSP.out HLR.out)
  rw [HLN.out] at HNO
  have HC3d := Aside0.mk (show Kd.C k54 w3.drew A2 n l2 from by have h4 := (Kd.R_reads' HL3d.out).2.2; rw [HLN.out] at h4; exact h4)
  refine (HNO.out _ HC3d.out).mono ?_
  rintro e w4 ⟨g1, A4, c4, rfl, hgw, hp, hr, hb⟩
  have HB4 := Aside0.mk (below_kept HB3d.out hb)
  have HG1 := Aside0.mk hgw
  have HP4 := Aside0.mk hp
  have hg1l : g1 < w4.heap.size := blk_lt hp
  have HG1L := Aside0.mk hg1l
  have HR4 := Aside0.mk (Kd.R_bound (Kd.R_lower hr HB3d.out.size))
  have HK4 := Aside0.mk (blk_below HK3d.out hb)
  have HC4 := Aside0.mk (Kd.C_below HC3d.out hb)
  have c0' : w4.cell? ⟨gs, 0, none⟩ = some (.int .i64 a) := (blk_cell HK4.out 0).trans rfl
  clear hgw hp hr hb hn60 c0 hg1l
  go_wp2_with fail
  refine (HNO.out _ HC4.out).mono ?_
  rintro e w5 ⟨g2, A5, c5, rfl, hgw, hp, hr, hb⟩
  have HB5 := Aside0.mk (below_kept HB4.out hb)
  have HG2 := Aside0.mk hgw
  have HP5 := Aside0.mk (show PC w5 g1 (.slice A4 n c4) st p q 0 (countT (st : Int) l2) false from blk_below HP4.out hb)
  have HQ5 := Aside0.mk hp
  have HG2L := Aside0.mk (blk_lt hp)
  have h45 := hb.size
  have HR5 := Aside0.mk (Kd.R_mono (ok' := fun k => k < w5.heap.size ∧ k ≠ g1 ∧ k ≠ g2) (Kd.R_below HR4.out hb) (fun k hk => by have h1 := hk.2.2.1; have h2 := hk.1; exact ⟨by omega, h2, by omega⟩))
  have HS5 := Aside0.mk (Kd.R_mono (ok' := fun k => k < w5.heap.size ∧ k ≠ g1 ∧ k ≠ g2) (Kd.R_bound hr) (fun k hk => by have h1 := hk.2.2.1; have h2 := hk.1; have h3 := hk.2.1; have := HG1L.out; exact ⟨by omega, by omega, h2⟩))
  have HG12 := Aside0.mk (show g1 ≠ g2 by have := HG1L.out; omega)
  have HGB := Aside0.mk (show g1 < w5.heap.size ∧ g2 < w5.heap.size from ⟨Nat.lt_of_lt_of_le HG1L.out h45, HG2L.out⟩)
  have HB45 := Aside0.mk h45
  have HB4S := Aside0.mk HB4.out.size
  clear hgw hp hr hb c0' HNO h45 ea
  go_wp2_with fail
  go_loopg [13, 14, 75] m (fun gk v13 v14 v75 W => ∃ (i wl : Nat) (v : Value), v = v13 ∧ v14 = .int .i64 (wl : Int) ∧ v75 = .int .i64 (i : Int) ∧ Aside0 (gk + i = m) ∧ Aside0 (wl ≤ i * 16777215) ∧ Aside0 (PC W g1 (.slice A4 n c4) st p q wl (countT (nowN st p q wl : Int) l2) false) ∧ Aside0 (PC W g2 (.slice A5 n c5) st p q 0 (countT (st : Int) l2) false) ∧ Aside0 (Kd.R k54 54 W w.heap.size (fun k => k < w5.heap.size ∧ k ≠ g1 ∧ k ≠ g2) (.slice A4 n c4) l2) ∧ Aside0 (Kd.R k54 54 W w4.heap.size (fun k => k < w5.heap.size ∧ k ≠ g1 ∧ k ≠ g2) (.slice A5 n c5) l2) ∧ Aside0 (Kd.R k54 54 W w5.heap.size (fun _ => True) v ((l2.take (countT (nowN st p q wl : Int) l2)).drop (countT (st : Int) l2))) ∧ Aside0 (Below w.heap.size w W) ∧ Aside0 (w5.heap.size ≤ W.heap.size))
  case atStart => exact ⟨0, 0, _, rfl, rfl, rfl, ⟨by omega⟩, ⟨by omega⟩, ⟨by rw [HN0.out]; exact HP5.out⟩, HQ5, HR5, HS5, ⟨by rw [HN0.out, show (l2.take (countT (st : Int) l2)).drop (countT (st : Int) l2) = [] from by rw [List.drop_eq_nil_iff, List.length_take]; omega]; exact Kd.R_nil _ _ _ _ _⟩, HB5, ⟨Nat.le_refl _⟩⟩
  case round =>
    obtain ⟨i, wl, v, rfl, rfl, rfl, HGK, HWL, HP, HQ, HR, HS, HV, HB, HBS5⟩ := hrel
    have hgi := HGK.out
    by_cases hi : i < m
    · obtain ⟨g0, rfl⟩ : ∃ g0, gk = g0 + 1 := ⟨gk - 1, by omega⟩
      obtain ⟨ad, ead, hc0⟩ := (HT.out.below HB.out).at_ (i : Int) (by omega) (by omega)
      obtain ⟨x, hx⟩ : ∃ x, x = rd ts (i : Int) := ⟨_, rfl⟩
      rw [← hx, Int.toNat_natCast] at hc0
      subst ead
      have him : (i : Int) < m := by omega
      have hwl := wl_le HWL.out hi (by have := HM.out; have := HBT.out; omega)
      obtain ⟨k, hk, ek⟩ := part_facts x
      have HKL := Aside0.mk hk
      have HWB := Aside0.mk hwl
      obtain ⟨u, hu2⟩ : ∃ u, u = wl + k := ⟨_, rfl⟩
      have hub : u ≤ 1600000000 := by rw [hu2]; exact sum_le HKL.out HWB.out
      have hwk := wall_facts hwl hk
      rw [← hu2] at hwk
      have hwt : wlT false (k : Int) wl = u := by rw [hu2]; exact wlT_small HKL.out HWB.out
      have hf := HF.out wl (Nat.le_trans HWB.out (by decide))
      have htk := wtick_c g1 A4 c4 l2 (k : Int) st p q wl (countT (nowN st p q wl : Int) l2) false wr w.heap.size (fun k => k < w5.heap.size ∧ k ≠ g1 ∧ k ≠ g2) (fun _ h => h.2.1) (by rw [HLN.out]; exact HP.out) (by rw [HLN.out]; exact HR.out) HRI.out (by have := HLN.out; omega) ⟨hf.1, hf.2.1, hf.2.2.1, hf.2.2.2.1, hf.2.2.2.2.1, hf.2.2.2.2.2.1⟩ (countT_le _ _)
      rw [hwt, to_mono (by rw [hu2]; exact Nat.le_add_right _ _), HLN.out] at htk
      have HTK := Aside0.mk htk
      have HUB := Aside0.mk hub
      have HU2 := Aside0.mk hu2
      clear hx hgi hi hk hwl hu2 hub hwt hf htk
      go_wp2_with fail
      refine HTK.out.mono ?_
      rintro e w6 ⟨v6, rfl, hv, hp, hr, ho⟩
      have HB6 := Aside0.mk (HB.out.trans (ho.below (B := w.heap.size) (Nat.le_trans HB3d.out.size HG1.out)))
      have HP6 := Aside0.mk hp
      have HQ6 := Aside0.mk (show PC w6 g2 (.slice A5 n c5) st p q 0 (countT (st : Int) l2) false from ho.blk HQ.out (Ne.symm HG12.out))
      have HR6 := Aside0.mk hr
      have HS6 := Aside0.mk (ho.R HS.out (fun _ h => h.2.1))
      have HV6 := Aside0.mk (ho.Rbase HV.out HGB.out.1)
      have HBS6 := Aside0.mk (Nat.le_trans HBS5.out ho.1.size)
      obtain ⟨A6, c6, rfl⟩ := Kd.R_slice hv
      have HC6 := Aside0.mk (Kd.R_reads' hv).2.2
      obtain ⟨lm, hlm⟩ : ∃ lm, lm = (l2.take (countT (nowN st p q u : Int) l2)).drop (countT (nowN st p q wl : Int) l2) := ⟨_, rfl⟩
      obtain ⟨lo, hlo⟩ : ∃ lo, lo = (l2.take (countT (nowN st p q wl : Int) l2)).drop (countT (st : Int) l2) := ⟨_, rfl⟩
      have HALN := Aside0.mk (show (lo.length + lm.length) * 48 ≤ 140737488355328 from by rw [hlo, hlm]; exact app_len _ _ _ _ (by rw [HLN.out]; exact HBN.out))
      have HAPP := Aside0.mk (show lo ++ lm = (l2.take (countT (nowN st p q u : Int) l2)).drop (countT (st : Int) l2) from by
        rw [hlo, hlm]
        exact mid_app l2 (by rw [← HN0.out]; exact countT_mono (Int.ofNat_le.2 (by rw [HN0.out]; exact HNG.out wl)) l2) (countT_mono (Int.ofNat_le.2 (now_mono (by rw [HU2.out]; exact Nat.le_add_right _ _))) l2) (countT_le _ _))
      rw [← hlm] at HC6
      rw [← hlm]
      rw [← hlo] at HV6
      clear hv hp hr ho hlm hlo HTK
      go_wp2_with (first
        | ((with_reducible refine gate_builtin (b := .append) (xs := #[.tmp 79, .tmp 83]) rfl ?_); at_builtin; go_must ((refine Kd.R_append_rows k54 (w0 := w6) w5.heap.size rfl (.tmp 79) (.tmp 83) 22 54 (.agg #[(.int .i64 0), (.int .i64 0), (.string ⟨#[]⟩), (.int .i64 0), (.int .i64 0)]) 48 rfl Try.underlying22 info54 rfl (by decide) (by omega) v lo lm A6 lm.length c6 (fun _ => True) (fun _ => False) rfl rfl HV6.out HC6.out ?aK (fun _ hk => hk.elim) ?aF (Below.refl _ _) HBS6.out HALN.out ?_; (case aK => exact fun x cs h => by rw [k54_open h]; exact k54_mkM _ _ _ x); (case aF => exact fun _ _ => trivial); intro v7 w7 ho hb hg hat; rw [HAPP.out] at ho; have HV7 := Aside0.mk ho; have HB7 := Aside0.mk hb; clear ho hb hg hat)))
        | fail)
      go_roundg g0
      case measure => omega
      case rel => exact ⟨i + 1, u, v7, rfl, by rw [hwk], by first | go_num | (congr 1; unfold wrap64; omega), ⟨by have := HGK.out; omega⟩, ⟨by have := HU2.out; have := HWL.out; have := HKL.out; omega⟩, ⟨(HB7.out.block g1 HGB.out.1).trans HP6.out⟩, ⟨(HB7.out.block g2 HGB.out.2).trans HQ6.out⟩, ⟨Kd.R_step HR6.out (fun j hj _ => HB7.out.block j hj.1)⟩, ⟨Kd.R_step HS6.out (fun j hj _ => HB7.out.block j hj.1)⟩, HV7, ⟨HB6.out.trans (HB7.out.mono HB5.out.size)⟩, ⟨Nat.le_trans HBS6.out HB7.out.size⟩⟩
    · have him : (m : Int) ≤ i := by omega
      obtain ⟨lm, hlm⟩ : ∃ lm, lm = (l2.take (countT (nowN st p q wl : Int) l2)).drop (countT (st : Int) l2) := ⟨_, rfl⟩
      rw [← hlm] at HV
      have HML := Aside0.mk (show lm.length < 1000000000 from by rw [hlm]; exact len_small _ _ (lt_big HLN.out HBN.out))
      obtain ⟨A6, c6, rfl⟩ := Kd.R_slice HV.out
      have HWB := Aside0.mk (show wl ≤ 1600000000 by have := HWL.out; have := HGK.out; have := HM.out; have := HBT.out; omega)
      have hf := HF.out wl (Nat.le_trans HWB.out (by decide))
      have HFI := Aside0.mk hf
      have htk := wtick_c g2 A5 c5 l2 (wl : Int) st p q 0 (countT (st : Int) l2) false wr w4.heap.size (fun k => k < w5.heap.size ∧ k ≠ g1 ∧ k ≠ g2) (fun _ h => h.2.2) (by rw [HLN.out]; exact HQ.out) (by rw [HLN.out]; exact HS.out) HRI.out (by have := HLN.out; omega) ⟨hf.1, hf.2.1, hf.2.2.1, hf.2.2.2.1, hf.2.2.2.2.1, Nat.zero_le _⟩ (countT_le _ _)
      rw [show wlT false (wl : Int) 0 = wl from by rw [wlT, if_neg (by decide), dN_small (Nat.le_trans HWB.out (by decide)) (by decide), Nat.zero_add], show countT (st : Int) l2 = countT (nowN st p q 0 : Int) l2 from by rw [HN0.out], to_mono (Nat.zero_le _), HN0.out, HLN.out, ← hlm] at htk
      have HTK := Aside0.mk htk
      clear hgi hi hf htk hlm
      go_wp2_with fail
      refine HTK.out.mono ?_
      rintro e w6 ⟨v6, rfl, hv, hq, hs, ho⟩
      have HB6 := Aside0.mk (HB.out.trans (ho.below (B := w.heap.size) (Nat.le_trans HB4S.out HG2.out)))
      have HQ6 := Aside0.mk hq
      have HP6 := Aside0.mk (show PC w6 g1 (.slice A4 n c4) st p q wl (countT (nowN st p q wl : Int) l2) false from ho.blk HP.out HG12.out)
      have HV6 := Aside0.mk (Kd.R_reads' (ho.Rbase HV.out HGB.out.2)).2.2
      obtain ⟨A7, c7, rfl⟩ := Kd.R_slice hv
      have HSM := Aside0.mk (same_c A6 A7 c6 c7 lm w6 HV6.out (Kd.R_reads' hv).2.2 HML.out)
      clear hv hq hs ho HTK
      go_wp2_with fail
      refine HSM.out.mono ?_
      rintro e w7 ⟨rfl, hb⟩
      have HB7 := Aside0.mk (below_kept HB6.out hb)
      have HP7 := Aside0.mk (show PC w7 g1 (.slice A4 n c4) st p q wl (countT (nowN st p q wl : Int) l2) false from blk_below HP6.out hb)
      have HQ7 := Aside0.mk (show PC w7 g2 (.slice A5 n c5) st p q wl (countT (nowN st p q wl : Int) l2) false from blk_below HQ6.out hb)
      clear hb HSM
      have HN1 := Aside0.mk (now_c g1 (.slice A4 n c4) st p q wl (countT (nowN st p q wl : Int) l2) false w7 HP7.out HFI.out)
      go_wp2_with fail
      refine HN1.out.mono ?_
      rintro e w8 ⟨rfl, hb⟩
      have HB8 := Aside0.mk (below_kept HB7.out hb)
      have HP8 := Aside0.mk (show PC w8 g1 (.slice A4 n c4) st p q wl (countT (nowN st p q wl : Int) l2) false from blk_below HP7.out hb)
      have HQ8 := Aside0.mk (show PC w8 g2 (.slice A5 n c5) st p q wl (countT (nowN st p q wl : Int) l2) false from blk_below HQ7.out hb)
      clear hb HN1
      have HN2 := Aside0.mk (now_c g2 (.slice A5 n c5) st p q wl (countT (nowN st p q wl : Int) l2) false w8 HQ8.out HFI.out)
      go_wp2_with fail
      refine HN2.out.mono ?_
      rintro e w9 ⟨rfl, hb⟩
      have HB9 := Aside0.mk (below_kept HB8.out hb)
      have HP9 := Aside0.mk (show PC w9 g1 (.slice A4 n c4) st p q wl (countT (nowN st p q wl : Int) l2) false from blk_below HP8.out hb)
      have HQ9 := Aside0.mk (show PC w9 g2 (.slice A5 n c5) st p q wl (countT (nowN st p q wl : Int) l2) false from blk_below HQ8.out hb)
      clear hb HN2
      have hcl := countT_le (nowN st p q wl : Int) l2
      rw [HLN.out] at hcl
      have HCL := Aside0.mk hcl
      have HL1 := Aside0.mk (left_c g1 A4 n c4 st p q wl (countT (nowN st p q wl : Int) l2) false w9 HP9.out hcl (by have := HBN.out; omega))
      clear hcl
      go_wp2_with fail
      refine HL1.out.mono ?_
      rintro e w10 ⟨rfl, hb⟩
      have HB10 := Aside0.mk (below_kept HB9.out hb)
      have HQ10 := Aside0.mk (show PC w10 g2 (.slice A5 n c5) st p q wl (countT (nowN st p q wl : Int) l2) false from blk_below HQ9.out hb)
      clear hb HL1
      have HL2 := Aside0.mk (left_c g2 A5 n c5 st p q wl (countT (nowN st p q wl : Int) l2) false w10 HQ10.out HCL.out (by have := HBN.out; omega))
      go_wp2_with fail
      refine HL2.out.mono ?_
      rintro e w11 ⟨rfl, hb⟩
      have HB11 := Aside0.mk (below_kept HB10.out hb)
      clear hb HL2
      go_wp2
      go_ret
      exact ⟨by first | rfl | simp, HB11.out⟩
set_option maxHeartbeats 3200000 in
set_option maxRecDepth 100000 in
theorem parts_big (A B : Option Addr) (c cb n m : Nat) (a b d : Int) (w : World) (hn : n ≤ maxLen) (hm : m ≤ maxLen) (hbig : 60 < n ∨ (n ≤ 60 ∧ 60 < m)) :
    Calls Try.prog 3 #[.slice A n c, .agg #[.int .i64 a, .int .i64 b, .int .i64 d], .slice B m cb] w fun e w' => e = .returned (.bool true) ∧ Below w.heap.size w w' := by
  have hbi : (60 : Int) < n ∨ ((n : Int) ≤ 60 ∧ (60 : Int) < m) := by omega
  have h2 : (n : Int) ≤ 9223372036854775807 := by unfold maxLen at hn; omega
  have h3 : (m : Int) ≤ 9223372036854775807 := by unfold maxLen at hm; omega
  clear hbig hn hm
  go_enter Try.func3, Try.ntmps3
  go_wp2_with fail
  have hb0 := below_alloc (Below.refl w.heap.size w) (.cells #[.int .i64 a, .int .i64 b, .int .i64 d] 23)
  refine (fit_c _).mono ?_
  rintro e w1 ⟨rfl, hb⟩
  have HB := Aside0.mk (below_then hb0 (Nat.le_trans (Nat.le_refl _) hb0.size) hb)
  clear hb hb0
  rcases hbi with h | ⟨h, h4⟩
  · go_wp2
    go_ret
    exact ⟨rfl, HB.out⟩
  · go_wp2
    go_ret
    exact ⟨rfl, HB.out⟩
theorem row {w : World} (A : Option Addr) (c : Nat) (l : List S54) (hC : Kd.C k54 w A l.length l) (_ : l.length ≤ c) (_ : ∀ x ∈ l, EvOpen.evwf x) (a b d : Int) (_ : (Lit.int .i64 a).wf = true) (_ : (Lit.int .i64 b).wf = true) (_ : (Lit.int .i64 d).wf = true) (B : Option Addr) (cb : Nat) (ts : List Int) (hT : ReadsInt w .i64 B ts.length ts) (_ : ts.length ≤ cb) (_ : ∀ x ∈ ts, (Lit.int .i64 x).wf = true) (_ : ts.length * 8 ≤ 140737488351232) :
    Calls Try.prog 3 #[.slice A l.length c, .agg #[.int .i64 a, .int .i64 b, .int .i64 d], .slice B ts.length cb] w fun e w' => e = .returned (.bool true) ∧ Below w.heap.size w w' := by
  by_cases h1 : 60 < l.length
  · exact parts_big A B c cb _ _ a b d w (by have := hC.2.1; unfold maxLen; omega) (by have := hT.2.1; unfold maxLen; omega) (.inl h1)
  · by_cases h2 : 60 < ts.length
    · exact parts_big A B c cb _ _ a b d w (by have := hC.2.1; unfold maxLen; omega) (by have := hT.2.1; unfold maxLen; omega) (.inr ⟨by omega, h2⟩)
    · exact parts_small A B c cb l ts a b d w hC hT (by omega) (by omega)
end Go.Proofs.Ytmongghhagbokaa.PlParts
