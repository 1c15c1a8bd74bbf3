/- The law PlayRuns returns true: a walk through its text; no condition. -/
import Derived.Test.YtmongghhagbokaaPlRunsC
import Derived.Test.YtmongghhagbokaaDeedK
import Derived.Deep.CutBlock
namespace Go.Proofs.Ytmongghhagbokaa.PlRuns
open Go.RowKit Go.Proofs.Ytmongghhagbokaa.Kit Go.Proofs.Ytmongghhagbokaa.Plain Go.Proofs.Ytmongghhagbokaa.Mine Go.Proofs.Ytmongghhagbokaa.Event Go.Proofs.Ytmongghhagbokaa.EventRef Go.Proofs.Ytmongghhagbokaa.EventList Go.Proofs.Ytmongghhagbokaa.EventListR Go.Proofs.Ytmongghhagbokaa.Tame Go.Proofs.Ytmongghhagbokaa.EvUntil Go.Proofs.Ytmongghhagbokaa.EvSame Go.Proofs.Ytmongghhagbokaa.PlScale Go.Proofs.Ytmongghhagbokaa.PlNow Go.Proofs.Ytmongghhagbokaa.PlDue Go.Proofs.Ytmongghhagbokaa.PlNew Go.Proofs.Ytmongghhagbokaa.PlFit Go.Proofs.Ytmongghhagbokaa.PlPause Go.Proofs.Ytmongghhagbokaa.PlTimes Go.Proofs.Ytmongghhagbokaa.PlWide Go.Proofs.Ytmongghhagbokaa.PlStep Go.Proofs.Ytmongghhagbokaa.PlRunsC Go.Proofs.Ytmongghhagbokaa.PlRef Go.Proofs.Ytmongghhagbokaa.PlRefT Go.Proofs.Ytmongghhagbokaa.PlRefDue Go.Proofs.Ytmongghhagbokaa.DeedK Go.Proofs.YtmongghhagbokaaW.PrintWords Go.Proofs.YtmongghhagbokaaW.PrintLast Go.Proofs.YtmongghhagbokaaW.PrintMore
open Go.Proofs.Ytmongghhagbokaa.PPlayRights (S54 z54 k54 k54_open k54_mk k54_mkM rd_T54 at_T54 info54)
set_option linter.unusedVariables false
set_option linter.unusedSimpArgs false
theorem low3 (n : Int) : Go.bits .and .i64 n 3 = n % 4 := by
  have h := lowbits 2 (by omega) n 3 (by decide)
  have e : ((2 ^ 2 : Nat) : Int) = 4 := by decide
  rw [e] at h
  exact h
theorem kind_facts (n : Int) : Go.bits .and .i64 n 3 = 0 ∨ Go.bits .and .i64 n 3 = 1 ∨ Go.bits .and .i64 n 3 = 2 ∨ Go.bits .and .i64 n 3 = 3 := by
  rw [low3]
  omega
theorem S2.cells {w W : World} {g h : Nat} {A : Option Addr} {c : Nat} {A2 : Option Addr} {c2 : Nat} {l : List S54} {a b : PS} (s : S2 w W g h A c A2 c2 l a b) : W.cell? ⟨h, 5, none⟩ = some (.int .i64 b.nx) ∧ W.cell? ⟨h, 6, none⟩ = some (.bool b.pz) := by
  have hk : W.heap[h]? = some (.cells #[.slice A2 l.length c2, .int .i64 b.st, .int .i64 b.p, .int .i64 b.q, .int .i64 b.wl, .int .i64 b.nx, .bool b.pz] 48 (0, 0)) := s.qc
  exact ⟨(blk_cell hk 5).trans rfl, (blk_cell hk 6).trans rfl⟩
set_option maxHeartbeats 3200000 in
set_option maxRecDepth 100000 in
theorem runs_bad (A B : Option Addr) (c cb : Nat) (l : List S54) (ts : List SD) (a b d : Int) (w : World) (hC : Kd.C k54 w A l.length l) (hT : Kd.C kD w B ts.length ts) (hl : l.length ≤ 60) (ht : ts.length ≤ 60) (hno : okNew a b d (tame 0 l) = false) :
    Calls Try.prog 7 #[.slice A l.length c, .agg #[.int .i64 a, .int .i64 b, .int .i64 d], .slice B ts.length cb] w fun e w' => e = .returned (.bool true) ∧ Below w.heap.size w w' := by
  have hu := Try.underlying57
  have h1 : (l.length : Int) ≤ 60 := by omega
  have h2 : (ts.length : Int) ≤ 60 := by omega
  have HTM := Aside0.mk (fun W (h : Kd.C k54 W A l.length l) => tame_c A c l W h (by omega))
  have hlt := tame_len l 0
  have hrt := tame_right l 0 (by omega) (by omega)
  have HC := Aside0.mk hC
  have HT := Aside0.mk hT
  obtain ⟨l2, hl2⟩ : ∃ l2, l2 = tame 0 l := ⟨_, rfl⟩
  rw [← hl2] at HTM hlt hrt hno
  obtain ⟨n, hn⟩ : ∃ n, n = l.length := ⟨_, rfl⟩
  rw [← hn] at HTM HC hlt h1
  rw [← hn]
  have HLN := Aside0.mk hlt
  have HLR := Aside0.mk hrt
  have HRI := Aside0.mk (listR_rising l2 0 hrt)
  obtain ⟨m, hm⟩ : ∃ m, m = ts.length := ⟨_, rfl⟩
  rw [← hm] at HT h2
  rw [← hm]
  have HM := Aside0.mk hm
  have HBS := Aside0.mk hl
  have HBN := Aside0.mk (show n ≤ 60 by omega)
  have HBT := Aside0.mk ht
  have hor : a < 0 ∨ (0 ≤ a ∧ 4611686018427387904 ≤ a) ∨ (0 ≤ a ∧ a ≤ 4611686018427387903 ∧ speedB b d = false) := by
    unfold okNew at hno
    rw [HLR.out, Bool.and_true] at hno
    by_cases k1 : a < 0
    · exact .inl k1
    · by_cases k2 : 4611686018427387904 ≤ a
      · exact .inr (.inl ⟨by omega, k2⟩)
      · refine .inr (.inr ⟨by omega, by omega, ?_⟩)
        rw [decide_eq_true (show 0 ≤ a ∧ a < 4611686018427387904 from ⟨by omega, by omega⟩), Bool.true_and] at hno
        exact hno
  have HOR := Aside0.mk hor
  have HNO := Aside0.mk hno
  clear hC hT hl ht hlt hrt hl2 hn hm hor hno
  go_enter Try.func7, Try.ntmps7
  go_upto_region 1 with fail
  obtain ⟨w1, hw1⟩ : ∃ w1, w1 = w.alloc (.cells #[.int .i64 a, .int .i64 b, .int .i64 d] 23) := ⟨_, rfl⟩
  obtain ⟨gs, hg⟩ : ∃ g, g = w.heap.size := ⟨_, rfl⟩
  have HK1 := Aside0.mk (show w1.heap[gs]? = some (.cells #[.int .i64 a, .int .i64 b, .int .i64 d] 23 (0, 0)) from by rw [hw1, hg]; exact blk_new w _)
  have hb1 : Below w.heap.size w w1 := by rw [hw1]; exact below_alloc (Below.refl _ _) _
  have HB1 := Aside0.mk hb1
  have HC1 := Aside0.mk (Kd.C_below HC.out hb1)
  rw [← hw1, ← hg]
  clear hw1 hg hb1
  go_wp2_with fail
  refine (fit_c _).mono ?_
  rintro e w2 ⟨rfl, hb⟩
  have HK2 := Aside0.mk (blk_below HK1.out hb)
  have HB2 := Aside0.mk (below_kept HB1.out hb)
  have HC2 := Aside0.mk (Kd.C_below HC1.out hb)
  clear hb
  go_wp2_with fail
  refine (HTM.out w2 HC2.out).mono ?_
  rintro e w3 ⟨vl, rfl, ho, hb⟩
  obtain ⟨A2, c2, rfl⟩ := Kd.R_slice ho
  have HK3 := Aside0.mk (blk_below HK2.out hb)
  have HB3 := Aside0.mk (below_kept HB2.out hb)
  rw [HLN.out] at ho
  rw [HLN.out]
  have HL3 := Aside0.mk (Kd.R_lower ho HB2.out.size)
  clear ho hb HTM
  have c0 : w3.cell? ⟨gs, 0, none⟩ = some (.int .i64 a) := (blk_cell HK3.out 0).trans rfl
  have c1 : w3.cell? ⟨gs, 1, none⟩ = some (.int .i64 b) := (blk_cell HK3.out 1).trans rfl
  have c2' : w3.cell? ⟨gs, 2, none⟩ = some (.int .i64 d) := (blk_cell HK3.out 2).trans rfl
  have hnb := new_bad A2 c2 l2 a b d w3 (by rw [HLN.out]; have h4 := (Kd.R_reads' HL3.out).2.2; rw [HLN.out] at h4; exact h4) HNO.out
  rw [HLN.out] at hnb
  go_wp2_with fail
  refine hnb.mono ?_
  rintro e w4 ⟨rfl, hb⟩
  have HK4 := Aside0.mk (blk_below HK3.out hb)
  have HB4 := Aside0.mk (below_kept HB3.out hb)
  clear hb c0 c1 c2' hnb
  have c0 : w4.cell? ⟨gs, 0, none⟩ = some (.int .i64 a) := (blk_cell HK4.out 0).trans rfl
  have c1 : w4.cell? ⟨gs, 1, none⟩ = some (.int .i64 b) := (blk_cell HK4.out 1).trans rfl
  have c2' : w4.cell? ⟨gs, 2, none⟩ = some (.int .i64 d) := (blk_cell HK4.out 2).trans rfl
  rcases HOR.out with h2 | ⟨h2, h3⟩ | ⟨h2, h3, h4⟩
  · clear HOR
    go_wp2
    go_ret
    exact ⟨rfl, HB4.out⟩
  · have n1 : decide (a < 0) = false := decide_eq_false (by omega)
    clear HOR
    go_wp2
    go_ret
    exact ⟨rfl, HB4.out⟩
  · have n1 : decide (a < 0) = false := decide_eq_false (by omega)
    have n2 : decide ((4611686018427387904 : Int) ≤ a) = false := decide_eq_false (by omega)
    have HRS := Aside0.mk (rspeed_c b d w4)
    rw [h4] at HRS
    clear HOR h4
    go_wp2_with fail
    refine HRS.out.mono ?_
    rintro e w5 ⟨rfl, hb⟩
    have HB5 := Aside0.mk (below_kept HB4.out hb)
    clear hb
    go_wp2
    go_ret
    exact ⟨rfl, HB5.out⟩
set_option maxHeartbeats 3200000 in
set_option maxRecDepth 100000 in
theorem runs_small (A B : Option Addr) (c cb : Nat) (l : List S54) (ts : List SD) (a b d : Nat) (w : World) (hC : Kd.C k54 w A l.length l) (hT : Kd.C kD w B ts.length ts) (hl : l.length ≤ 60) (ht : ts.length ≤ 60) (ha : a < 4611686018427387904) (hs : speedB b d = true) :
    Calls Try.prog 7 #[.slice A l.length c, .agg #[.int .i64 a, .int .i64 b, .int .i64 d], .slice B ts.length cb] w fun e w' => e = .returned (.bool true) ∧ Below w.heap.size w w' := by
  have hu := Try.underlying57
  have hu2 := Try.underlying48
  have h1 : (l.length : Int) ≤ 60 := by omega
  have h2 : (ts.length : Int) ≤ 60 := by omega
  have HTM := Aside0.mk (fun W (h : Kd.C k54 W A l.length l) => tame_c A c l W h (by omega))
  have hlt := tame_len l 0
  have hrt := tame_right l 0 (by omega) (by omega)
  have HC := Aside0.mk hC
  have HT := Aside0.mk hT
  obtain ⟨l2, hl2⟩ : ∃ l2, l2 = tame 0 l := ⟨_, rfl⟩
  rw [← hl2] at HTM hlt hrt
  obtain ⟨n, hn⟩ : ∃ n, n = l.length := ⟨_, rfl⟩
  rw [← hn] at HTM HC hlt h1
  rw [← hn]
  have HLN := Aside0.mk hlt
  have HLR := Aside0.mk hrt
  have HRI := Aside0.mk (listR_rising l2 0 hrt)
  obtain ⟨m, hm⟩ : ∃ m, m = ts.length := ⟨_, rfl⟩
  rw [← hm] at HT h2
  rw [← hm]
  have HM := Aside0.mk hm
  have HBS := Aside0.mk hl
  have HBN := Aside0.mk (show n ≤ 60 by omega)
  have HBT := Aside0.mk ht
  have HSA := Aside0.mk ha
  have HSP := Aside0.mk hs
  have hbd := of_decide_eq_true hs
  have HBD := Aside0.mk hbd
  have HL60 := Aside0.mk (show l2.length ≤ 60 by omega)
  have haI : (0 : Int) ≤ a := by omega
  have haI2 : (a : Int) ≤ 4611686018427387903 := by omega
  have n2 : decide ((4611686018427387904 : Int) ≤ a) = false := decide_eq_false (by omega)
  have n1 : decide ((a : Int) < 0) = false := decide_eq_false (by omega)
  clear hC hT hl ht hlt hrt hl2 hn hm ha hs hbd
  go_enter Try.func7, Try.ntmps7
  go_upto_region 1 with fail
  obtain ⟨w1, hw1⟩ : ∃ w1, w1 = w.alloc (.cells #[.int .i64 a, .int .i64 b, .int .i64 d] 23) := ⟨_, rfl⟩
  obtain ⟨gs, hg⟩ : ∃ g, g = w.heap.size := ⟨_, rfl⟩
  have HK1 := Aside0.mk (show w1.heap[gs]? = some (.cells #[.int .i64 a, .int .i64 b, .int .i64 d] 23 (0, 0)) from by rw [hw1, hg]; exact blk_new w _)
  have hb1 : Below w.heap.size w w1 := by rw [hw1]; exact below_alloc (Below.refl _ _) _
  have HB1 := Aside0.mk hb1
  have HC1 := Aside0.mk (Kd.C_below HC.out hb1)
  rw [← hw1, ← hg]
  clear hw1 hg hb1
  go_wp2_with fail
  refine (fit_c _).mono ?_
  rintro e w2 ⟨rfl, hb⟩
  have HK2 := Aside0.mk (blk_below HK1.out hb)
  have HB2 := Aside0.mk (below_kept HB1.out hb)
  have HC2 := Aside0.mk (Kd.C_below HC1.out hb)
  clear hb
  go_wp2_with fail
  refine (HTM.out w2 HC2.out).mono ?_
  rintro e w3 ⟨vl, rfl, ho, hb⟩
  obtain ⟨A2, c2, rfl⟩ := Kd.R_slice ho
  have HK3 := Aside0.mk (blk_below HK2.out hb)
  have HB3 := Aside0.mk (below_kept HB2.out hb)
  rw [HLN.out] at ho
  rw [HLN.out]
  have HL3 := Aside0.mk (Kd.R_lower ho HB2.out.size)
  clear ho hb HTM
  have c0 : w3.cell? ⟨gs, 0, none⟩ = some (.int .i64 a) := (blk_cell HK3.out 0).trans rfl
  have c1 : w3.cell? ⟨gs, 1, none⟩ = some (.int .i64 b) := (blk_cell HK3.out 1).trans rfl
  have c2' : w3.cell? ⟨gs, 2, none⟩ = some (.int .i64 d) := (blk_cell HK3.out 2).trans rfl
  have hn60 : l2.length ≤ 1000 := by rw [HLN.out]; exact Nat.le_trans HBN.out (by decide)
  have hno := new_ok A2 c2 l2 a b d w3 (by rw [HLN.out]; have h4 := (Kd.R_reads' HL3.out).2.2; rw [HLN.out] at h4; exact h4) hn60 HSA.out HSP.out HLR.out
  rw [HLN.out] at hno
  go_wp2_with fail
  refine hno.mono ?_
  rintro e w4 ⟨g, A4, c4, rfl, hgw, hp, hr, hb⟩
  have HK4 := Aside0.mk (blk_below HK3.out hb)
  have HB4 := Aside0.mk (below_kept HB3.out hb)
  have HGL := Aside0.mk (blk_lt hp)
  have HWG := Aside0.mk (Nat.le_trans HB3.out.size hgw)
  have HP4 := Aside0.mk hp
  have HR4 := Aside0.mk (Kd.R_lower hr HB3.out.size)
  have HS4 := Aside0.mk (Kd.R_mono (ok' := fun k => k ≠ g) (Kd.R_below (Kd.R_bound HL3.out) hb) (fun k hk => by have h1 := hk.2.2.1; omega))
  clear hno hgw hp hr hb hn60 c0 c1 c2'
  have c0 : w4.cell? ⟨gs, 0, none⟩ = some (.int .i64 a) := (blk_cell HK4.out 0).trans rfl
  have c1 : w4.cell? ⟨gs, 1, none⟩ = some (.int .i64 b) := (blk_cell HK4.out 1).trans rfl
  have c2' : w4.cell? ⟨gs, 2, none⟩ = some (.int .i64 d) := (blk_cell HK4.out 2).trans rfl
  have HRS := Aside0.mk (rspeed_c b d w4)
  rw [HSP.out] at HRS
  go_wp2_with fail
  refine HRS.out.mono ?_
  rintro e w5 ⟨rfl, hb⟩
  have HK5 := Aside0.mk (blk_below HK4.out hb)
  have HB5 := Aside0.mk (below_kept HB4.out hb)
  have HG5 := Aside0.mk (Nat.lt_of_lt_of_le HGL.out hb.size)
  have HP5 := Aside0.mk (show PC w5 g (.slice A4 n c4) a b d 0 (countT (a : Int) l2) false from blk_below HP4.out hb)
  have HR5 := Aside0.mk (Kd.R_below HR4.out hb)
  have HS5 := Aside0.mk (Kd.R_below HS4.out hb)
  clear hb c0 c1 c2' HRS n1 n2
  have c0 : w5.cell? ⟨gs, 0, none⟩ = some (.int .i64 a) := (blk_cell HK5.out 0).trans rfl
  have c1 : w5.cell? ⟨gs, 1, none⟩ = some (.int .i64 b) := (blk_cell HK5.out 1).trans rfl
  have c2' : w5.cell? ⟨gs, 2, none⟩ = some (.int .i64 d) := (blk_cell HK5.out 2).trans rfl
  go_upto_region 11 with fail
  go_cut [9] (fun v9 W => ∃ h : Nat, v9 = .pointer (some ⟨h, 0, none⟩) ∧ Aside0 (w5.heap.size ≤ h) ∧ Aside0 (QC W h (.slice A2 n c2) a b d 0 0 false) ∧ Aside0 (Below w5.heap.size w5 W))
  case first =>
    go_wp2_with fail
    go_meet
    case rel => exact ⟨w5.heap.size, rfl, ⟨Nat.le_refl _⟩, ⟨blk_new w5 _⟩, ⟨below_alloc (Below.refl _ _) _⟩⟩
  case rest =>
    obtain ⟨h, rfl, HH, HQ, HB6⟩ := hcut
    clear c0 c1 c2'
    have HWH := Aside0.mk (show w.heap.size ≤ h from Nat.le_trans HB5.out.size HH.out)
    have HGH := Aside0.mk (show g ≠ h by have h1 := HG5.out; have h2 := HH.out; omega)
    have HSC := Aside0.mk (Kd.R_below (Kd.R_mono (ok' := fun k => k ≠ g ∧ k ≠ h) (Kd.R_bound HS5.out) (fun k hk => ⟨hk.1, by have h1 := hk.2.2.1; have h2 := HH.out; omega⟩)) HB6.out)
    have HRC := Aside0.mk (Kd.R_below (Kd.R_mono (ok' := fun k => k ≠ g ∧ k ≠ h) (Kd.R_bound HR5.out) (fun k hk => ⟨hk.1, by have h1 := hk.2.2.1; have h2 := HH.out; omega⟩)) HB6.out)
    have HPC := Aside0.mk (show PC wc g (.slice A4 n c4) a b d 0 (countT (a : Int) l2) false from blk_below HP5.out HB6.out)
    have hwd : Wide a b d 0 := by have h1 := HSA.out; have h2 := HBD.out; exact ⟨h1, by omega, by omega, by omega, by omega, Nat.zero_le _⟩
    have hdu := rdue_c h A2 c2 l2 a b d 0 0 false wc w.heap.size (fun k => k ≠ g ∧ k ≠ h) (fun _ k => k.2) (by rw [HLN.out]; exact HQ.out) (by rw [HLN.out]; exact HSC.out) HRI.out (by have := HL60.out; omega) hwd (Nat.zero_le _)
    have hnz : toN a b d 0 0 l2 = countT (a : Int) l2 := by rw [toN, now_zero HSA.out]; exact Nat.max_eq_left (Nat.zero_le _)
    rw [hnz] at hdu
    have HWD := Aside0.mk hwd
    have HDU := Aside0.mk hdu
    clear hdu hnz hwd
    go_wp2_with fail
    refine HDU.out.mono ?_
    rintro e w7 ⟨v7, rfl, _, hq, hs, ho⟩
    have HS2 := Aside0.mk (show S2 w w7 g h A4 c4 A2 c2 l2 ⟨a, b, d, 0, countT (a : Int) l2, false⟩ ⟨a, b, d, 0, countT (a : Int) l2, false⟩ from
      ⟨⟨HWD.out, countT_le _ _⟩, ⟨HWD.out, countT_le _ _⟩, by rw [HLN.out]; exact ho.blk HPC.out HGH.out, hq, by rw [HLN.out]; exact ho.R HRC.out (fun _ k => k.2), hs, HGH.out, HWG.out, HWH.out, (below_kept HB5.out HB6.out).trans (ho.below HWH.out)⟩)
    obtain ⟨ps0, hps0⟩ : ∃ ps0 : PS, ps0 = ⟨a, b, d, 0, countT (a : Int) l2, false⟩ := ⟨_, rfl⟩
    rw [← hps0] at HS2
    clear hq hs ho HDU hps0 haI haI2
    go_wp2_with fail
    go_loopg [79] m (fun gk v79 W => ∃ (i : Nat) (ps : PS), v79 = .int .i64 (i : Int) ∧ Aside0 (gk + i = m) ∧ Aside0 (S2 w W g h A4 c4 A2 c2 l2 ps ps))
    case atStart => exact ⟨0, ps0, rfl, ⟨by omega⟩, HS2⟩
    case round =>
      obtain ⟨i, ps, rfl, HGK, HS⟩ := hrel
      have hgi := HGK.out
      by_cases hi : i < m
      · obtain ⟨g0, rfl⟩ : ∃ g0, gk = g0 + 1 := ⟨gk - 1, by omega⟩
        obtain ⟨ad, x, ead, hc0, hc1, hc2⟩ := at_D (Kd.C_below HT.out HS.out.below) i hi
        subst ead
        have him : (i : Int) < m := by omega
        obtain ⟨x0, x1, x2⟩ := x
        simp only at hc0 hc1 hc2
        obtain ⟨kk, hkk⟩ : ∃ kk, kk = Go.bits .and .i64 x0 3 := ⟨_, rfl⟩
        have hkc := kind_facts x0
        rw [← hkk] at hkc
        have HKC := Aside0.mk hkc
        have hkk2 := hkk.symm
        clear hgi hi hkk hkc
        go_upto_region 15 with fail
        go_cut [11] (fun v11 W => ∃ gd : Nat, v11 = .pointer (some ⟨gd, 0, none⟩) ∧ Aside0 (gd ≠ g ∧ gd ≠ h) ∧ Aside0 (W.heap[gd]? = some (.cells #[.int .i64 x0, .int .i64 x1, .int .i64 x2] 42 (0, 0))) ∧ Aside0 (S2 w W g h A4 c4 A2 c2 l2 ps ps))
        case first =>
          go_wp2_with fail
          go_meet
          case rel => exact ⟨wr.heap.size, rfl, ⟨by have h1 := blk_lt HS.out.pc; have h2 := blk_lt HS.out.qc; exact ⟨by omega, by omega⟩⟩, ⟨blk_new wr _⟩, ⟨HS.out.on (below_alloc (Below.refl _ _) _)⟩⟩
        case rest =>
          obtain ⟨gd, rfl, HGD, BK, HS2a⟩ := hcut
          clear hc0 hc1 hc2
          have d0 : wc.cell? ⟨gd, 0, none⟩ = some (.int .i64 x0) := (blk_cell BK.out 0).trans rfl
          have d1 : wc.cell? ⟨gd, 1, none⟩ = some (.int .i64 x1) := (blk_cell BK.out 1).trans rfl
          have d2 : wc.cell? ⟨gd, 2, none⟩ = some (.int .i64 x2) := (blk_cell BK.out 2).trans rfl
          go_upto_block 2 with fail
          go_cut [12, 13] (fun v12 v13 W => ∃ (ps2 : PS) (lm : List S54) (A7 A8 : Option Addr) (c7 c8 : Nat), v12 = .slice A7 lm.length c7 ∧ v13 = .slice A8 lm.length c8 ∧ Aside0 (lm.length < 1000000000) ∧ Aside0 (Kd.C k54 W A7 lm.length lm) ∧ Aside0 (Kd.C k54 W A8 lm.length lm) ∧ Aside0 (S2 w W g h A4 c4 A2 c2 l2 ps2 ps2))
          case first =>
            rcases HKC.out with rfl | rfl | rfl | rfl
            · go_upto_region 24 with fail
              have HSd := Aside0.mk (HS2a.out.on (below_drew (Below.refl _ _)))
              have BKd := Aside0.mk (blk_drew BK.out)
              have k1 : wc.drew.cell? ⟨gd, 1, none⟩ = some (.int .i64 x1) := (blk_cell BKd.out 1).trans rfl
              have HTP := Aside0.mk (tick_p HLR.out HL60.out x1 HSd.out)
              clear d0 d1 d2
              refine start_ (n := 10) (S := fun w' => w'.cell? ⟨gd, 1, none⟩ = some (.int .i64 x1)) (ds := []) #[false, false, false, false, false, false, false, false, false, false] (by kernel_rfl) rfl rfl (k1) (fun hHeld => ?_)
              refine pure_ (i := 0) (N := some 102) (v := ?_) (a' := ?_) #[true, false, false, false, false, false, false, false, false, false] rfl rfl (by kernel_rfl) (fun _ _ _ h => h) (Or.inl ⟨by rfl, ?_⟩) ?_ ?_
              rotate_left
              · intro w'
                go_simp
                with_reducible rfl
              rotate_left
              · simp only [Act.put, List.setIfInBounds_toArray, List.set_cons_zero, List.set_cons_succ, i64_w, i32_w]
                rfl
              refine pure_ (i := 1) (N := some 103) (v := ?_) (a' := ?_) #[true, true, false, false, false, false, false, false, false, false] rfl rfl (by kernel_rfl) (fun _ _ _ h => h) (Or.inl ⟨by rfl, ?_⟩) ?_ ?_
              rotate_left
              · intro w'
                go_simp
                with_reducible rfl
              rotate_left
              · simp only [Act.put, List.setIfInBounds_toArray, List.set_cons_zero, List.set_cons_succ, i64_w, i32_w]
                rfl
              refine pure_ (i := 4) (N := some 106) (v := ?_) (a' := ?_) #[true, true, false, false, true, false, false, false, false, false] rfl rfl (by kernel_rfl) (fun _ _ _ h => h) (Or.inl ⟨by rfl, ?_⟩) ?_ ?_
              rotate_left
              · intro w'
                go_simp
                with_reducible rfl
              rotate_left
              · simp only [Act.put, List.setIfInBounds_toArray, List.set_cons_zero, List.set_cons_succ, i64_w, i32_w]
                rfl
              refine pure_ (i := 5) (N := some 107) (v := ?_) (a' := ?_) #[true, true, false, false, true, true, false, false, false, false] rfl rfl (by kernel_rfl) (fun _ _ _ h => h) (Or.inl ⟨by rfl, ?_⟩) ?_ ?_
              rotate_left
              · intro w'
                go_simp
                with_reducible rfl
              rotate_left
              · simp only [Act.put, List.setIfInBounds_toArray, List.set_cons_zero, List.set_cons_succ, i64_w, i32_w]
                rfl
              refine take_ (i := 2) (N := some 104) (v := ?_) (a' := ?_) #[true, true, true, false, true, true, false, false, false, false] rfl rfl (by kernel_rfl) (fun _ _ _ h => h) (Or.inl ⟨by rfl, ?_⟩) hHeld ?_ ?_
              rotate_left
              · intro w' s0
                go_simp
                with_reducible rfl
              rotate_left
              · simp only [Act.put, List.setIfInBounds_toArray, List.set_cons_zero, List.set_cons_succ, i64_w, i32_w]
                rfl
              refine take_ (i := 6) (N := some 108) (v := ?_) (a' := ?_) #[true, true, true, false, true, true, true, false, false, false] rfl rfl (by kernel_rfl) (fun _ _ _ h => h) (Or.inl ⟨by rfl, ?_⟩) hHeld ?_ ?_
              rotate_left
              · intro w' s0
                go_simp
                with_reducible rfl
              rotate_left
              · simp only [Act.put, List.setIfInBounds_toArray, List.set_cons_zero, List.set_cons_succ, i64_w, i32_w]
                rfl
              refine one_ (i := 3) (N := some 105) #[true, true, true, true, true, true, true, false, false, false] rfl rfl (by kernel_rfl) (by decide) (fun K hK => ?_)
              refine goes_ Try.func11 (by kernel_rfl) rfl #[.pointer (some ⟨g, 0, none⟩), .int .i64 x1] (by rfl) rfl rfl (by simp only [List.map_toArray, List.map_cons, List.map_nil]; rfl) ?_
              with_reducible refine (HTP.out).mono ?_
              rintro e w3a ⟨va, rfl, hva, hoa, hsa⟩
              refine ⟨_, rfl, ?_⟩
              have HSA3 := Aside0.mk hsa
              have HVA := Aside0.mk hva
              have BK3 := Aside0.mk (hoa.blk BKd.out HGD.out.1)
              have HSZ3 := Aside0.mk hoa.1.size
              clear hva hoa hsa
              have k3 := (blk_cell BK3.out 1).trans (rfl : _ = some (Value.int .i64 x1))
              refine hK.out _ _ (k3) (fun hHeld => ?_)
              clear hK K
              refine norm_ (a' := ?_) ?_ ?_
              rotate_left
              · show Act.put _ (some 105) _ = _
                simp only [Act.put, List.setIfInBounds_toArray, List.set_cons_zero, List.set_cons_succ, i64_w, i32_w]
                rfl
              refine one_ (i := 7) (N := some 109) #[true, true, true, true, true, true, true, true, false, false] rfl rfl (by kernel_rfl) (by decide) (fun K hK => ?_)
              refine goes_ Try.func23 (by kernel_rfl) rfl #[.pointer (some ⟨h, 0, none⟩), .int .i64 x1] (by rfl) rfl rfl (by simp only [List.map_toArray, List.map_cons, List.map_nil]; rfl) ?_
              with_reducible refine ((tick_q HLR.out HL60.out x1 HSA3.out)).mono ?_
              rintro e w4a ⟨vb, rfl, hvb, hob, hsb⟩
              refine ⟨_, rfl, ?_⟩
              have HSB4 := Aside0.mk hsb
              have HVB := Aside0.mk hvb
              have HVA4 := Aside0.mk (hob.Rbase HVA.out (blk_lt HSd.out.qc))
              have BK4 := Aside0.mk (hob.blk BK3.out HGD.out.2)
              clear hvb hob hsb
              have k4 := (blk_cell BK4.out 1).trans (rfl : _ = some (Value.int .i64 x1))
              refine hK.out _ _ (k4) (fun hHeld => ?_)
              clear hK K
              refine norm_ (a' := ?_) ?_ ?_
              rotate_left
              · show Act.put _ (some 109) _ = _
                simp only [Act.put, List.setIfInBounds_toArray, List.set_cons_zero, List.set_cons_succ, i64_w, i32_w]
                rfl
              refine pure_ (i := 8) (N := some 12) (v := ?_) (a' := ?_) #[true, true, true, true, true, true, true, true, true, false] rfl rfl (by kernel_rfl) (fun _ _ _ h => h) (Or.inl ⟨by rfl, ?_⟩) ?_ ?_
              rotate_left
              · intro w'
                go_simp
                with_reducible rfl
              rotate_left
              · simp only [Act.put, List.setIfInBounds_toArray, List.set_cons_zero, List.set_cons_succ, i64_w, i32_w]
                rfl
              refine pure_ (i := 9) (N := some 13) (v := ?_) (a' := ?_) #[true, true, true, true, true, true, true, true, true, true] rfl rfl (by kernel_rfl) (fun _ _ _ h => h) (Or.inl ⟨by rfl, ?_⟩) ?_ ?_
              rotate_left
              · intro w'
                go_simp
                with_reducible rfl
              rotate_left
              · simp only [Act.put, List.setIfInBounds_toArray, List.set_cons_zero, List.set_cons_succ, i64_w, i32_w]
                rfl
              refine done_ (by kernel_rfl) ?_
              clear k1 k3 k4
              obtain ⟨lm, hlm⟩ : ∃ lm, lm = (l2.take (tickP l2 x1 ps).nx).drop ps.nx := ⟨_, rfl⟩
              rw [← hlm] at HVA4 HVB
              have HML := Aside0.mk (show lm.length < 1000000000 from by rw [hlm]; exact len_small _ _ (lt_big HLN.out HBN.out))
              obtain ⟨A7, c7, rfl⟩ := Kd.R_slice HVA4.out
              obtain ⟨A8, c8, rfl⟩ := Kd.R_slice HVB.out
              have HC7 := Aside0.mk (Kd.R_reads' HVA4.out).2.2
              have HC8 := Aside0.mk (Kd.R_reads' HVB.out).2.2
              clear hlm
              go_wp2_with fail
              go_meet
              case rel => exact ⟨tickP l2 x1 ps, lm, A7, A8, c7, c8, rfl, rfl, HML, HC7, HC8, HSB4⟩
            · go_wp2_with fail
              refine (step_p HLR.out HL60.out HS2a.out).mono ?_
              rintro e w3a ⟨va, rfl, hva, hoa, hsa⟩
              have HSA3 := Aside0.mk hsa
              have HVA := Aside0.mk hva
              clear hva hoa hsa
              go_wp2_with fail
              refine (step_q HLR.out HL60.out HSA3.out).mono ?_
              rintro e w4a ⟨vb, rfl, hvb, hob, hsb⟩
              have HSB4 := Aside0.mk hsb
              have HVB := Aside0.mk hvb
              have HVA4 := Aside0.mk (hob.Rbase HVA.out (blk_lt HS2a.out.qc))
              clear hvb hob hsb
              obtain ⟨lm, hlm⟩ : ∃ lm, lm = (l2.take (stepP l2 ps).nx).drop ps.nx := ⟨_, rfl⟩
              rw [← hlm] at HVA4 HVB
              have HML := Aside0.mk (show lm.length < 1000000000 from by rw [hlm]; exact len_small _ _ (lt_big HLN.out HBN.out))
              obtain ⟨A7, c7, rfl⟩ := Kd.R_slice HVA4.out
              obtain ⟨A8, c8, rfl⟩ := Kd.R_slice HVB.out
              have HC7 := Aside0.mk (Kd.R_reads' HVA4.out).2.2
              have HC8 := Aside0.mk (Kd.R_reads' HVB.out).2.2
              clear hlm
              go_wp2_with fail
              go_meet
              case rel => exact ⟨stepP l2 ps, lm, A7, A8, c7, c8, rfl, rfl, HML, HC7, HC8, HSB4⟩
            · go_wp2_with fail
              refine (pause_p (Go.bits .and .i64 x1 1 == 1) HS2a.out).mono ?_
              rintro e w3a ⟨⟨u, rfl⟩, hoa, hsa⟩
              have BK3 := Aside0.mk (hoa.blk BK.out HGD.out.1)
              have HSA3 := Aside0.mk hsa
              have HK3q := Aside0.mk (show w3a.heap[h]? = some (.cells #[.slice A2 l2.length c2, .int .i64 ps.st, .int .i64 ps.p, .int .i64 ps.q, .int .i64 ps.wl, .int .i64 ps.nx, .bool ps.pz] 48 (0, 0)) from hsa.qc)
              clear d0 d1 d2 hoa hsa
              have d1 : w3a.cell? ⟨gd, 1, none⟩ = some (.int .i64 x1) := (blk_cell BK3.out 1).trans rfl
              have q6 : w3a.cell? ⟨h, 6, none⟩ = some (.bool ps.pz) := (blk_cell HK3q.out 6).trans rfl
              have f6 := blk_frozen HK3q.out 6
              go_wp2_with fail
              go_meet
              case rel =>
                refine ⟨pauseP (Go.bits .and .i64 x1 1 == 1) ps, [], none, none, 0, 0, rfl, rfl, ⟨by decide⟩, ⟨Kd.C_nil _ _⟩, ⟨Kd.C_nil _ _⟩, ⟨HSA3.out.onq ((Only.refl h w3a).set_ 6 _) ?_ HSA3.out.okb⟩⟩
                exact blk_put HK3q.out 6 (.bool (Go.bits .and .i64 x1 1 == 1)) rfl
            · have hsc : speedB x1 x2 = true ∨ speedB x1 x2 = false := by cases speedB x1 x2 <;> simp
              go_wp2_with fail
              refine (speed_q x1 x2 HS2a.out).mono ?_
              rintro e w3a ⟨rfl, hoa, hsa⟩
              have BK3 := Aside0.mk (hoa.blk BK.out HGD.out.2)
              have HSA3 := Aside0.mk hsa
              have HSP2 := Aside0.mk (speed_p x1 x2 hsa)
              clear d0 d1 d2 hoa hsa
              have d1 : w3a.cell? ⟨gd, 1, none⟩ = some (.int .i64 x1) := (blk_cell BK3.out 1).trans rfl
              have d2 : w3a.cell? ⟨gd, 2, none⟩ = some (.int .i64 x2) := (blk_cell BK3.out 2).trans rfl
              rcases hsc with hs | hs
              all_goals
                rw [hs] at HSP2
                rw [hs]
                clear hs
                go_wp2_with fail
                refine HSP2.out.mono ?_
                rintro e w4a ⟨rfl, hsb⟩
                have HSB4 := Aside0.mk hsb
                clear hsb
                go_wp2_with fail
                go_meet
                case rel => exact ⟨speedP x1 x2 ps, [], none, none, 0, 0, rfl, rfl, ⟨by decide⟩, ⟨Kd.C_nil _ _⟩, ⟨Kd.C_nil _ _⟩, HSB4⟩
          case rest =>
            obtain ⟨ps2, lm, A7, A8, c7, c8, rfl, rfl, HML, HC7, HC8, HSR⟩ := hcut
            clear d0 d1 d2 hkk2
            obtain ⟨nw, hnw⟩ : ∃ nw, nw = ps2.now := ⟨_, rfl⟩
            obtain ⟨nx2, hnx⟩ : ∃ nx2, nx2 = ps2.nx := ⟨_, rfl⟩
            obtain ⟨pz2, hpz⟩ : ∃ pz2, pz2 = ps2.pz := ⟨_, rfl⟩
            obtain ⟨lf, hlf⟩ : ∃ lf, lf = n - nx2 := ⟨_, rfl⟩
            have HNP := Aside0.mk (fun W (s : S2 w W g h A4 c4 A2 c2 l2 ps2 ps2) => now_p s)
            have HNQ := Aside0.mk (fun W (s : S2 w W g h A4 c4 A2 c2 l2 ps2 ps2) => now_q s)
            have HLP := Aside0.mk (fun W (s : S2 w W g h A4 c4 A2 c2 l2 ps2 ps2) => left_p HL60.out s)
            have HPP := Aside0.mk (fun W (s : S2 w W g h A4 c4 A2 c2 l2 ps2 ps2) => paused_p s)
            have HQQ := Aside0.mk (fun W (s : S2 w W g h A4 c4 A2 c2 l2 ps2 ps2) => S2.cells s)
            rw [← hnw] at HNP HNQ
            rw [← hnx, HLN.out, ← hlf] at HLP
            rw [← hpz] at HPP HQQ
            rw [← hnx] at HQQ
            have hnn : nx2 ≤ n := by rw [hnx, ← HLN.out]; exact HSR.out.oka.2
            have hnxI : (nx2 : Int) ≤ 60 := Int.ofNat_le.2 (Nat.le_trans hnn HBN.out)
            have hls := left_facts hnn HBN.out
            rw [← hlf] at hls
            obtain ⟨l1, l2', l3⟩ := hls
            have ne1 : ((nw : Int) != (nw : Int)) = false := by simp
            have ne2 : ((lf : Int) != (lf : Int)) = false := by simp
            have ne3 : (pz2 != pz2) = false := by simp
            have HSd := Aside0.mk (HSR.out.on (below_drew (Below.refl _ _)))
            have HSM := Aside0.mk (same_c A7 A8 c7 c8 lm wc.drew (Kd.C_drew HC7.out) (Kd.C_drew HC8.out) HML.out)
            obtain ⟨q5, q6⟩ := HQQ.out _ HSd.out
            clear hnw hnx hpz hlf hnn
            go_upto_region 30 with fail
            refine start_ (n := 32) (S := fun w' => w'.cell? ⟨h, 5, none⟩ = some (.int .i64 nx2) ∧ w'.cell? ⟨h, 6, none⟩ = some (.bool pz2)) (ds := []) #[false, false, false, false, false, false, false, false, false, false, false, false, false, false, false, false, false, false, false, false, false, false, false, false, false, false, false, false, false, false, false, false] (by kernel_rfl) rfl rfl ⟨q5, q6⟩ (fun hHeld => ?_)
            refine pure_ (i := 0) (N := some 131) (v := ?_) (a' := ?_) #[true, false, false, false, false, false, false, false, false, false, false, false, false, false, false, false, false, false, false, false, false, false, false, false, false, false, false, false, false, false, false, false] rfl rfl (by kernel_rfl) (fun _ _ _ h => h) (Or.inl ⟨by rfl, ?_⟩) ?_ ?_
            rotate_left
            · intro w'
              go_simp
              with_reducible rfl
            rotate_left
            · simp only [Act.put, List.setIfInBounds_toArray, List.set_cons_zero, List.set_cons_succ, i64_w, i32_w]
              rfl
            refine pure_ (i := 1) (N := some 132) (v := ?_) (a' := ?_) #[true, true, false, false, false, false, false, false, false, false, false, false, false, false, false, false, false, false, false, false, false, false, false, false, false, false, false, false, false, false, false, false] rfl rfl (by kernel_rfl) (fun _ _ _ h => h) (Or.inl ⟨by rfl, ?_⟩) ?_ ?_
            rotate_left
            · intro w'
              go_simp
              with_reducible rfl
            rotate_left
            · simp only [Act.put, List.setIfInBounds_toArray, List.set_cons_zero, List.set_cons_succ, i64_w, i32_w]
              rfl
            refine one_ (i := 2) (N := some 133) #[true, true, true, false, false, false, false, false, false, false, false, false, false, false, false, false, false, false, false, false, false, false, false, false, false, false, false, false, false, false, false, false] rfl rfl (by kernel_rfl) (by decide) (fun K hK => ?_)
            refine goes_ Try.func12 (by kernel_rfl) rfl #[.slice A7 lm.length c7, .slice A8 lm.length c8] (by rfl) rfl rfl (by simp only [List.map_toArray, List.map_cons, List.map_nil]; rfl) ?_
            with_reducible refine (HSM.out).mono ?_
            rintro e wa ⟨rfl, hb⟩
            refine ⟨_, rfl, ?_⟩
            have HSa := Aside0.mk (HSd.out.on hb)
            clear hb
            obtain ⟨q5a, q6a⟩ := HQQ.out _ HSa.out
            refine hK.out _ _ ⟨q5a, q6a⟩ (fun hHeld => ?_)
            clear hK K
            refine norm_ (a' := ?_) ?_ ?_
            rotate_left
            · show Act.put _ (some 133) _ = _
              simp only [Act.put, List.setIfInBounds_toArray, List.set_cons_zero, List.set_cons_succ, i64_w, i32_w]
              rfl
            refine pure_ (i := 3) (N := some 134) (v := ?_) (a' := ?_) #[true, true, true, true, false, false, false, false, false, false, false, false, false, false, false, false, false, false, false, false, false, false, false, false, false, false, false, false, false, false, false, false] rfl rfl (by kernel_rfl) (fun _ _ _ h => h) (Or.inl ⟨by rfl, ?_⟩) ?_ ?_
            rotate_left
            · intro w'
              go_simp
              with_reducible rfl
            rotate_left
            · simp only [Act.put, List.setIfInBounds_toArray, List.set_cons_zero, List.set_cons_succ, i64_w, i32_w]
              rfl
            refine pure_ (i := 4) (N := some 135) (v := ?_) (a' := ?_) #[true, true, true, true, true, false, false, false, false, false, false, false, false, false, false, false, false, false, false, false, false, false, false, false, false, false, false, false, false, false, false, false] rfl rfl (by kernel_rfl) (fun _ _ _ h => h) (Or.inl ⟨by rfl, ?_⟩) ?_ ?_
            rotate_left
            · intro w'
              go_simp
              with_reducible rfl
            rotate_left
            · simp only [Act.put, List.setIfInBounds_toArray, List.set_cons_zero, List.set_cons_succ, i64_w, i32_w]
              rfl
            refine pure_ (i := 5) (N := some 136) (v := ?_) (a' := ?_) #[true, true, true, true, true, true, false, false, false, false, false, false, false, false, false, false, false, false, false, false, false, false, false, false, false, false, false, false, false, false, false, false] rfl rfl (by kernel_rfl) (fun _ _ _ h => h) (Or.inl ⟨by rfl, ?_⟩) ?_ ?_
            rotate_left
            · intro w'
              go_simp
              with_reducible rfl
            rotate_left
            · simp only [Act.put, List.setIfInBounds_toArray, List.set_cons_zero, List.set_cons_succ, i64_w, i32_w]
              rfl
            refine pure_ (i := 7) (N := some 138) (v := ?_) (a' := ?_) #[true, true, true, true, true, true, false, true, false, false, false, false, false, false, false, false, false, false, false, false, false, false, false, false, false, false, false, false, false, false, false, false] rfl rfl (by kernel_rfl) (fun _ _ _ h => h) (Or.inl ⟨by rfl, ?_⟩) ?_ ?_
            rotate_left
            · intro w'
              go_simp
              with_reducible rfl
            rotate_left
            · simp only [Act.put, List.setIfInBounds_toArray, List.set_cons_zero, List.set_cons_succ, i64_w, i32_w]
              rfl
            refine one_ (i := 6) (N := some 137) #[true, true, true, true, true, true, true, true, false, false, false, false, false, false, false, false, false, false, false, false, false, false, false, false, false, false, false, false, false, false, false, false] rfl rfl (by kernel_rfl) (by decide) (fun K hK => ?_)
            refine goes_ Try.func13 (by kernel_rfl) rfl #[.pointer (some ⟨g, 0, none⟩)] (by rfl) rfl rfl (by simp only [List.map_toArray, List.map_cons, List.map_nil]; rfl) ?_
            with_reducible refine ((HNP.out _ HSa.out)).mono ?_
            rintro e wb ⟨rfl, hb⟩
            refine ⟨_, rfl, ?_⟩
            have HSb := Aside0.mk hb
            clear hb
            obtain ⟨q5b, q6b⟩ := HQQ.out _ HSb.out
            refine hK.out _ _ ⟨q5b, q6b⟩ (fun hHeld => ?_)
            clear hK K
            refine norm_ (a' := ?_) ?_ ?_
            rotate_left
            · show Act.put _ (some 137) _ = _
              simp only [Act.put, List.setIfInBounds_toArray, List.set_cons_zero, List.set_cons_succ, i64_w, i32_w]
              rfl
            refine one_ (i := 8) (N := some 139) #[true, true, true, true, true, true, true, true, true, false, false, false, false, false, false, false, false, false, false, false, false, false, false, false, false, false, false, false, false, false, false, false] rfl rfl (by kernel_rfl) (by decide) (fun K hK => ?_)
            refine goes_ Try.func26 (by kernel_rfl) rfl #[.pointer (some ⟨h, 0, none⟩)] (by rfl) rfl rfl (by simp only [List.map_toArray, List.map_cons, List.map_nil]; rfl) ?_
            with_reducible refine ((HNQ.out _ HSb.out)).mono ?_
            rintro e we ⟨rfl, hb⟩
            refine ⟨_, rfl, ?_⟩
            have HSe := Aside0.mk hb
            clear hb
            obtain ⟨q5e, q6e⟩ := HQQ.out _ HSe.out
            refine hK.out _ _ ⟨q5e, q6e⟩ (fun hHeld => ?_)
            clear hK K
            refine norm_ (a' := ?_) ?_ ?_
            rotate_left
            · show Act.put _ (some 139) _ = _
              simp only [Act.put, List.setIfInBounds_toArray, List.set_cons_zero, List.set_cons_succ, i64_w, i32_w]
              rfl
            refine pure_ (i := 9) (N := some 140) (v := ?_) (a' := ?_) #[true, true, true, true, true, true, true, true, true, true, false, false, false, false, false, false, false, false, false, false, false, false, false, false, false, false, false, false, false, false, false, false] rfl rfl (by kernel_rfl) (fun _ _ _ h => h) (Or.inl ⟨by rfl, ?_⟩) ?_ ?_
            rotate_left
            · intro w'
              go_simp
              with_reducible rfl
            rotate_left
            · simp only [Act.put, List.setIfInBounds_toArray, List.set_cons_zero, List.set_cons_succ, i64_w, i32_w]
              rfl
            refine pure_ (i := 10) (N := some 141) (v := ?_) (a' := ?_) #[true, true, true, true, true, true, true, true, true, true, true, false, false, false, false, false, false, false, false, false, false, false, false, false, false, false, false, false, false, false, false, false] rfl rfl (by kernel_rfl) (fun _ _ _ h => h) (Or.inl ⟨by rfl, ?_⟩) ?_ ?_
            rotate_left
            · intro w'
              go_simp
              with_reducible rfl
            rotate_left
            · simp only [Act.put, List.setIfInBounds_toArray, List.set_cons_zero, List.set_cons_succ, i64_w, i32_w]
              rfl
            refine pure_ (i := 11) (N := some 142) (v := ?_) (a' := ?_) #[true, true, true, true, true, true, true, true, true, true, true, true, false, false, false, false, false, false, false, false, false, false, false, false, false, false, false, false, false, false, false, false] rfl rfl (by kernel_rfl) (fun _ _ _ h => h) (Or.inl ⟨by rfl, ?_⟩) ?_ ?_
            rotate_left
            · intro w'
              go_simp
              with_reducible rfl
            rotate_left
            · simp only [Act.put, List.setIfInBounds_toArray, List.set_cons_zero, List.set_cons_succ, i64_w, i32_w]
              rfl
            refine pure_ (i := 12) (N := some 143) (v := ?_) (a' := ?_) #[true, true, true, true, true, true, true, true, true, true, true, true, true, false, false, false, false, false, false, false, false, false, false, false, false, false, false, false, false, false, false, false] rfl rfl (by kernel_rfl) (fun _ _ _ h => h) (Or.inl ⟨by rfl, ?_⟩) ?_ ?_
            rotate_left
            · intro w'
              go_simp
              with_reducible rfl
            rotate_left
            · simp only [Act.put, List.setIfInBounds_toArray, List.set_cons_zero, List.set_cons_succ, i64_w, i32_w]
              rfl
            refine pure_ (i := 14) (N := some 145) (v := ?_) (a' := ?_) #[true, true, true, true, true, true, true, true, true, true, true, true, true, false, true, false, false, false, false, false, false, false, false, false, false, false, false, false, false, false, false, false] rfl rfl (by kernel_rfl) (fun _ _ _ h => h) (Or.inl ⟨by rfl, ?_⟩) ?_ ?_
            rotate_left
            · intro w'
              go_simp
              with_reducible rfl
            rotate_left
            · simp only [Act.put, List.setIfInBounds_toArray, List.set_cons_zero, List.set_cons_succ, i64_w, i32_w]
              rfl
            refine pure_ (i := 15) (N := some 146) (v := ?_) (a' := ?_) #[true, true, true, true, true, true, true, true, true, true, true, true, true, false, true, true, false, false, false, false, false, false, false, false, false, false, false, false, false, false, false, false] rfl rfl (by kernel_rfl) (fun _ _ _ h => h) (Or.inl ⟨by rfl, ?_⟩) ?_ ?_
            rotate_left
            · intro w'
              go_simp
              with_reducible rfl
            rotate_left
            · simp only [Act.put, List.setIfInBounds_toArray, List.set_cons_zero, List.set_cons_succ, i64_w, i32_w]
              rfl
            refine pure_ (i := 16) (N := some 147) (v := ?_) (a' := ?_) #[true, true, true, true, true, true, true, true, true, true, true, true, true, false, true, true, true, false, false, false, false, false, false, false, false, false, false, false, false, false, false, false] rfl rfl (by kernel_rfl) (fun _ _ _ h => h) (Or.inl ⟨by rfl, ?_⟩) ?_ ?_
            rotate_left
            · intro w'
              go_simp
              with_reducible rfl
            rotate_left
            · simp only [Act.put, List.setIfInBounds_toArray, List.set_cons_zero, List.set_cons_succ, i64_w, i32_w]
              rfl
            refine pure_ (i := 17) (N := some 148) (v := ?_) (a' := ?_) #[true, true, true, true, true, true, true, true, true, true, true, true, true, false, true, true, true, true, false, false, false, false, false, false, false, false, false, false, false, false, false, false] rfl rfl (by kernel_rfl) (fun _ _ _ h => h) (Or.inl ⟨by rfl, ?_⟩) ?_ ?_
            rotate_left
            · intro w'
              go_simp
              with_reducible rfl
            rotate_left
            · simp only [Act.put, List.setIfInBounds_toArray, List.set_cons_zero, List.set_cons_succ, i64_w, i32_w]
              rfl
            refine pure_ (i := 18) (N := some 149) (v := ?_) (a' := ?_) #[true, true, true, true, true, true, true, true, true, true, true, true, true, false, true, true, true, true, true, false, false, false, false, false, false, false, false, false, false, false, false, false] rfl rfl (by kernel_rfl) (fun _ _ _ h => h) (Or.inl ⟨by rfl, ?_⟩) ?_ ?_
            rotate_left
            · intro w'
              go_simp
              with_reducible rfl
            rotate_left
            · simp only [Act.put, List.setIfInBounds_toArray, List.set_cons_zero, List.set_cons_succ, i64_w, i32_w]
              rfl
            refine take_ (i := 19) (N := some 150) (v := ?_) (a' := ?_) #[true, true, true, true, true, true, true, true, true, true, true, true, true, false, true, true, true, true, true, true, false, false, false, false, false, false, false, false, false, false, false, false] rfl rfl (by kernel_rfl) (fun _ _ _ h => h) (Or.inl ⟨by rfl, ?_⟩) hHeld ?_ ?_
            rotate_left
            · rintro w' ⟨s0, s1⟩
              go_simp
              with_reducible rfl
            rotate_left
            · simp only [Act.put, List.setIfInBounds_toArray, List.set_cons_zero, List.set_cons_succ, i64_w, i32_w]
              rfl
            refine pure_ (i := 20) (N := some 151) (v := ?_) (a' := ?_) #[true, true, true, true, true, true, true, true, true, true, true, true, true, false, true, true, true, true, true, true, true, false, false, false, false, false, false, false, false, false, false, false] rfl rfl (by kernel_rfl) (fun _ _ _ h => h) (Or.inl ⟨by rfl, ?_⟩) ?_ ?_
            rotate_left
            · intro w'
              go_simp
              with_reducible rfl
            rotate_left
            · simp only [Act.put, List.setIfInBounds_toArray, List.set_cons_zero, List.set_cons_succ, i64_w, i32_w]
              rfl
            refine one_ (i := 13) (N := some 144) #[true, true, true, true, true, true, true, true, true, true, true, true, true, true, true, true, true, true, true, true, true, false, false, false, false, false, false, false, false, false, false, false] rfl rfl (by kernel_rfl) (by decide) (fun K hK => ?_)
            refine goes_ Try.func14 (by kernel_rfl) rfl #[.pointer (some ⟨g, 0, none⟩)] (by rfl) rfl rfl (by simp only [List.map_toArray, List.map_cons, List.map_nil]; rfl) ?_
            with_reducible refine ((HLP.out _ HSe.out)).mono ?_
            rintro e wf ⟨rfl, hb⟩
            refine ⟨_, rfl, ?_⟩
            have HSf := Aside0.mk hb
            clear hb
            obtain ⟨q5f, q6f⟩ := HQQ.out _ HSf.out
            refine hK.out _ _ ⟨q5f, q6f⟩ (fun hHeld => ?_)
            clear hK K
            refine norm_ (a' := ?_) ?_ ?_
            rotate_left
            · show Act.put _ (some 144) _ = _
              simp only [Act.put, List.setIfInBounds_toArray, List.set_cons_zero, List.set_cons_succ, i64_w, i32_w]
              rfl
            refine pure_ (i := 21) (N := some 152) (v := ?_) (a' := ?_) #[true, true, true, true, true, true, true, true, true, true, true, true, true, true, true, true, true, true, true, true, true, true, false, false, false, false, false, false, false, false, false, false] rfl rfl (by kernel_rfl) (fun _ _ _ h => h) (Or.inl ⟨by rfl, ?_⟩) ?_ ?_
            rotate_left
            · intro w'
              go_simp
              with_reducible rfl
            rotate_left
            · simp only [Act.put, List.setIfInBounds_toArray, List.set_cons_zero, List.set_cons_succ, i64_w, i32_w]
              rfl
            refine pure_ (i := 22) (N := some 153) (v := ?_) (a' := ?_) #[true, true, true, true, true, true, true, true, true, true, true, true, true, true, true, true, true, true, true, true, true, true, true, false, false, false, false, false, false, false, false, false] rfl rfl (by kernel_rfl) (fun _ _ _ h => h) (Or.inl ⟨by rfl, ?_⟩) ?_ ?_
            rotate_left
            · intro w'
              go_simp
              with_reducible rfl
            rotate_left
            · simp only [Act.put, List.setIfInBounds_toArray, List.set_cons_zero, List.set_cons_succ, i64_w, i32_w]
              rfl
            refine pure_ (i := 23) (N := some 154) (v := ?_) (a' := ?_) #[true, true, true, true, true, true, true, true, true, true, true, true, true, true, true, true, true, true, true, true, true, true, true, true, false, false, false, false, false, false, false, false] rfl rfl (by kernel_rfl) (fun _ _ _ h => h) (Or.inl ⟨by rfl, ?_⟩) ?_ ?_
            rotate_left
            · intro w'
              go_simp
              with_reducible rfl
            rotate_left
            · simp only [Act.put, List.setIfInBounds_toArray, List.set_cons_zero, List.set_cons_succ, i64_w, i32_w]
              rfl
            refine pure_ (i := 24) (N := some 155) (v := ?_) (a' := ?_) #[true, true, true, true, true, true, true, true, true, true, true, true, true, true, true, true, true, true, true, true, true, true, true, true, true, false, false, false, false, false, false, false] rfl rfl (by kernel_rfl) (fun _ _ _ h => h) (Or.inl ⟨by rfl, ?_⟩) ?_ ?_
            rotate_left
            · intro w'
              go_simp
              with_reducible rfl
            rotate_left
            · simp only [Act.put, List.setIfInBounds_toArray, List.set_cons_zero, List.set_cons_succ, i64_w, i32_w]
              rfl
            refine pure_ (i := 26) (N := some 157) (v := ?_) (a' := ?_) #[true, true, true, true, true, true, true, true, true, true, true, true, true, true, true, true, true, true, true, true, true, true, true, true, true, false, true, false, false, false, false, false] rfl rfl (by kernel_rfl) (fun _ _ _ h => h) (Or.inl ⟨by rfl, ?_⟩) ?_ ?_
            rotate_left
            · intro w'
              go_simp
              with_reducible rfl
            rotate_left
            · simp only [Act.put, List.setIfInBounds_toArray, List.set_cons_zero, List.set_cons_succ, i64_w, i32_w]
              rfl
            refine pure_ (i := 27) (N := some 158) (v := ?_) (a' := ?_) #[true, true, true, true, true, true, true, true, true, true, true, true, true, true, true, true, true, true, true, true, true, true, true, true, true, false, true, true, false, false, false, false] rfl rfl (by kernel_rfl) (fun _ _ _ h => h) (Or.inl ⟨by rfl, ?_⟩) ?_ ?_
            rotate_left
            · intro w'
              go_simp
              with_reducible rfl
            rotate_left
            · simp only [Act.put, List.setIfInBounds_toArray, List.set_cons_zero, List.set_cons_succ, i64_w, i32_w]
              rfl
            refine pure_ (i := 28) (N := some 159) (v := ?_) (a' := ?_) #[true, true, true, true, true, true, true, true, true, true, true, true, true, true, true, true, true, true, true, true, true, true, true, true, true, false, true, true, true, false, false, false] rfl rfl (by kernel_rfl) (fun _ _ _ h => h) (Or.inl ⟨by rfl, ?_⟩) ?_ ?_
            rotate_left
            · intro w'
              go_simp
              with_reducible rfl
            rotate_left
            · simp only [Act.put, List.setIfInBounds_toArray, List.set_cons_zero, List.set_cons_succ, i64_w, i32_w]
              rfl
            refine take_ (i := 29) (N := some 160) (v := ?_) (a' := ?_) #[true, true, true, true, true, true, true, true, true, true, true, true, true, true, true, true, true, true, true, true, true, true, true, true, true, false, true, true, true, true, false, false] rfl rfl (by kernel_rfl) (fun _ _ _ h => h) (Or.inl ⟨by rfl, ?_⟩) hHeld ?_ ?_
            rotate_left
            · rintro w' ⟨s0, s1⟩
              go_simp
              with_reducible rfl
            rotate_left
            · simp only [Act.put, List.setIfInBounds_toArray, List.set_cons_zero, List.set_cons_succ, i64_w, i32_w]
              rfl
            refine one_ (i := 25) (N := some 156) #[true, true, true, true, true, true, true, true, true, true, true, true, true, true, true, true, true, true, true, true, true, true, true, true, true, true, true, true, true, true, false, false] rfl rfl (by kernel_rfl) (by decide) (fun K hK => ?_)
            refine goes_ Try.func19 (by kernel_rfl) rfl #[.pointer (some ⟨g, 0, none⟩)] (by rfl) rfl rfl (by simp only [List.map_toArray, List.map_cons, List.map_nil]; rfl) ?_
            with_reducible refine ((HPP.out _ HSf.out)).mono ?_
            rintro e wg ⟨rfl, hb⟩
            refine ⟨_, rfl, ?_⟩
            have HSg := Aside0.mk hb
            clear hb
            obtain ⟨q5g, q6g⟩ := HQQ.out _ HSg.out
            refine hK.out _ _ ⟨q5g, q6g⟩ (fun hHeld => ?_)
            clear hK K
            refine norm_ (a' := ?_) ?_ ?_
            rotate_left
            · show Act.put _ (some 156) _ = _
              simp only [Act.put, List.setIfInBounds_toArray, List.set_cons_zero, List.set_cons_succ, i64_w, i32_w]
              rfl
            refine pure_ (i := 30) (N := some 161) (v := ?_) (a' := ?_) #[true, true, true, true, true, true, true, true, true, true, true, true, true, true, true, true, true, true, true, true, true, true, true, true, true, true, true, true, true, true, true, false] rfl rfl (by kernel_rfl) (fun _ _ _ h => h) (Or.inl ⟨by rfl, ?_⟩) ?_ ?_
            rotate_left
            · intro w'
              go_simp
              with_reducible rfl
            rotate_left
            · simp only [Act.put, List.setIfInBounds_toArray, List.set_cons_zero, List.set_cons_succ, i64_w, i32_w]
              rfl
            refine pure_ (i := 31) (N := some 162) (v := ?_) (a' := ?_) #[true, true, true, true, true, true, true, true, true, true, true, true, true, true, true, true, true, true, true, true, true, true, true, true, true, true, true, true, true, true, true, true] rfl rfl (by kernel_rfl) (fun _ _ _ h => h) (Or.inl ⟨by rfl, ?_⟩) ?_ ?_
            rotate_left
            · intro w'
              go_simp
              with_reducible rfl
            rotate_left
            · simp only [Act.put, List.setIfInBounds_toArray, List.set_cons_zero, List.set_cons_succ, i64_w, i32_w]
              rfl
            refine done_ (by kernel_rfl) ?_
            clear q5 q6 q5a q6a q5b q6b q5e q6e q5f q6f q5g q6g l1 l2' l3 ne1 ne2 ne3
            go_wp2_with fail
            go_roundg g0
            case measure => omega
            case rel => exact ⟨i + 1, ps2, by first | go_num | (congr 1; unfold wrap64; omega), ⟨by have := HGK.out; omega⟩, HSg⟩
      · have him : (m : Int) ≤ i := by omega
        clear hgi hi
        go_wp2
        go_ret
        exact ⟨rfl, HS.out.below⟩
set_option maxHeartbeats 3200000 in
set_option maxRecDepth 100000 in
theorem runs_big (A B : Option Addr) (c cb n m : Nat) (a b d : Int) (w : World) (hn : n ≤ maxLen) (hm : m ≤ maxLen) (hbig : 60 < n ∨ (n ≤ 60 ∧ 60 < m)) :
    Calls Try.prog 7 #[.slice A n c, .agg #[.int .i64 a, .int .i64 b, .int .i64 d], .slice B m cb] w fun e w' => e = .returned (.bool true) ∧ Below w.heap.size w w' := by
  have hbi : (60 : Int) < n ∨ ((n : Int) ≤ 60 ∧ (60 : Int) < m) := by omega
  have h2 : (n : Int) ≤ 9223372036854775807 := by unfold maxLen at hn; omega
  have h3 : (m : Int) ≤ 9223372036854775807 := by unfold maxLen at hm; omega
  clear hbig hn hm
  go_enter Try.func7, Try.ntmps7
  go_wp2_with fail
  have hb0 := below_alloc (Below.refl w.heap.size w) (.cells #[.int .i64 a, .int .i64 b, .int .i64 d] 23)
  refine (fit_c _).mono ?_
  rintro e w1 ⟨rfl, hb⟩
  have HB := Aside0.mk (below_then hb0 (Nat.le_trans (Nat.le_refl _) hb0.size) hb)
  clear hb hb0
  rcases hbi with h | ⟨h, h4⟩
  · go_wp2
    go_ret
    exact ⟨rfl, HB.out⟩
  · go_wp2
    go_ret
    exact ⟨rfl, HB.out⟩
theorem row {w : World} (A : Option Addr) (c : Nat) (l : List S54) (hC : Kd.C k54 w A l.length l) (_ : l.length ≤ c) (_ : ∀ x ∈ l, EvOpen.evwf x) (a b d : Int) (_ : (Lit.int .i64 a).wf = true) (_ : (Lit.int .i64 b).wf = true) (_ : (Lit.int .i64 d).wf = true) (B : Option Addr) (cb : Nat) (ts : List SD) (hT : Kd.C kD w B ts.length ts) (_ : ts.length ≤ cb) (_ : ∀ x ∈ ts, deedwf x) :
    Calls Try.prog 7 #[.slice A l.length c, .agg #[.int .i64 a, .int .i64 b, .int .i64 d], .slice B ts.length cb] w fun e w' => e = .returned (.bool true) ∧ Below w.heap.size w w' := by
  by_cases h1 : 60 < l.length
  · exact runs_big A B c cb _ _ a b d w (by have := hC.2.1; unfold maxLen; omega) (by have := hT.2.1; unfold maxLen; omega) (.inl h1)
  · by_cases h2 : 60 < ts.length
    · exact runs_big A B c cb _ _ a b d w (by have := hC.2.1; unfold maxLen; omega) (by have := hT.2.1; unfold maxLen; omega) (.inr ⟨by omega, h2⟩)
    · cases hno : okNew a b d (tame 0 l) with
      | false => exact runs_bad A B c cb l ts a b d w hC hT (by omega) (by omega) hno
      | true =>
        unfold okNew at hno
        simp only [Bool.and_eq_true, decide_eq_true_eq] at hno
        obtain ⟨⟨k1, k2⟩, k3, k4⟩ := hno
        have k5 := of_decide_eq_true k3
        obtain ⟨a', rfl⟩ : ∃ n : Nat, a = n := ⟨a.toNat, by omega⟩
        obtain ⟨b', rfl⟩ : ∃ n : Nat, b = n := ⟨b.toNat, by omega⟩
        obtain ⟨d', rfl⟩ : ∃ n : Nat, d = n := ⟨d.toNat, by omega⟩
        exact runs_small A B c cb l ts a' b' d' w hC hT (by omega) (by omega) (by omega) k3
end Go.Proofs.Ytmongghhagbokaa.PlRuns
