/- The law LayoutBoxes is true: the boxes and lines are the document's places, in their order. -/
import Derived.Test.YtnidcnmeonjjbaaLayRuns
import Derived.Test.YtnidcnmeonjjbaaLayTiles
import Derived.Test.YtnidcnmeonjjbaaLayPlC
namespace Go.Proofs.Ytnidcnmeonjjbaa.LayBx
open Go.RowKit Go.Proofs.Ytnidcnmeonjjbaa.Kit Go.Proofs.Ytnidcnmeonjjbaa.Plain Go.Proofs.Ytnidcnmeonjjbaa.Mine Go.Proofs.Ytnidcnmeonjjbaa.LayPure Go.Proofs.Ytnidcnmeonjjbaa.LayNode Go.Proofs.Ytnidcnmeonjjbaa.LayPanes Go.Proofs.Ytnidcnmeonjjbaa.LayMake Go.Proofs.Ytnidcnmeonjjbaa.LayDeed Go.Proofs.Ytnidcnmeonjjbaa.LayDeedK Go.Proofs.Ytnidcnmeonjjbaa.LaySmall Go.Proofs.Ytnidcnmeonjjbaa.LayPlace Go.Proofs.Ytnidcnmeonjjbaa.LayBoxes Go.Proofs.Ytnidcnmeonjjbaa.LayTilePure Go.Proofs.Ytnidcnmeonjjbaa.LayMade Go.Proofs.Ytnidcnmeonjjbaa.LayTiles Go.Proofs.Ytnidcnmeonjjbaa.LayRefPure Go.Proofs.Ytnidcnmeonjjbaa.LayRefA Go.Proofs.Ytnidcnmeonjjbaa.LayRefB Go.Proofs.Ytnidcnmeonjjbaa.LayRefC Go.Proofs.Ytnidcnmeonjjbaa.LayRefD Go.Proofs.Ytnidcnmeonjjbaa.LayRuns Go.Proofs.Ytnidcnmeonjjbaa.LayPl Go.Proofs.Ytnidcnmeonjjbaa.LayPlC Go.Proofs.YtnidcnmeonjjbaaW.PrintWords Go.Proofs.YtnidcnmeonjjbaaW.PrintLast Go.Proofs.YtnidcnmeonjjbaaW.PrintMore
set_option linter.unusedVariables false
set_option linter.unusedSimpArgs false
/-! How many lines, and how many panes, stand among the first places. -/
def nl (l : List PV) (i : Nat) : Nat := ((l.take i).filter (fun x => x.l)).length
def nb (l : List PV) (i : Nat) : Nat := ((l.take i).filter (fun x => !x.l)).length
theorem filt_at {α : Type} (q : α → Bool) (l : List α) (i : Nat) (h : i < l.length) (hq : q l[i] = true) : (l.filter q)[((l.take i).filter q).length]? = some l[i] := by
  have e : l = l.take i ++ l[i] :: l.drop (i + 1) := by
    rw [List.getElem_cons_drop]; exact (List.take_append_drop i l).symm
  obtain ⟨a, ha⟩ : ∃ a, a = l.take i := ⟨_, rfl⟩
  obtain ⟨x, hx⟩ : ∃ x, x = l[i] := ⟨_, rfl⟩
  obtain ⟨b, hb⟩ : ∃ b, b = l.drop (i + 1) := ⟨_, rfl⟩
  rw [← hx] at hq ⊢
  rw [← ha]
  rw [← ha, ← hx, ← hb] at e
  rw [e, List.filter_append, List.filter_cons, if_pos hq, List.getElem?_append_right (Nat.le_refl _), Nat.sub_self]
  rfl
theorem filt_yes {α : Type} (q : α → Bool) (l : List α) (i : Nat) (h : i < l.length) (hq : q l[i] = true) : ((l.take (i + 1)).filter q).length = ((l.take i).filter q).length + 1 := by
  rw [List.take_succ_eq_append_getElem h, List.filter_append, List.filter_cons, if_pos hq, List.length_append]
  rfl
theorem filt_no {α : Type} (q : α → Bool) (l : List α) (i : Nat) (h : i < l.length) (hq : q l[i] = false) : ((l.take (i + 1)).filter q).length = ((l.take i).filter q).length := by
  rw [List.take_succ_eq_append_getElem h, List.filter_append, List.filter_cons, if_neg (by rw [hq]; decide), List.length_append]
  rfl
theorem at_line (t : T) (b : BX) (i : Nat) (h : i < (placesT t b).length) (hl : (placesT t b)[i].l = true) : (linesT t b)[nl (placesT t b) i]? = some (placesT t b)[i].b := by
  rw [← places_lines t b, List.getElem?_map]
  unfold nl
  rw [filt_at (fun x : PV => x.l) _ i h hl]
  rfl
theorem in_boxes (t : T) (b : BX) (i : Nat) (h : i < (placesT t b).length) (hl : (placesT t b)[i].l = false) : ((placesT t b)[i].p, (placesT t b)[i].b) ∈ boxesT t b := by
  rw [← places_boxes t b]
  exact List.mem_map.2 ⟨_, List.mem_filter.2 ⟨List.getElem_mem h, by rw [hl]; rfl⟩, rfl⟩
theorem nl_line {l : List PV} {i : Nat} (h : i < l.length) (hl : l[i].l = true) : nl l (i + 1) = nl l i + 1 ∧ nb l (i + 1) = nb l i :=
  ⟨filt_yes (fun x : PV => x.l) l i h hl, filt_no (fun x : PV => !x.l) l i h (by show (!l[i].l) = false; rw [hl]; rfl)⟩
theorem nl_box {l : List PV} {i : Nat} (h : i < l.length) (hl : l[i].l = false) : nl l (i + 1) = nl l i ∧ nb l (i + 1) = nb l i + 1 :=
  ⟨filt_no (fun x : PV => x.l) l i h hl, filt_yes (fun x : PV => !x.l) l i h (by show (!l[i].l) = true; rw [hl]; rfl)⟩
theorem nl_all (t : T) (b : BX) (i : Nat) (h : (placesT t b).length ≤ i) : nl (placesT t b) i = (linesT t b).length ∧ nb (placesT t b) i = (boxesT t b).length := by
  unfold nl nb
  rw [List.take_of_length_le h, ← places_lines t b, ← places_boxes t b, List.length_map, List.length_map]
  exact ⟨rfl, rfl⟩
theorem nl_le (l : List PV) (i : Nat) : nl l i ≤ i ∧ nb l i ≤ i := by
  unfold nl nb
  have h1 := List.length_filter_le (fun x : PV => x.l) (l.take i)
  have h2 := List.length_filter_le (fun x : PV => !x.l) (l.take i)
  have h3 := List.length_take_le i l
  omega
section
set_option maxHeartbeats 6400000
set_option maxRecDepth 100000
theorem boxes_big (A : Option Addr) (c n : Nat) (u v : Int) (w : World) (h100 : 100 < n) (hm : n ≤ maxLen) :
    Calls Try.prog 4 #[.slice A n c, .int .i64 u, .int .i64 v] w fun e w' => e = .returned (.bool true) ∧ Below w.heap.size w w' := by
  have hd : (100 : Int) < n := by omega
  have h2 : (n : Int) ≤ 9223372036854775807 := by unfold maxLen at hm; omega
  clear h100 hm
  go_enter Try.func4, Try.ntmps4
  go_wp2_with fail
  refine (fit_c _).mono ?_
  rintro e w1 ⟨rfl, hb⟩
  have HB := Aside0.mk hb
  clear hb
  go_wp2_with fail
  go_returns
  exact ⟨rfl, HB.out⟩
theorem law_c (A : Option Addr) (c : Nat) (ds : List SD) (u v : Int) (w : World) (hr : Kd.C kD w A ds.length ds) (hn : ds.length ≤ 100) (hwf : ∀ d ∈ ds, deedwf d) :
    Calls Try.prog 4 #[.slice A ds.length c, .int .i64 u, .int .i64 v] w fun e w' => e = .returned (.bool true) ∧ Below w.heap.size w w' := by
  have hd : (ds.length : Int) ≤ 100 := by omega
  have hub := Try.underlying50
  have hup := Try.underlying52
  have hud := Try.underlying29
  have hul := Try.underlying40
  have HR := Aside0.mk hr
  have HN := Aside0.mk hn
  obtain ⟨T, hT⟩ : ∃ T, T = afterT (.leaf 0) ds := ⟨_, rfl⟩
  have HT := Aside0.mk hT
  have HG := Aside0.mk (show LayPure.Good T from by rw [hT]; exact good_after (good_leaf 0) ds)
  have HW := Aside0.mk (show ∀ x ∈ T.leaves, (Lit.int .i64 x).wf = true from by rw [hT]; exact wf_after (good_leaf 0) ds wf_zero hwf)
  clear hr hn hwf hT
  go_enter Try.func4, Try.ntmps4
  go_wp2_with fail
  refine (fit_c w).mono ?_
  rintro e w3 ⟨rfl, hb⟩
  have HB3 := Aside0.mk hb
  clear hb
  go_wp2_with fail
  refine (made_c A c ds w3 (Kd.C_below HR.out HB3.out) HN.out).mono ?_
  rintro e w4 ⟨h, t, rfl, hL, ht, hb⟩
  rw [← HT.out] at ht
  have HL4 := Aside0.mk (LAY.lower hL HB3.out.size)
  have HT4 := Aside0.mk ht
  have HB4 := Aside0.mk (below_then HB3.out HB3.out.size hb)
  clear hb hL ht
  go_wp2_with fail
  refine (rnew_c 0 w4).mono ?_
  rintro e w5 ⟨m, g0, cap0, rfl, hF, hb⟩
  have HF5 := Aside0.mk (show REF w.heap.size w5 m g0 cap0 [leafN 0] (.leaf 0 0) from ⟨hF.blk, Kd.R_lower hF.row HB4.out.size, hF.ri, hF.good, Nat.le_trans HB4.out.size hF.hm⟩)
  have HS5 := Aside0.mk (show LAY w.heap.size w5 h t ∧ ∃ g cap ps t2, REF w.heap.size w5 m g cap ps t2 ∧ t2.plain = afterT (.leaf 0) (ds.take 0) ∧ ps.length ≤ 1 + 2 * 0 from ⟨HL4.out.on hb, g0, cap0, [leafN 0], .leaf 0 0, HF5.out, rfl, by simp⟩)
  have HB5 := Aside0.mk (below_then HB4.out HB4.out.size hb)
  clear hb hF HL4 HF5
  go_wp2_with fail
  go_loopg [29] ds.length (fun g v29 W => ∃ (i : Nat), v29 = .int .i64 (i : Int) ∧ Aside0 (g + i = ds.length) ∧ Aside0 (Below w.heap.size w W) ∧ Aside0 (LAY w.heap.size W h t ∧ ∃ g cap ps t2, REF w.heap.size W m g cap ps t2 ∧ t2.plain = afterT (.leaf 0) (ds.take i) ∧ ps.length ≤ 1 + 2 * i))
  case atStart => exact ⟨0, rfl, ⟨by omega⟩, HB5, HS5⟩
  case round =>
    clear HS5 HB5
    obtain ⟨i, rfl, HGi, HB, HS⟩ := hrel
    have hgi := HGi.out
    by_cases hi : i < ds.length
    · obtain ⟨gn, rfl⟩ : ∃ gn, gk = gn + 1 := ⟨gk - 1, by omega⟩
      have hil : (i : Int) < ds.length := by omega
      have HI := Aside0.mk (show i < 100 by omega)
      obtain ⟨ad, ead, c0, c1, c2, c3⟩ := at_D (Kd.C_below HR.out HB.out) i hi
      have HAT := Aside0.mk (afterT_take (.leaf 0) ds i hi)
      obtain ⟨dp, hdp⟩ : ∃ z, z = ds[i].p := ⟨_, rfl⟩
      obtain ⟨dq, hdq⟩ : ∃ z, z = ds[i].q := ⟨_, rfl⟩
      obtain ⟨df, hdf⟩ : ∃ z, z = ds[i].f := ⟨_, rfl⟩
      obtain ⟨da, hda⟩ : ∃ z, z = ds[i].a := ⟨_, rfl⟩
      rw [← hdp] at c0 HAT
      rw [← hdq] at c1 HAT
      rw [← hdf] at c2 HAT
      rw [← hda] at c3 HAT
      subst ead
      clear hgi hi hdp hdq hdf hda
      obtain ⟨hL, g, cap, ps, t2, hF, hpl, hlen⟩ := HS.out
      have HLt := Aside0.mk hL
      have HFt := Aside0.mk hF
      rw [← hpl] at HAT
      have HLEN := Aside0.mk hlen
      clear hL hF hpl hlen HS
      go_upto_region 9 with fail
      go_cut [10] (fun v10 W => ∃ gx : Nat, v10 = .pointer (some ⟨gx, 0, none⟩) ∧ Aside0 (W.heap[gx]? = some (.cells #[.int .i64 dp, .int .i64 dq, .bool df, .bool da] 29 (0, 0))) ∧ Aside0 (Below wr.heap.size wr W))
      case first =>
        go_wp2
        go_meet
        case rel => exact ⟨_, rfl, ⟨blk_new _ _⟩, ⟨below_alloc (Below.refl _ _) _⟩⟩
      case rest =>
        obtain ⟨gx, rfl, HGX, HBX⟩ := hcut
        clear c0 c1 c2 c3
        have HLc := Aside0.mk (HLt.out.on HBX.out)
        have HFc := Aside0.mk (HFt.out.on HBX.out)
        have HBc := Aside0.mk (below_kept HB.out HBX.out)
        have k0 := (blk_cell HGX.out 0).trans (rfl : _ = some (Value.int .i64 dp))
        have k1 := (blk_cell HGX.out 1).trans (rfl : _ = some (Value.int .i64 dq))
        have k2 := (blk_cell HGX.out 2).trans (rfl : _ = some (Value.bool df))
        have k3 := (blk_cell HGX.out 3).trans (rfl : _ = some (Value.bool da))
        have hps : ps.length < 1000 := by have := HLEN.out; have := HI.out; omega
        cases da with
        | true =>
          have HQ := Aside0.mk (rremove_c w.heap.size m g cap ps t2 dp dq df wc HFc.out hps)
          clear hps
          go_wp2_with fail
          refine HQ.out.mono ?_
          rintro e w6 ⟨g', cap', ps', t2', rfl, r1, r2, r3, r4⟩
          have HS6 := Aside0.mk (show LAY w.heap.size w6 h t ∧ ∃ g cap ps t2, REF w.heap.size w6 m g cap ps t2 ∧ t2.plain = afterT (.leaf 0) (ds.take (i + 1)) ∧ ps.length ≤ 1 + 2 * (i + 1) from ⟨LAY.turn HLc.out r4, g', cap', ps', t2', r1, r2.trans HAT.out.symm, by have := HLEN.out; omega⟩)
          have HB6 := Aside0.mk (HBc.out.trans r4.below)
          clear r1 r2 r3 r4 HQ k0 k1 k2 k3 HLc HFc HLt HFt HAT HBX HGX
          go_wp2_with fail
          go_roundg gn
          case measure => omega
          case rel => exact ⟨i + 1, by first | go_num | (congr 1; unfold wrap64; omega), ⟨by have := HGi.out; omega⟩, HB6, HS6⟩
        | false =>
          have HQ := Aside0.mk (rsplit_c w.heap.size m g cap ps t2 dp dq df wc HFc.out hps)
          clear hps
          go_wp2_with fail
          refine HQ.out.mono ?_
          rintro e w6 ⟨g', cap', ps', t2', rfl, r1, r2, r3, r4⟩
          have HS6 := Aside0.mk (show LAY w.heap.size w6 h t ∧ ∃ g cap ps t2, REF w.heap.size w6 m g cap ps t2 ∧ t2.plain = afterT (.leaf 0) (ds.take (i + 1)) ∧ ps.length ≤ 1 + 2 * (i + 1) from ⟨LAY.turn HLc.out r4, g', cap', ps', t2', r1, r2.trans HAT.out.symm, by have := HLEN.out; omega⟩)
          have HB6 := Aside0.mk (HBc.out.trans r4.below)
          clear r1 r2 r3 r4 HQ k0 k1 k2 k3 HLc HFc HLt HFt HAT HBX HGX
          go_wp2_with fail
          go_roundg gn
          case measure => omega
          case rel => exact ⟨i + 1, by first | go_num | (congr 1; unfold wrap64; omega), ⟨by have := HGi.out; omega⟩, HB6, HS6⟩
    · have hil : (ds.length : Int) ≤ i := by omega
      obtain ⟨hL, g, cap, ps, t2, hF, hpl, hlen⟩ := HS.out
      rw [List.take_of_length_le (by omega), ← HT.out] at hpl
      have HPS := Aside0.mk (show ps.length < 1000 by have := HGi.out; omega)
      have HL6 := Aside0.mk hL
      have HF6 := Aside0.mk hF
      have HP6 := Aside0.mk hpl
      clear hgi hi hL hF hpl hlen HS
      go_wp2_with fail
      refine (boxes_c h t u v wr HL6.out.lb HL6.out.lies (by rw [HT4.out]; exact HW.out) HL6.out.good).mono ?_
      rw [HT4.out]
      rintro e w7 ⟨M, A5, c5, rfl, hm, hrow, hM, hb⟩
      have HM7 := Aside0.mk hm
      have HC7 := Aside0.mk (Kd.R_reads' hrow).2.2
      have HF7 := Aside0.mk (HF6.out.on hb)
      have HB7 := Aside0.mk (below_then HB.out HB.out.size hb)
      obtain ⟨bx, hbx⟩ : ∃ bx, bx = boxesT T (whole u v) := ⟨_, rfl⟩
      obtain ⟨ls, hls⟩ : ∃ ls, ls = linesT T (whole u v) := ⟨_, rfl⟩
      rw [← hbx] at HM7
      rw [← hls] at HC7 ⊢
      have HBX := Aside0.mk hbx
      have HLS := Aside0.mk hls
      have HLL := Aside0.mk (show ls.length + 1 = T.leaves.length from by rw [hls]; exact lines_len _ _)
      have HBL := Aside0.mk (show bx.length = T.leaves.length from by rw [hbx]; exact boxes_len _ _)
      have HLE := Aside0.mk (show T.leaves.length ≤ 6 from HG.out.2)
      clear hb hm hrow hM hbx hls hil
      obtain ⟨a1, ha1⟩ : ∃ a1 : Int, a1 = if u < 0 then 0 else u := ⟨_, rfl⟩
      obtain ⟨a2, ha2⟩ : ∃ a2 : Int, a2 = if v < 0 then 0 else v := ⟨_, rfl⟩
      have q1 := side_int u
      have q2 := side_int v
      rw [← ha1] at q1
      rw [← ha2] at q2
      obtain ⟨X, hX⟩ : ∃ X, X = side u := ⟨_, rfl⟩
      obtain ⟨Y, hY⟩ : ∃ Y, Y = side v := ⟨_, rfl⟩
      rw [← hX] at q1
      rw [← hY] at q2
      have hXX : (X : Int) ≤ 60 := by rw [hX]; have := side_le u; omega
      have hYY : (Y : Int) ≤ 60 := by rw [hY]; have := side_le v; omega
      have p1 := ha1.symm
      have p2 := ha2.symm
      have HWH := Aside0.mk (show whole u v = ⟨0, 0, X, Y⟩ from by rw [hX, hY]; rfl)
      have HPLC := Aside0.mk (fun W (hf : RF W m (some ⟨g, 0, none⟩) cap ps) => (show Calls Try.prog 19 #[.pointer (some ⟨m, 0, none⟩), .int .i64 0, .agg #[.int .i64 0, .int .i64 0, .int .i64 X, .int .i64 Y]] W _ from by
        have hc := rplaces_c m (some ⟨g, 0, none⟩) cap ps t2 HF7.out.ri.rep (by have := HF7.out.good.2; omega) (whole u v) W (fits_whole u v) hf
        rw [HF7.out.ri.root, HP6.out, HWH.out] at hc
        exact hc))
      have m1 := (blk_cell HF7.out.blk 1).trans (rfl : _ = some (Value.int .i64 0))
      clear ha1 ha2 hX hY
      go_wp2_with fail
      refine (HPLC.out w7 (HF7.out.rf (by have := HPS.out; omega))).mono ?_
      rintro e w8 ⟨vp, rfl, hv, hb⟩
      obtain ⟨A8, c8, rfl⟩ := Kd.R_slice hv
      obtain ⟨pl, hpl⟩ : ∃ pl, pl = placesT T ⟨0, 0, X, Y⟩ := ⟨_, rfl⟩
      have HC8 := Aside0.mk (Kd.R_reads' hv).2.2
      rw [← hpl] at HC8 ⊢
      have HPE := Aside0.mk (show pl = placesT T (whole u v) from by rw [hpl, HWH.out])
      have HPLL := Aside0.mk (show pl.length + 1 = 2 * T.leaves.length from by rw [hpl]; exact places_len _ _)
      have HM8 := Aside0.mk (HM7.out.below hb)
      have HC78 := Aside0.mk (Kd.C_below HC7.out hb)
      have HB8 := Aside0.mk (below_then HB7.out HB7.out.size hb)
      have hpn : (pl.length : Int) ≤ 11 := by have := HPLL.out; have := HLE.out; omega
      clear hpl hv hb q1 q2 p1 p2 m1 HPLC HC7 HM7
      go_wp2_with fail
      go_loopg [13, 14, 69] pl.length (fun g v13 v14 v69 W => ∃ (i : Nat), v69 = .int .i64 (i : Int) ∧ v13 = .int .i64 (nl pl i : Int) ∧ v14 = .int .i64 (nb pl i : Int) ∧ Aside0 (g + i = pl.length) ∧ Aside0 (Below w8.heap.size w8 W))
      case atStart => exact ⟨0, rfl, rfl, rfl, ⟨by omega⟩, ⟨Below.refl _ _⟩⟩
      case round =>
        obtain ⟨i, rfl, rfl, rfl, HGi, HBi⟩ := hrel
        have hgi := HGi.out
        by_cases hi : i < pl.length
        · obtain ⟨gn, rfl⟩ : ∃ gn, gk = gn + 1 := ⟨gk - 1, by omega⟩
          have hil : (i : Int) < pl.length := by omega
          obtain ⟨ad, ead, k0, k1, k2, k3, k4, k5⟩ := at_P (Kd.C_below HC8.out HBi.out) i hi
          obtain ⟨x, hx⟩ : ∃ x, x = pl[i] := ⟨_, rfl⟩
          have hat : x.l = true → ls[nl pl i]? = some x.b ∧ nl pl (i + 1) = nl pl i + 1 ∧ nb pl (i + 1) = nb pl i := by
            intro hl
            have h1 := at_line T (whole u v) i (by rw [← HPE.out]; exact hi) (by simp only [← HPE.out, ← hx]; exact hl)
            simp only [← HPE.out, ← hx] at h1
            exact ⟨by rw [HLS.out]; exact h1, nl_line hi (by rw [← hx]; exact hl)⟩
          have hin : x.l = false → (x.p, x.b) ∈ bx ∧ nl pl (i + 1) = nl pl i ∧ nb pl (i + 1) = nb pl i + 1 := by
            intro hl
            have h1 := in_boxes T (whole u v) i (by rw [← HPE.out]; exact hi) (by simp only [← HPE.out, ← hx]; exact hl)
            simp only [← HPE.out, ← hx] at h1
            exact ⟨by rw [HBX.out]; exact h1, nl_box hi (by rw [← hx]; exact hl)⟩
          rw [← hx] at k0 k1 k2 k3 k4 k5
          have HNL := Aside0.mk (nl_le pl i)
          have HIP := Aside0.mk hi
          obtain ⟨k, hk⟩ : ∃ k, k = nl pl i := ⟨_, rfl⟩
          obtain ⟨n, hn⟩ : ∃ n, n = nb pl i := ⟨_, rfl⟩
          rw [← hk, ← hn] at hat hin HNL
          rw [← hk, ← hn]
          have hk11 : (k : Int) ≤ 11 := by have := HNL.out; omega
          have hn11 : (n : Int) ≤ 11 := by have := HNL.out; omega
          obtain ⟨xp, xl, x0, x1, x2, x3⟩ := x
          dsimp only at k0 k1 k2 k3 k4 k5 hat hin
          have HAT := Aside0.mk hat
          have HIN := Aside0.mk hin
          subst ead
          clear hgi hi hx hk hn hat hin
          go_upto_region 18 with fail
          go_cut [16] (fun v16 W => ∃ gx : Nat, v16 = .pointer (some ⟨gx, 0, none⟩) ∧ Aside0 (W.heap[gx]? = some (.cells #[.int .i64 xp, .bool xl, .int .i64 x0, .int .i64 x1, .int .i64 x2, .int .i64 x3] 52 (0, 0))) ∧ Aside0 (Below wr.heap.size wr W))
          case first =>
            go_wp2
            go_meet
            case rel => exact ⟨_, rfl, ⟨blk_new _ _⟩, ⟨below_alloc (Below.refl _ _) _⟩⟩
          case rest =>
            obtain ⟨gx, rfl, HGX, HBX2⟩ := hcut
            clear k0 k1 k2 k3 k4 k5
            have HBc := Aside0.mk (below_then HBi.out HBi.out.size HBX2.out)
            have l1 := (blk_cell HGX.out 1).trans (rfl : _ = some (Value.bool xl))
            cases xl with
            | true =>
              obtain ⟨h1, h2, h3⟩ := HAT.out rfl
              have hkl : k < ls.length := (List.getElem?_eq_some_iff.1 h1).1
              have hki : (k : Int) < ls.length := by omega
              have hk0 : decide (ls.length ≤ k) = false := decide_eq_false (by omega)
              obtain ⟨a5, ea5, b0, b1, b2, b3⟩ := at_B (Kd.C_below HC78.out (below_drew HBc.out)) k hkl
              rw [List.getD_eq_getElem?_getD, h1] at b0 b1 b2 b3
              dsimp only [Option.getD] at b0 b1 b2 b3
              subst ea5
              have g2 := (blk_cell (blk_drew HGX.out) 2).trans (rfl : _ = some (Value.int .i64 (x0 : Int)))
              have g3 := (blk_cell (blk_drew HGX.out) 3).trans (rfl : _ = some (Value.int .i64 (x1 : Int)))
              have g4 := (blk_cell (blk_drew HGX.out) 4).trans (rfl : _ = some (Value.int .i64 (x2 : Int)))
              have g5 := (blk_cell (blk_drew HGX.out) 5).trans (rfl : _ = some (Value.int .i64 (x3 : Int)))
              have n1 : ∀ W, (binOp .neq 50 (.agg #[.int .i64 x0, .int .i64 x1, .int .i64 x2, .int .i64 x3]) (.agg #[.int .i64 x0, .int .i64 x1, .int .i64 x2, .int .i64 x3])).run Try.prog W = .ok (.bool false) W := fun W => neq_same ⟨x0, x1, x2, x3⟩ W
              have n2 : ∀ W o1 o2, (eqGuard .neq 50 o1 o2 (.agg #[.int .i64 x0, .int .i64 x1, .int .i64 x2, .int .i64 x3]) (.agg #[.int .i64 x0, .int .i64 x1, .int .i64 x2, .int .i64 x3])).run Try.prog W = .ok () W := fun W o1 o2 => guard_box ⟨x0, x1, x2, x3⟩ ⟨x0, x1, x2, x3⟩ o1 o2 W
              have HH := Aside0.mk (And.intro h2 h3)
              clear h1 h2 h3 hkl
              go_upto_region 20 with fail
              refine start_ (n := 13) (S := fun w' => w'.cell? (a5.add (k * 4)) = some (.int .i64 (x0 : Int)) ∧ w'.cell? ⟨(a5.add (k * 4)).block, (a5.add (k * 4)).off + 1, none⟩ = some (.int .i64 (x1 : Int)) ∧ w'.cell? ⟨(a5.add (k * 4)).block, (a5.add (k * 4)).off + 2, none⟩ = some (.int .i64 (x2 : Int)) ∧ w'.cell? ⟨(a5.add (k * 4)).block, (a5.add (k * 4)).off + 3, none⟩ = some (.int .i64 (x3 : Int)) ∧ w'.cell? ⟨gx, 2, none⟩ = some (.int .i64 (x0 : Int)) ∧ w'.cell? ⟨gx, 3, none⟩ = some (.int .i64 (x1 : Int)) ∧ w'.cell? ⟨gx, 4, none⟩ = some (.int .i64 (x2 : Int)) ∧ w'.cell? ⟨gx, 5, none⟩ = some (.int .i64 (x3 : Int))) (ds := []) #[false, false, false, false, false, false, false, false, false, false, false, false, false] (by kernel_rfl) rfl rfl ⟨b0, b1, b2, b3, g2, g3, g4, g5⟩ (fun hHeld => ?_)
              refine pure_ (i := 0) (N := some 75) (v := ?_) (a' := ?_) #[true, false, false, false, false, false, false, false, false, false, false, false, false] rfl rfl (by kernel_rfl) (fun _ _ _ h => h) (Or.inl ⟨by rfl, ?_⟩) ?_ ?_
              rotate_left
              · intro w'
                go_simp
                with_reducible rfl
              rotate_left
              · simp only [Act.put, List.setIfInBounds_toArray, List.set_cons_zero, List.set_cons_succ, i64_w, i32_w]
                rfl
              refine pure_ (i := 1) (N := some 76) (v := ?_) (a' := ?_) #[true, true, false, false, false, false, false, false, false, false, false, false, false] rfl rfl (by kernel_rfl) (fun _ _ _ h => h) (Or.inl ⟨by rfl, ?_⟩) ?_ ?_
              rotate_left
              · intro w'
                go_simp
                with_reducible rfl
              rotate_left
              · simp only [Act.put, List.setIfInBounds_toArray, List.set_cons_zero, List.set_cons_succ, i64_w, i32_w]
                rfl
              refine pure_ (i := 2) (N := some 77) (v := ?_) (a' := ?_) #[true, true, true, false, false, false, false, false, false, false, false, false, false] rfl rfl (by kernel_rfl) (fun _ _ _ h => h) (Or.inl ⟨by rfl, ?_⟩) ?_ ?_
              rotate_left
              · intro w'
                go_simp
                with_reducible rfl
              rotate_left
              · simp only [Act.put, List.setIfInBounds_toArray, List.set_cons_zero, List.set_cons_succ, i64_w, i32_w]
                rfl
              refine pure_ (i := 3) (N := some 78) (v := ?_) (a' := ?_) #[true, true, true, true, false, false, false, false, false, false, false, false, false] rfl rfl (by kernel_rfl) (fun _ _ _ h => h) (Or.inl ⟨by rfl, ?_⟩) ?_ ?_
              rotate_left
              · intro w'
                go_simp
                with_reducible rfl
              rotate_left
              · simp only [Act.put, List.setIfInBounds_toArray, List.set_cons_zero, List.set_cons_succ, i64_w, i32_w]
                rfl
              refine pure_ (i := 4) (N := some 79) (v := ?_) (a' := ?_) #[true, true, true, true, true, false, false, false, false, false, false, false, false] rfl rfl (by kernel_rfl) (fun _ _ _ h => h) (Or.inl ⟨by rfl, ?_⟩) ?_ ?_
              rotate_left
              · intro w'
                go_simp
                with_reducible rfl
              rotate_left
              · simp only [Act.put, List.setIfInBounds_toArray, List.set_cons_zero, List.set_cons_succ, i64_w, i32_w]
                rfl
              refine pure_ (i := 5) (N := some 80) (v := ?_) (a' := ?_) #[true, true, true, true, true, true, false, false, false, false, false, false, false] rfl rfl (by kernel_rfl) (fun _ _ _ h => h) (Or.inl ⟨by rfl, ?_⟩) ?_ ?_
              rotate_left
              · intro w'
                go_simp
                with_reducible rfl
              rotate_left
              · simp only [Act.put, List.setIfInBounds_toArray, List.set_cons_zero, List.set_cons_succ, i64_w, i32_w]
                rfl
              refine pure_ (i := 6) (N := some 81) (v := ?_) (a' := ?_) #[true, true, true, true, true, true, true, false, false, false, false, false, false] rfl rfl (by kernel_rfl) (fun _ _ _ h => h) (Or.inl ⟨by rfl, ?_⟩) ?_ ?_
              rotate_left
              · intro w'
                go_simp
                with_reducible rfl
              rotate_left
              · simp only [Act.put, List.setIfInBounds_toArray, List.set_cons_zero, List.set_cons_succ, i64_w, i32_w]
                rfl
              refine pure_ (i := 7) (N := some 82) (v := ?_) (a' := ?_) #[true, true, true, true, true, true, true, true, false, false, false, false, false] rfl rfl (by kernel_rfl) (fun _ _ _ h => h) (Or.inl ⟨by rfl, ?_⟩) ?_ ?_
              rotate_left
              · intro w'
                go_simp
                with_reducible rfl
              rotate_left
              · simp only [Act.put, List.setIfInBounds_toArray, List.set_cons_zero, List.set_cons_succ, i64_w, i32_w]
                rfl
              refine pure_ (i := 9) (N := some 84) (v := ?_) (a' := ?_) #[true, true, true, true, true, true, true, true, false, true, false, false, false] rfl rfl (by kernel_rfl) (fun _ _ _ h => h) (Or.inl ⟨by rfl, ?_⟩) ?_ ?_
              rotate_left
              · intro w'
                go_simp
                with_reducible rfl
              rotate_left
              · simp only [Act.put, List.setIfInBounds_toArray, List.set_cons_zero, List.set_cons_succ, i64_w, i32_w]
                rfl
              refine take_ (i := 8) (N := some 83) (v := ?_) (a' := ?_) #[true, true, true, true, true, true, true, true, true, true, false, false, false] rfl rfl (by kernel_rfl) (fun _ _ _ h => h) (Or.inl ⟨by rfl, ?_⟩) hHeld ?_ ?_
              rotate_left
              · rintro w' ⟨s0, s1, s2, s3, s4, s5, s6, s7⟩
                go_simp
                with_reducible rfl
              rotate_left
              · simp only [Act.put, List.setIfInBounds_toArray, List.set_cons_zero, List.set_cons_succ, i64_w, i32_w]
                rfl
              refine take_ (i := 10) (N := some 85) (v := ?_) (a' := ?_) #[true, true, true, true, true, true, true, true, true, true, true, false, false] rfl rfl (by kernel_rfl) (fun _ _ _ h => h) (Or.inl ⟨by rfl, ?_⟩) hHeld ?_ ?_
              rotate_left
              · rintro w' ⟨s0, s1, s2, s3, s4, s5, s6, s7⟩
                go_simp
                with_reducible rfl
              rotate_left
              · simp only [Act.put, List.setIfInBounds_toArray, List.set_cons_zero, List.set_cons_succ, i64_w, i32_w]
                rfl
              refine pure_ (i := 11) (N := some 86) (v := ?_) (a' := ?_) #[true, true, true, true, true, true, true, true, true, true, true, true, false] rfl rfl (by kernel_rfl) (fun _ _ _ h => h) (Or.inl ⟨by rfl, ?_⟩) ?_ ?_
              rotate_left
              · intro w'
                go_simp
                with_reducible rfl
              rotate_left
              · simp only [Act.put, List.setIfInBounds_toArray, List.set_cons_zero, List.set_cons_succ, i64_w, i32_w]
                rfl
              refine pure_ (i := 12) (N := some 87) (v := ?_) (a' := ?_) #[true, true, true, true, true, true, true, true, true, true, true, true, true] rfl rfl (by kernel_rfl) (fun _ _ _ h => h) (Or.inl ⟨by rfl, ?_⟩) ?_ ?_
              rotate_left
              · intro w'
                go_simp
                with_reducible rfl
              rotate_left
              · simp only [Act.put, List.setIfInBounds_toArray, List.set_cons_zero, List.set_cons_succ, i64_w, i32_w]
                rfl
              refine done_ (by kernel_rfl) ?_
              clear b0 b1 b2 b3 g2 g3 g4 g5 n1 n2 hHeld
              go_wp2_with fail
              go_roundg gn
              case measure => omega
              case rel => exact ⟨i + 1, by first | go_num | (congr 1; unfold wrap64; omega), by rw [HH.out.1]; first | go_num | (congr 1; unfold wrap64; omega), by rw [HH.out.2], ⟨by have := HGi.out; omega⟩, ⟨below_drew HBc.out⟩⟩
            | false =>
              obtain ⟨h1, h2, h3⟩ := HIN.out rfl
              have HH := Aside0.mk (And.intro h2 h3)
              have lk := (HM8.out.below HBc.out).look_ok xp ⟨x0, x1, x2, x3⟩ h1 (HW.out xp (by
                have := List.mem_map_of_mem (f := Prod.fst) h1
                rw [HBX.out, keys_boxes] at this
                exact this))
              unfold BX.val at lk
              dsimp only at lk
              have g0 := (blk_cell HGX.out 0).trans (rfl : _ = some (Value.int .i64 xp))
              clear h1 h2 h3
              go_upto_region 23 with fail
              go_cut [17, 18] (fun v17 v18 W => ∃ gy : Nat, v17 = .pointer (some ⟨gy, 0, none⟩) ∧ v18 = .bool true ∧ Aside0 (W.heap[gy]? = some (.cells #[.int .i64 x0, .int .i64 x1, .int .i64 x2, .int .i64 x3] 50 (0, 0))) ∧ Aside0 (Below wc.heap.size wc W))
              case first =>
                go_wp2
                go_meet
                case rel => exact ⟨_, rfl, rfl, ⟨blk_new _ _⟩, ⟨below_alloc (Below.refl _ _) _⟩⟩
              case rest =>
                obtain ⟨gy, rfl, rfl, HGY, HBY⟩ := hcut
                clear lk g0 l1
                have HGXb := Aside0.mk (blk_below HGX.out HBY.out)
                have HBd := Aside0.mk (below_then HBc.out HBc.out.size HBY.out)
                have g2 := (blk_cell HGXb.out 2).trans (rfl : _ = some (Value.int .i64 (x0 : Int)))
                have g3 := (blk_cell HGXb.out 3).trans (rfl : _ = some (Value.int .i64 (x1 : Int)))
                have g4 := (blk_cell HGXb.out 4).trans (rfl : _ = some (Value.int .i64 (x2 : Int)))
                have g5 := (blk_cell HGXb.out 5).trans (rfl : _ = some (Value.int .i64 (x3 : Int)))
                have b0 := (blk_cell HGY.out 0).trans (rfl : _ = some (Value.int .i64 (x0 : Int)))
                have b1 := (blk_cell HGY.out 1).trans (rfl : _ = some (Value.int .i64 (x1 : Int)))
                have b2 := (blk_cell HGY.out 2).trans (rfl : _ = some (Value.int .i64 (x2 : Int)))
                have b3 := (blk_cell HGY.out 3).trans (rfl : _ = some (Value.int .i64 (x3 : Int)))
                have n1 : ∀ W, (binOp .neq 50 (.agg #[.int .i64 x0, .int .i64 x1, .int .i64 x2, .int .i64 x3]) (.agg #[.int .i64 x0, .int .i64 x1, .int .i64 x2, .int .i64 x3])).run Try.prog W = .ok (.bool false) W := fun W => neq_same ⟨x0, x1, x2, x3⟩ W
                have n2 : ∀ W o1 o2, (eqGuard .neq 50 o1 o2 (.agg #[.int .i64 x0, .int .i64 x1, .int .i64 x2, .int .i64 x3]) (.agg #[.int .i64 x0, .int .i64 x1, .int .i64 x2, .int .i64 x3])).run Try.prog W = .ok () W := fun W o1 o2 => guard_box ⟨x0, x1, x2, x3⟩ ⟨x0, x1, x2, x3⟩ o1 o2 W
                go_wp2_with fail
                go_roundg gn
                case measure => omega
                case rel => exact ⟨i + 1, by first | go_num | (congr 1; unfold wrap64; omega), by rw [HH.out.1], by rw [HH.out.2]; first | go_num | (congr 1; unfold wrap64; omega), ⟨by have := HGi.out; omega⟩, HBd⟩
        · have hil : (pl.length : Int) ≤ i := by omega
          obtain ⟨e1, e2⟩ := nl_all T (whole u v) i (by rw [← HPE.out]; omega)
          rw [← HPE.out, ← HLS.out] at e1
          rw [← HPE.out, ← HBX.out] at e2
          rw [e1, e2]
          have l1 := fun ty => (HM8.out.below HBi.out).len ty
          obtain ⟨n, hn⟩ : ∃ n, n = bx.length := ⟨_, rfl⟩
          rw [← hn] at l1 ⊢
          clear hgi hi e1 e2 hn
          go_wp2_with fail
          go_returns
          exact ⟨by simp, below_then HB8.out HB8.out.size HBi.out⟩
end
theorem row {w : World} (A : Option Addr) (c : Nat) (l : List SD) (hC : Kd.C kD w A l.length l) (_ : l.length ≤ c) (hl : ∀ x ∈ l, deedwf x) (u : Int) (_ : (Lit.int .i64 u).wf = true) (v : Int) (_ : (Lit.int .i64 v).wf = true) :
    Calls Try.prog 4 #[.slice A l.length c, .int .i64 u, .int .i64 v] w fun e w' => e = .returned (.bool true) ∧ Below w.heap.size w w' := by
  by_cases h : 100 < l.length
  · exact boxes_big A c _ u v w h (by have := hC.2.1; unfold maxLen; omega)
  · exact law_c A c l u v w hC (by omega) hl
end Go.Proofs.Ytnidcnmeonjjbaa.LayBx
