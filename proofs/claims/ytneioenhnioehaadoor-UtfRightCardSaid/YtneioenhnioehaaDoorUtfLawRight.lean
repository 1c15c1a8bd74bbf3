/- The law UtfRight returns true: a walk through its text; the library's two tables hold what their texts lay. -/
import Derived.Test.YtneioenhnioehaaDoorUtfBegins
import Derived.Test.YtneioenhnioehaaDoorUtfFit
namespace Go.Proofs.YtneioenhnioehaaDoor.UtfLawRight
open Go.RowKit Go.Proofs.YtneioenhnioehaaDoor.Kit Go.Proofs.YtneioenhnioehaaDoor.Plain Go.Proofs.YtneioenhnioehaaDoor.Mine Go.Proofs.YtneioenhnioehaaDoor.UtfPure Go.Proofs.YtneioenhnioehaaDoor.UtfFull Go.Proofs.YtneioenhnioehaaDoor.UtfDec Go.Proofs.YtneioenhnioehaaDoor.UtfFeed Go.Proofs.YtneioenhnioehaaDoor.UtfRight Go.Proofs.YtneioenhnioehaaDoor.UtfBegins Go.Proofs.YtneioenhnioehaaDoor.UtfAllC Go.Proofs.YtneioenhnioehaaDoor.UtfFit Go.Proofs.YtneioenhnioehaaDoorW.PrintWords Go.Proofs.YtneioenhnioehaaDoorW.PrintLast Go.Proofs.YtneioenhnioehaaDoorW.PrintMore
open Go.Lib (firstT accLo accHi Utf8Tabs)
set_option linter.unusedVariables false
set_option linter.unusedSimpArgs false
def okN (n : Int) : Bool := decide (0 ≤ n) && decide (n ≤ 3)
def wI (b : List Int) (n : Int) (i : Nat) : Bool := okN n && (List.range i).all fun j => !(decide (n ≤ (j : Int)) && (b.getD j 0 != 0))
theorem wI_step (b : List Int) (n : Int) (i : Nat) : wI b n (i + 1) = (wI b n i && !(decide (n ≤ (i : Int)) && (b.getD i 0 != 0))) := by
  unfold wI
  rw [List.range_succ, List.all_append, Bool.and_assoc]
  simp
theorem wI_end (b0 b1 b2 n : Int) (h : wI [b0, b1, b2] n 3 = true) : ∃ m : Nat, n = m ∧ m ≤ 3 ∧ ([b0, b1, b2].drop m).all (· == 0) = true := by
  unfold wI okN at h
  simp only [Bool.and_eq_true, decide_eq_true_eq, List.all_eq_true, Bool.not_eq_true', Bool.and_eq_false_iff, decide_eq_false_iff_not, bne_eq_false_iff_eq] at h
  obtain ⟨⟨h1, h2⟩, h3⟩ := h
  refine ⟨n.toNat, by omega, by omega, drop_all _ _ (fun j hj => ?_)⟩
  have hj3 : n.toNat + j < 3 := by simpa using hj
  exact (h3 (n.toNat + j) (List.mem_range.2 hj3)).resolve_left (fun h => h (by omega))
theorem wI_no (b0 b1 b2 n : Int) (h : wI [b0, b1, b2] n 3 = false) : rightB [b0, b1, b2] n = false := by
  cases hr : rightB [b0, b1, b2] n with
  | false => rfl
  | true =>
    exfalso
    unfold rightB rightN at hr
    simp only [Bool.and_eq_true, decide_eq_true_eq] at hr
    obtain ⟨h1, h2, h3, _⟩ := hr
    have : wI [b0, b1, b2] n 3 = true := by
      unfold wI okN
      simp only [Bool.and_eq_true, decide_eq_true_eq, List.all_eq_true, Bool.not_eq_true', Bool.and_eq_false_iff, decide_eq_false_iff_not, bne_eq_false_iff_eq]
      refine ⟨⟨h1, h2⟩, fun j hj => ?_⟩
      have hj3 := List.mem_range.1 hj
      by_cases hn : n ≤ (j : Int)
      · right
        rw [List.all_eq_true] at h3
        have hm : [b0, b1, b2].getD j 0 ∈ [b0, b1, b2].drop n.toNat := by
          rw [List.getD_eq_getElem?_getD, List.getElem?_eq_getElem (by simpa using hj3)]
          refine List.mem_iff_getElem.2 ⟨j - n.toNat, by rw [List.length_drop]; simp; omega, ?_⟩
          rw [List.getElem_drop]
          simp [show n.toNat + (j - n.toNat) = j by omega]
        simpa using h3 _ hm
      · exact .inl hn
    rw [this] at h
    cases h
theorem head3 {W : World} {g m : Nat} {b0 b1 b2 : Int} (h : W.heap[g]? = some (.cells #[.int .u8 b0, .int .u8 b1, .int .u8 b2] 27 (0, 0))) (hm : m ≤ 3) : Kd.C (Kd.int .u8) W (some ⟨g, 0, none⟩) ([b0, b1, b2].take m).length ([b0, b1, b2].take m) := by
  refine Kd.C_of_reads (enc := Value.int .u8) (d := (0 : Int)) (h1 := fun _ => rfl) ⟨rfl, by rw [List.length_take]; simp; omega, fun _ => ⟨_, rfl, fun j hj => ?_⟩⟩
  have e : (⟨g, 0, none⟩ : Addr).add j = ⟨g, j, none⟩ := by unfold Addr.add; split <;> simp_all
  have hj2 : j < 3 ∧ j < m := by rw [List.length_take] at hj; simp at hj; omega
  rw [e, blk_cell h j]
  match m, j, hm, hj2 with
  | 1, 0, _, _ => rfl
  | 2, 0, _, _ => rfl
  | 2, 1, _, _ => rfl
  | 3, 0, _, _ => rfl
  | 3, 1, _, _ => rfl
  | 3, 2, _, _ => rfl
  | _, j + 3, _, hj2 => omega
  | m + 4, _, hm, _ => omega
  | 0, _, _, hj2 => omega
  | 1, 1, _, hj2 => omega
  | 1, 2, _, hj2 => omega
  | 2, 2, _, hj2 => omega
theorem rightB_of (b0 b1 b2 : Int) (m : Nat) (hm : m ≤ 3) (h : ([b0, b1, b2].drop m).all (· == 0) = true) : rightB [b0, b1, b2] (m : Int) = (decide (m = 0) || !full ([b0, b1, b2].take m)) := by
  unfold rightB rightN
  rw [decide_eq_true (show (0 : Int) ≤ m by omega), decide_eq_true (show (m : Int) ≤ 3 by omega), Int.toNat_natCast, h]
  rfl
set_option maxHeartbeats 3200000 in
set_option maxRecDepth 100000 in
theorem right_law (b0 b1 b2 n : Int) (w : World) (hT : Utf8Tabs 0 1 w) (hb : Bytes [b0, b1, b2]) :
    Calls Tryd.prog 6 #[.agg #[.int .u8 b0, .int .u8 b1, .int .u8 b2], .int .i64 n] w fun e w' => e = .returned (.bool true) ∧ Below w.heap.size w w' := by
  have hu := Tryd.underlying29
  have hu2 := Tryd.underlying27
  have HT := Aside0.mk hT
  have HBY := Aside0.mk hb
  have hw0 : wI [b0, b1, b2] n 0 = okN n := by unfold wI; simp
  obtain ⟨V, hV⟩ : ∃ V, V = wI [b0, b1, b2] n := ⟨_, rfl⟩
  have hstep := wI_step [b0, b1, b2] n
  rw [← hV] at hw0 hstep
  have HVV := Aside0.mk hV
  have HST := Aside0.mk hstep
  have HW0 := Aside0.mk hw0
  obtain ⟨r, hr⟩ : ∃ r, r = rightB [b0, b1, b2] n := ⟨_, rfl⟩
  have HRR := Aside0.mk (fun W (h : Below w.heap.size w W) => right_c b0 b1 b2 n W (tabs_below hT h) hb)
  rw [← hr] at HRR
  have HR := Aside0.mk hr
  clear hT hb hw0 hstep hV hr
  go_enter Tryd.func6, Tryd.ntmps6
  go_upto_region 1 with fail
  obtain ⟨w1, hw1⟩ : ∃ w1, w1 = w.alloc (.cells #[.int .u8 b0, .int .u8 b1, .int .u8 b2] 27) := ⟨_, rfl⟩
  obtain ⟨g, hg⟩ : ∃ g, g = w.heap.size := ⟨_, rfl⟩
  have hk := (show w1.heap[g]? = some (.cells #[.int .u8 b0, .int .u8 b1, .int .u8 b2] 27 (0, 0)) from by rw [hw1, hg]; exact blk_new w _)
  have hb1 : Below w.heap.size w w1 := by rw [hw1]; exact below_alloc (Below.refl _ _) _
  rw [← hw1, ← hg]
  have HF := Aside0.mk (fit_c w1 (tabs_below HT.out hb1))
  have HK1 := Aside0.mk hk
  have HB1 := Aside0.mk hb1
  clear hw1 hg hk hb1
  go_wp2_with fail
  refine HF.out.mono ?_
  rintro e w2 ⟨rfl, hb⟩
  have HK2 := Aside0.mk (blk_below HK1.out hb)
  have HB2 := Aside0.mk (below_kept HB1.out hb)
  clear hb HF HB1 HK1
  go_upto_region 3 with fail
  go_cut [5] (fun v5 W => v5 = .bool (V 0) ∧ W = w2)
  case first =>
    by_cases k0 : 0 ≤ n
    · by_cases k3 : n ≤ 3
      · have e : V 0 = true := by rw [HW0.out, okN, decide_eq_true k0, decide_eq_true k3]; rfl
        have E := Aside0.mk e
        clear e
        go_wp2_with fail
        go_meet
        case rel => exact ⟨by first | (rw [E.out]; done) | rw [E.out, decide_eq_false (by omega)], rfl⟩
      · have e : V 0 = false := by rw [HW0.out, okN, decide_eq_false k3]; simp
        have E := Aside0.mk e
        have k4 : 3 < n := by omega
        clear e k3
        go_wp2_with fail
        go_meet
        case rel => exact ⟨by first | (rw [E.out]; done) | rw [E.out, decide_eq_false (by omega)], rfl⟩
    · have e : V 0 = false := by rw [HW0.out, okN, decide_eq_false k0]; simp
      have E := Aside0.mk e
      have k4 : n < 0 := by omega
      clear e k0
      go_wp2_with fail
      go_meet
      case rel => exact ⟨by first | (rw [E.out]; done) | rw [E.out, decide_eq_false (by omega)], rfl⟩
  case rest =>
  obtain ⟨rfl, rfl⟩ := hcut
  clear HW0
  go_wp2_with fail
  go_loopg [5, 15] 3 (fun g0 v5 v15 W => ∃ (i : Nat), v5 = .bool (V i) ∧ v15 = .int .i64 (i : Int) ∧ Aside0 (g0 + i = 3) ∧ W = wc)
  case atStart => exact ⟨0, rfl, rfl, ⟨rfl⟩, rfl⟩
  case round =>
    obtain ⟨i, rfl, rfl, HG, rfl⟩ := hrel
    have hst := HST.out i
    obtain ⟨x, hx⟩ : ∃ x, x = V i := ⟨_, rfl⟩
    rw [← hx] at hst
    rw [← hx]
    have HX := Aside0.mk hx
    have HS := Aside0.mk hst
    have hgi := HG.out
    clear hx hst
    by_cases hi : i < 3
    · obtain ⟨g0, rfl⟩ : ∃ g0, gk = g0 + 1 := ⟨gk - 1, by omega⟩
      have hil : (i : Int) < 3 := by omega
      obtain ⟨y, hy⟩ : ∃ y, y = [b0, b1, b2].getD i 0 := ⟨_, rfl⟩
      have hc : wr.cell? ⟨g, i, none⟩ = some (.int .u8 y) := by
        rw [blk_cell HK2.out i, hy]
        match i, hi with
        | 0, _ => rfl
        | 1, _ => rfl
        | 2, _ => rfl
        | i + 3, hi => omega
      have HS2 := HS.out
      rw [← hy] at HS2
      have HS3 := Aside0.mk HS2
      clear hy hgi hi HS2 HS
      cases x with
      | false =>
        have HN := Aside0.mk (show V (i + 1) = false from by rw [HS3.out]; rfl)
        clear HS3
        go_wp2_with fail
        go_roundg g0
        case measure => omega
        case rel => exact ⟨i + 1, by rw [HN.out], by first | go_num | (congr 1; unfold wrap64; omega), ⟨by have := HG.out; omega⟩, rfl⟩
      | true =>
        by_cases hni : n ≤ (i : Int)
        · have hni' : decide (n ≤ (i : Int)) = true := decide_eq_true hni
          by_cases hy0 : y = 0
          · have q : (y != 0) = false := by simp [hy0]
            have HN := Aside0.mk (show V (i + 1) = true from by rw [HS3.out, q]; simp)
            have hyz : (y == 0) = true := by simp [hy0]
            clear HS3 hy0
            go_wp2_with fail
            go_roundg g0
            case measure => omega
            case rel => exact ⟨i + 1, by rw [HN.out], by first | go_num | (congr 1; unfold wrap64; omega), ⟨by have := HG.out; omega⟩, rfl⟩
          · have hyz : (y == 0) = false := beq_eq_false_iff_ne.mpr hy0
            have q : (y != 0) = true := by simp [hy0]
            have HN := Aside0.mk (show V (i + 1) = false from by rw [HS3.out, hni', q]; rfl)
            clear HS3 hy0
            go_wp2_with fail
            go_roundg g0
            case measure => omega
            case rel => exact ⟨i + 1, by rw [HN.out], by first | go_num | (congr 1; unfold wrap64; omega), ⟨by have := HG.out; omega⟩, rfl⟩
        · have hni' : decide (n ≤ (i : Int)) = false := decide_eq_false hni
          have hni2 : (i : Int) < n := by omega
          have HN := Aside0.mk (show V (i + 1) = true from by rw [HS3.out, hni']; rfl)
          clear HS3 hni
          go_wp2_with fail
          go_roundg g0
          case measure => omega
          case rel => exact ⟨i + 1, by rw [HN.out], by first | go_num | (congr 1; unfold wrap64; omega), ⟨by have := HG.out; omega⟩, rfl⟩
    · have hil : (3 : Int) ≤ i := by omega
      obtain rfl : i = 3 := by omega
      have hfs := HVV.out
      have hx3 := HX.out
      rw [hfs] at hx3
      have HX3 := Aside0.mk hx3
      clear hgi hi HS hil hfs hx3
      cases x with
      | false =>
        have HV := Aside0.mk (show r = false from by rw [HR.out]; exact wI_no b0 b1 b2 n HX3.out.symm)
        have HRC := Aside0.mk (HRR.out wr HB2.out)
        rw [HV.out] at HRC
        have cc0 := (blk_cell HK2.out 0).trans (rfl : _ = some (Value.int .u8 b0))
        have cc1 := (blk_cell HK2.out 1).trans (rfl : _ = some (Value.int .u8 b1))
        have cc2 := (blk_cell HK2.out 2).trans (rfl : _ = some (Value.int .u8 b2))
        go_wp2_with fail
        refine HRC.out.mono ?_
        rintro e w3 ⟨rfl, hb⟩
        have HB3 := Aside0.mk (below_kept HB2.out hb)
        clear hb
        go_wp2
        go_ret
        exact ⟨rfl, HB3.out⟩
      | true =>
        obtain ⟨m, hnm, hm, hz⟩ := wI_end b0 b1 b2 n HX3.out.symm
        subst hnm
        have hr := rightB_of b0 b1 b2 m hm hz
        have HRV := Aside0.mk hr
        have HM := Aside0.mk hm
        have hmI : (m : Int) ≤ 3 := by omega
        clear hr hz hm
        by_cases h0 : m = 0
        · have hm0 : (m : Int) ≤ 0 := by omega
          have HV := Aside0.mk (show r = true from by rw [HR.out, HRV.out, decide_eq_true h0]; rfl)
          have HRC := Aside0.mk (HRR.out wr HB2.out)
          rw [HV.out] at HRC
          clear h0
          have cc0 := (blk_cell HK2.out 0).trans (rfl : _ = some (Value.int .u8 b0))
          have cc1 := (blk_cell HK2.out 1).trans (rfl : _ = some (Value.int .u8 b1))
          have cc2 := (blk_cell HK2.out 2).trans (rfl : _ = some (Value.int .u8 b2))
          go_wp2_with fail
          refine HRC.out.mono ?_
          rintro e w3 ⟨rfl, hb⟩
          have HB3 := Aside0.mk (below_kept HB2.out hb)
          clear hb
          go_wp2
          go_ret
          exact ⟨rfl, HB3.out⟩
        · have hm0 : (0 : Int) < m := by omega
          have hln : ([b0, b1, b2].take m).length = m := by rw [List.length_take]; simp; have := HM.out; omega
          have hbg := begins_c (some ⟨g, 0, none⟩) 3 ([b0, b1, b2].take m) wr (head3 HK2.out HM.out) (fun x hx => HBY.out x (List.mem_of_mem_take hx)) (by rw [hln]; omega) (by rw [hln]; exact HM.out)
          rw [hln] at hbg
          have hv : r = !full ([b0, b1, b2].take m) := by rw [HR.out, HRV.out, decide_eq_false h0]; rfl
          rw [← hv] at hbg
          have HBG := Aside0.mk hbg
          clear h0 hln hbg hv
          go_wp2_with fail
          refine HBG.out.mono ?_
          rintro e w3 ⟨rfl, hb⟩
          have HB3 := Aside0.mk (below_kept HB2.out hb)
          have HK3 := Aside0.mk (blk_below HK2.out hb)
          have HRC := Aside0.mk (HRR.out w3 HB3.out)
          clear hb
          have cc0 := (blk_cell HK3.out 0).trans (rfl : _ = some (Value.int .u8 b0))
          have cc1 := (blk_cell HK3.out 1).trans (rfl : _ = some (Value.int .u8 b1))
          have cc2 := (blk_cell HK3.out 2).trans (rfl : _ = some (Value.int .u8 b2))
          go_wp2_with fail
          refine HRC.out.mono ?_
          rintro e w4 ⟨rfl, hb⟩
          have HB4 := Aside0.mk (below_kept HB3.out hb)
          clear hb
          go_wp2
          go_ret
          exact ⟨by simp, HB4.out⟩
theorem right_row {w : World} (b0 b1 b2 : Int) (w0 : (Lit.int .u8 b0).wf = true) (w1 : (Lit.int .u8 b1).wf = true) (w2 : (Lit.int .u8 b2).wf = true) (n : Int) (_ : (Lit.int .i64 n).wf = true) (hT : Utf8Tabs 0 1 w) :
    Calls Tryd.prog 6 #[.agg #[.int .u8 b0, .int .u8 b1, .int .u8 b2], .int .i64 n] w fun e w' => e = .returned (.bool true) ∧ Below w.heap.size w w' := by
  refine right_law b0 b1 b2 n w hT ?_
  simp [Lit.wf, IntKind.min, IntKind.max, IntKind.signed, IntKind.bits] at w0 w1 w2
  intro x hx
  simp only [List.mem_cons, List.not_mem_nil, or_false] at hx
  rcases hx with rfl | rfl | rfl <;> omega
end Go.Proofs.YtneioenhnioehaaDoor.UtfLawRight
