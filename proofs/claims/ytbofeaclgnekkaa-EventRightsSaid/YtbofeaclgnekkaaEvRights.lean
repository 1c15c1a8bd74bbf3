/- The law EventRights returns true: a walk through its text; no condition but that the list can be read. -/
import Derived.Test.YtbofeaclgnekkaaEvFit
import Derived.Test.YtbofeaclgnekkaaEvOpen
namespace Go.Proofs.Ytbofeaclgnekkaa.EvRights
open Go.RowKit Go.Proofs.Ytbofeaclgnekkaa.Kit Go.Proofs.Ytbofeaclgnekkaa.Plain Go.Proofs.Ytbofeaclgnekkaa.Mine Go.Proofs.Ytbofeaclgnekkaa.Vary Go.Proofs.Ytbofeaclgnekkaa.Reader Go.Proofs.Ytbofeaclgnekkaa.Event Go.Proofs.Ytbofeaclgnekkaa.EventRef Go.Proofs.Ytbofeaclgnekkaa.EventList Go.Proofs.Ytbofeaclgnekkaa.EventListR Go.Proofs.Ytbofeaclgnekkaa.Tame Go.Proofs.Ytbofeaclgnekkaa.EvFit Go.Proofs.YtbofeaclgnekkaaW.PrintWords Go.Proofs.YtbofeaclgnekkaaW.PrintLast Go.Proofs.YtbofeaclgnekkaaW.PrintMore
open Go.Proofs.Ytbofeaclgnekkaa.PEventRights (S25 z25 k25 k25_open k25_mk k25_mkM rd_T25 at_T25 info25)
set_option linter.unusedVariables false
set_option linter.unusedSimpArgs false
theorem listR_one (x : S25) : listR 0 [x] = right x := by
  rw [listR_cons]
  cases h : right x with
  | false => rfl
  | true => rw [decide_eq_true (right_pos h)]; rfl
set_option maxHeartbeats 800000 in
set_option maxRecDepth 100000 in
theorem rights_big (A : Option Addr) (c : Nat) (l : List S25) (w : World) (h : 100 < l.length) :
    Calls Try.prog 3 #[.slice A l.length c] w fun e w' => e = .returned (.bool true) ∧ Below w.heap.size w w' := by
  have h2 : 100 < (l.length : Int) := by omega
  clear h
  go_enter Try.func3, Try.ntmps3
  go_wp2_with (go_at_call 8; refine (fit_c _).mono ?_; rintro e w1 ⟨rfl, hb⟩; have HB := Aside0.mk hb; clear hb)
  go_ret
  exact ⟨rfl, HB.out⟩
set_option maxHeartbeats 3200000 in
set_option maxRecDepth 100000 in
theorem rights_small (A : Option Addr) (c : Nat) (l : List S25) (w : World) (hr : Kd.C k25 w A l.length l) (hl : l.length ≤ 100) :
    Calls Try.prog 3 #[.slice A l.length c] w fun e w' => e = .returned (.bool true) ∧ Below w.heap.size w w' := by
  have hu := Try.underlying25
  have h2 : (l.length : Int) ≤ 100 := by omega
  have HR := Aside0.mk hr
  have HLL := Aside0.mk hl
  clear hr hl
  go_enter Try.func3, Try.ntmps3
  go_wp2_with (go_at_call 8; refine (fit_c _).mono ?_; rintro e w1 ⟨rfl, hb⟩; have HB0 := Aside0.mk hb; clear hb)
  go_loopg [12] (l.length) (fun g v12 W => ∃ i : Nat, v12 = .int .i64 (i : Int) ∧ Aside0 (g + i = l.length) ∧ Aside0 (Below w.heap.size w W))
  case atStart => exact ⟨0, rfl, ⟨by omega⟩, HB0⟩
  case round =>
    clear HB0
    obtain ⟨i, rfl, HG, HB⟩ := hrel
    have hgi := HG.out
    by_cases hi : i < l.length
    · obtain ⟨g0, rfl⟩ : ∃ g0, gk = g0 + 1 := ⟨gk - 1, by omega⟩
      obtain ⟨ad, ead, hc0, hc1, hc2, hc3, hc4⟩ := at_ev (Kd.C_below HR.out HB.out) i hi
      obtain ⟨x, hx⟩ : ∃ x, x = l[i] := ⟨_, rfl⟩
      rw [← hx] at hc0 hc1 hc2 hc3 hc4
      have hil : (i : Int) < l.length := by omega
      have HI := Aside0.mk hi
      obtain ⟨xt, xk, xd, xw, xh⟩ := x
      dsimp only at hc0 hc1 hc2 hc3 hc4
      subst ead
      clear hx hgi hi
      go_upto_region 7 with fail
      go_cut [4] (fun v4 W => ∃ g : Nat, v4 = .pointer (some ⟨g, 0, none⟩) ∧ Aside0 (w.heap.size ≤ g) ∧ Aside0 (W.heap[g]? = some (.cells #[.int .i64 xt, .int .i64 xk, .string xd, .int .i64 xw, .int .i64 xh] 25 (0, 0))) ∧ Aside0 (Below w.heap.size w W))
      case first =>
        go_wp2_with fail
        go_meet
        case rel => exact ⟨wr.heap.size, rfl, ⟨HB.out.size⟩, ⟨blk_new wr _⟩, ⟨below_alloc HB.out _⟩⟩
      case rest =>
        obtain ⟨g, rfl, GE, BK, HB3⟩ := hcut
        clear hc0 hc1 hc2 hc3 hc4 HB
        have HEV := Aside0.mk (show ∀ W, Below wc.heap.size wc W → W.cell? ⟨g, 0, none⟩ = some (.int .i64 xt) ∧ W.cell? ⟨g, 1, none⟩ = some (.int .i64 xk) ∧ W.cell? ⟨g, 2, none⟩ = some (.string xd) ∧ W.cell? ⟨g, 3, none⟩ = some (.int .i64 xw) ∧ W.cell? ⟨g, 4, none⟩ = some (.int .i64 xh) from fun W hW =>
          ⟨(blk_cell (blk_below BK.out hW) 0).trans rfl, (blk_cell (blk_below BK.out hW) 1).trans rfl, (blk_cell (blk_below BK.out hW) 2).trans rfl, (blk_cell (blk_below BK.out hW) 3).trans rfl, (blk_cell (blk_below BK.out hW) 4).trans rfl⟩)
        have HRA := Aside0.mk (fun W => right_raw xt xk xd xw xh W)
        have HRB := Aside0.mk (fun W => rright_raw xt xk xd xw xh W)
        have HRC := Aside0.mk (show ∀ (A : Option Addr) (c : Nat) (W : World), Kd.C k25 W A [(⟨xt, xk, xd, xw, xh⟩ : S25)].length [(⟨xt, xk, xd, xw, xh⟩ : S25)] → Calls Try.prog 11 #[.slice A [(⟨xt, xk, xd, xw, xh⟩ : S25)].length c] W fun e w' => e = .returned (.bool (rightB xt xk xd.size xw xh)) ∧ Below W.heap.size W w' from fun A c W h => by
          have h2 := list_c A c [(⟨xt, xk, xd, xw, xh⟩ : S25)] W h
          rw [listR_one] at h2
          exact h2)
        obtain ⟨rx, hrx⟩ : ∃ rx, rx = rightB xt xk xd.size xw xh := ⟨_, rfl⟩
        rw [← hrx] at HRA HRB HRC
        clear hrx BK
        have HW0 := Aside0.mk (below_drew (Below.refl wc.heap.size wc))
        have hev0 := HEV.out wc.drew HW0.out
        go_upto_region 8 with fail
        go_cut [28] (fun v28 W => v28 = .bool false ∧ Aside0 (Below wc.heap.size wc W))
        case first =>
          cases rx with
          | false =>
            refine start_ (n := 13) (S := fun w' => w'.cell? ⟨g, 0, none⟩ = some (.int .i64 xt) ∧ w'.cell? ⟨g, 1, none⟩ = some (.int .i64 xk) ∧ w'.cell? ⟨g, 2, none⟩ = some (.string xd) ∧ w'.cell? ⟨g, 3, none⟩ = some (.int .i64 xw) ∧ w'.cell? ⟨g, 4, none⟩ = some (.int .i64 xh)) (ds := []) #[false, false, false, false, false, false, false, false, false, false, false, false, false] (by kernel_rfl) rfl rfl ⟨hev0.1, hev0.2.1, hev0.2.2.1, hev0.2.2.2.1, hev0.2.2.2.2⟩ (fun hHeld => ?_)
            refine take_ (i := 0) (N := some 16) (v := ?_) (a' := ?_) #[true, false, false, false, false, false, false, false, false, false, false, false, false] rfl rfl (by kernel_rfl) (fun _ _ _ h => h) (Or.inl ⟨by rfl, ?_⟩) hHeld ?_ ?_
            rotate_left
            · rintro w' ⟨s0, s1, s2, s3, s4⟩
              go_simp
              with_reducible rfl
            rotate_left
            · simp only [Act.put, List.setIfInBounds_toArray, List.set_cons_zero, List.set_cons_succ, i64_w, i32_w]
              rfl
            refine take_ (i := 2) (N := some 18) (v := ?_) (a' := ?_) #[true, false, true, false, false, false, false, false, false, false, false, false, false] rfl rfl (by kernel_rfl) (fun _ _ _ h => h) (Or.inl ⟨by rfl, ?_⟩) hHeld ?_ ?_
            rotate_left
            · rintro w' ⟨s0, s1, s2, s3, s4⟩
              go_simp
              with_reducible rfl
            rotate_left
            · simp only [Act.put, List.setIfInBounds_toArray, List.set_cons_zero, List.set_cons_succ, i64_w, i32_w]
              rfl
            refine one_ (i := 1) (N := some 17) #[true, true, true, false, false, false, false, false, false, false, false, false, false] rfl rfl (by kernel_rfl) (by decide) (fun K hK => ?_)
            refine goes_ Try.func9 (by kernel_rfl) rfl #[.agg #[.int .i64 xt, .int .i64 xk, .string xd, .int .i64 xw, .int .i64 xh]] (by rfl) rfl rfl (by simp only [List.map_toArray, List.map_cons, List.map_nil]; rfl) ?_
            with_reducible refine (HRA.out _).mono ?_
            rintro e w3 ⟨rfl, hb3⟩
            refine ⟨_, rfl, ?_⟩
            have HW3 := Aside0.mk (below_kept HW0.out hb3)
            clear hb3
            refine hK.out _ _ ⟨(HEV.out _ HW3.out).1, (HEV.out _ HW3.out).2.1, (HEV.out _ HW3.out).2.2.1, (HEV.out _ HW3.out).2.2.2.1, (HEV.out _ HW3.out).2.2.2.2⟩ (fun hHeld => ?_)
            clear hK K
            refine norm_ (a' := ?_) ?_ ?_
            rotate_left
            · show Act.put _ (some 17) _ = _
              simp only [Act.put, List.setIfInBounds_toArray, List.set_cons_zero, List.set_cons_succ, i64_w, i32_w]
              rfl
            refine one_ (i := 3) (N := some 19) #[true, true, true, true, false, false, false, false, false, false, false, false, false] rfl rfl (by kernel_rfl) (by decide) (fun K hK => ?_)
            refine goes_ Try.func10 (by kernel_rfl) rfl #[.agg #[.int .i64 xt, .int .i64 xk, .string xd, .int .i64 xw, .int .i64 xh]] (by rfl) rfl rfl (by simp only [List.map_toArray, List.map_cons, List.map_nil]; rfl) ?_
            with_reducible refine (HRB.out _).mono ?_
            rintro e w4 ⟨rfl, hb4⟩
            refine ⟨_, rfl, ?_⟩
            have HW4 := Aside0.mk (below_kept HW3.out hb4)
            clear hb4
            refine hK.out _ _ ⟨(HEV.out _ HW4.out).1, (HEV.out _ HW4.out).2.1, (HEV.out _ HW4.out).2.2.1, (HEV.out _ HW4.out).2.2.2.1, (HEV.out _ HW4.out).2.2.2.2⟩ (fun hHeld => ?_)
            clear hK K
            refine norm_ (a' := ?_) ?_ ?_
            rotate_left
            · show Act.put _ (some 19) _ = _
              simp only [Act.put, List.setIfInBounds_toArray, List.set_cons_zero, List.set_cons_succ, i64_w, i32_w]
              rfl
            refine pure_ (i := 4) (N := some 20) (v := ?_) (a' := ?_) #[true, true, true, true, true, false, false, false, false, false, false, false, false] rfl rfl (by kernel_rfl) (fun _ _ _ h => h) (Or.inl ⟨by rfl, ?_⟩) ?_ ?_
            rotate_left
            · intro w'
              go_simp
              with_reducible rfl
            rotate_left
            · simp only [Act.put, List.setIfInBounds_toArray, List.set_cons_zero, List.set_cons_succ, i64_w, i32_w]
              rfl
            refine pure_ (i := 5) (N := some 21) (v := ?_) (a' := ?_) #[true, true, true, true, true, true, false, false, false, false, false, false, false] rfl rfl (by kernel_rfl) (fun _ _ _ h => h) (Or.inl ⟨by rfl, ?_⟩) ?_ ?_
            rotate_left
            · intro w'
              go_simp
              with_reducible rfl
            rotate_left
            · simp only [Act.put, List.setIfInBounds_toArray, List.set_cons_zero, List.set_cons_succ, i64_w, i32_w]
              rfl
            refine take_ (i := 6) (N := some 22) (v := ?_) (a' := ?_) #[true, true, true, true, true, true, true, false, false, false, false, false, false] rfl rfl (by kernel_rfl) (fun _ _ _ h => h) (Or.inl ⟨by rfl, ?_⟩) hHeld ?_ ?_
            rotate_left
            · rintro w' ⟨s0, s1, s2, s3, s4⟩
              go_simp
              with_reducible rfl
            rotate_left
            · simp only [Act.put, List.setIfInBounds_toArray, List.set_cons_zero, List.set_cons_succ, i64_w, i32_w]
              rfl
            refine take_ (i := 9) (N := some 25) (v := ?_) (a' := ?_) #[true, true, true, true, true, true, true, false, false, true, false, false, false] rfl rfl (by kernel_rfl) (fun _ _ _ h => h) (Or.inl ⟨by rfl, ?_⟩) hHeld ?_ ?_
            rotate_left
            · rintro w' ⟨s0, s1, s2, s3, s4⟩
              go_simp
              with_reducible rfl
            rotate_left
            · simp only [Act.put, List.setIfInBounds_toArray, List.set_cons_zero, List.set_cons_succ, i64_w, i32_w]
              rfl
            refine one_ (i := 7) (N := some 23) #[true, true, true, true, true, true, true, true, false, true, false, false, false] rfl rfl (by kernel_rfl) (by decide) (fun K hK => ?_)
            refine Kd.R_lit_step k25 _ 25 ?hg (N := 23) ?hd (xs := [(⟨xt, xk, xd, xw, xh⟩ : S25)]) (inner := [.int .i64 xt, .int .i64 xk, .string xd, .int .i64 xw, .int .i64 xh]) (ok := fun _ => True) (okp := fun _ => True) ?hr ?hp (fun _ hk => hk) trivial (Below.refl _ _) (Nat.le_refl _) (by simp) ?_; (case hd => rfl); (case hg => rfl); (case hr => first | (go_simp; done) | (go_simp; rfl)); (case hp => exact (Reps.c5 (show Kd.M k25 _ _ _ (⟨xt, xk, xd, xw, xh⟩ : S25) [.int .i64 xt, .int .i64 xk, .string xd, .int .i64 xw, .int .i64 xh] from (k25_mkM _ _ _ (⟨xt, xk, xd, xw, xh⟩ : S25))) (Reps.none _ _)))
            intro v5 w5 ho5 hb5 hg_ hnew_
            clear hg_ hnew_
            have HW5 := Aside0.mk (below_kept HW4.out hb5)
            obtain ⟨A5, c5, rfl⟩ := Kd.R_slice ho5
            have HR5 := Aside0.mk (Kd.R_reads' ho5).2.2
            clear ho5 hb5
            refine hK.out _ _ ⟨(HEV.out _ HW5.out).1, (HEV.out _ HW5.out).2.1, (HEV.out _ HW5.out).2.2.1, (HEV.out _ HW5.out).2.2.2.1, (HEV.out _ HW5.out).2.2.2.2⟩ (fun hHeld => ?_)
            clear hK K
            refine norm_ (a' := ?_) ?_ ?_
            rotate_left
            · show Act.put _ (some 23) _ = _
              simp only [Act.put, List.setIfInBounds_toArray, List.set_cons_zero, List.set_cons_succ, i64_w, i32_w]
              rfl
            refine one_ (i := 8) (N := some 24) #[true, true, true, true, true, true, true, true, true, true, false, false, false] rfl rfl (by kernel_rfl) (by decide) (fun K hK => ?_)
            refine goes_ Try.func11 (by kernel_rfl) rfl #[.slice A5 [(⟨xt, xk, xd, xw, xh⟩ : S25)].length c5] (by rfl) rfl rfl (by simp only [List.map_toArray, List.map_cons, List.map_nil]; rfl) ?_
            with_reducible refine (HRC.out A5 c5 _ HR5.out).mono ?_
            rintro e w6 ⟨rfl, hb6⟩
            refine ⟨_, rfl, ?_⟩
            have HW6 := Aside0.mk (below_kept HW5.out hb6)
            clear hb6
            refine hK.out _ _ ⟨(HEV.out _ HW6.out).1, (HEV.out _ HW6.out).2.1, (HEV.out _ HW6.out).2.2.1, (HEV.out _ HW6.out).2.2.2.1, (HEV.out _ HW6.out).2.2.2.2⟩ (fun hHeld => ?_)
            clear hK K
            refine norm_ (a' := ?_) ?_ ?_
            rotate_left
            · show Act.put _ (some 24) _ = _
              simp only [Act.put, List.setIfInBounds_toArray, List.set_cons_zero, List.set_cons_succ, i64_w, i32_w]
              rfl
            refine one_ (i := 10) (N := some 26) #[true, true, true, true, true, true, true, true, true, true, true, false, false] rfl rfl (by kernel_rfl) (by decide) (fun K hK => ?_)
            refine goes_ Try.func10 (by kernel_rfl) rfl #[.agg #[.int .i64 xt, .int .i64 xk, .string xd, .int .i64 xw, .int .i64 xh]] (by rfl) rfl rfl (by simp only [List.map_toArray, List.map_cons, List.map_nil]; rfl) ?_
            with_reducible refine (HRB.out _).mono ?_
            rintro e w7 ⟨rfl, hb7⟩
            refine ⟨_, rfl, ?_⟩
            have HW7 := Aside0.mk (below_kept HW6.out hb7)
            clear hb7
            refine hK.out _ _ ⟨(HEV.out _ HW7.out).1, (HEV.out _ HW7.out).2.1, (HEV.out _ HW7.out).2.2.1, (HEV.out _ HW7.out).2.2.2.1, (HEV.out _ HW7.out).2.2.2.2⟩ (fun hHeld => ?_)
            clear hK K
            refine norm_ (a' := ?_) ?_ ?_
            rotate_left
            · show Act.put _ (some 26) _ = _
              simp only [Act.put, List.setIfInBounds_toArray, List.set_cons_zero, List.set_cons_succ, i64_w, i32_w]
              rfl
            refine pure_ (i := 11) (N := some 27) (v := ?_) (a' := ?_) #[true, true, true, true, true, true, true, true, true, true, true, true, false] rfl rfl (by kernel_rfl) (fun _ _ _ h => h) (Or.inl ⟨by rfl, ?_⟩) ?_ ?_
            rotate_left
            · intro w'
              go_simp
              with_reducible rfl
            rotate_left
            · simp only [Act.put, List.setIfInBounds_toArray, List.set_cons_zero, List.set_cons_succ, i64_w, i32_w]
              rfl
            refine pure_ (i := 12) (N := some 28) (v := ?_) (a' := ?_) #[true, true, true, true, true, true, true, true, true, true, true, true, true] rfl rfl (by kernel_rfl) (fun _ _ _ h => h) (Or.inl ⟨by rfl, ?_⟩) ?_ ?_
            rotate_left
            · intro w'
              go_simp
              with_reducible rfl
            rotate_left
            · simp only [Act.put, List.setIfInBounds_toArray, List.set_cons_zero, List.set_cons_succ, i64_w, i32_w]
              rfl
            refine done_ (by kernel_rfl) ?_
            go_wp2
            go_meet
            case rel => exact ⟨rfl, HW7⟩
          | true =>
            refine start_ (n := 13) (S := fun w' => w'.cell? ⟨g, 0, none⟩ = some (.int .i64 xt) ∧ w'.cell? ⟨g, 1, none⟩ = some (.int .i64 xk) ∧ w'.cell? ⟨g, 2, none⟩ = some (.string xd) ∧ w'.cell? ⟨g, 3, none⟩ = some (.int .i64 xw) ∧ w'.cell? ⟨g, 4, none⟩ = some (.int .i64 xh)) (ds := []) #[false, false, false, false, false, false, false, false, false, false, false, false, false] (by kernel_rfl) rfl rfl ⟨hev0.1, hev0.2.1, hev0.2.2.1, hev0.2.2.2.1, hev0.2.2.2.2⟩ (fun hHeld => ?_)
            refine take_ (i := 0) (N := some 16) (v := ?_) (a' := ?_) #[true, false, false, false, false, false, false, false, false, false, false, false, false] rfl rfl (by kernel_rfl) (fun _ _ _ h => h) (Or.inl ⟨by rfl, ?_⟩) hHeld ?_ ?_
            rotate_left
            · rintro w' ⟨s0, s1, s2, s3, s4⟩
              go_simp
              with_reducible rfl
            rotate_left
            · simp only [Act.put, List.setIfInBounds_toArray, List.set_cons_zero, List.set_cons_succ, i64_w, i32_w]
              rfl
            refine take_ (i := 2) (N := some 18) (v := ?_) (a' := ?_) #[true, false, true, false, false, false, false, false, false, false, false, false, false] rfl rfl (by kernel_rfl) (fun _ _ _ h => h) (Or.inl ⟨by rfl, ?_⟩) hHeld ?_ ?_
            rotate_left
            · rintro w' ⟨s0, s1, s2, s3, s4⟩
              go_simp
              with_reducible rfl
            rotate_left
            · simp only [Act.put, List.setIfInBounds_toArray, List.set_cons_zero, List.set_cons_succ, i64_w, i32_w]
              rfl
            refine one_ (i := 1) (N := some 17) #[true, true, true, false, false, false, false, false, false, false, false, false, false] rfl rfl (by kernel_rfl) (by decide) (fun K hK => ?_)
            refine goes_ Try.func9 (by kernel_rfl) rfl #[.agg #[.int .i64 xt, .int .i64 xk, .string xd, .int .i64 xw, .int .i64 xh]] (by rfl) rfl rfl (by simp only [List.map_toArray, List.map_cons, List.map_nil]; rfl) ?_
            with_reducible refine (HRA.out _).mono ?_
            rintro e w3 ⟨rfl, hb3⟩
            refine ⟨_, rfl, ?_⟩
            have HW3 := Aside0.mk (below_kept HW0.out hb3)
            clear hb3
            refine hK.out _ _ ⟨(HEV.out _ HW3.out).1, (HEV.out _ HW3.out).2.1, (HEV.out _ HW3.out).2.2.1, (HEV.out _ HW3.out).2.2.2.1, (HEV.out _ HW3.out).2.2.2.2⟩ (fun hHeld => ?_)
            clear hK K
            refine norm_ (a' := ?_) ?_ ?_
            rotate_left
            · show Act.put _ (some 17) _ = _
              simp only [Act.put, List.setIfInBounds_toArray, List.set_cons_zero, List.set_cons_succ, i64_w, i32_w]
              rfl
            refine one_ (i := 3) (N := some 19) #[true, true, true, true, false, false, false, false, false, false, false, false, false] rfl rfl (by kernel_rfl) (by decide) (fun K hK => ?_)
            refine goes_ Try.func10 (by kernel_rfl) rfl #[.agg #[.int .i64 xt, .int .i64 xk, .string xd, .int .i64 xw, .int .i64 xh]] (by rfl) rfl rfl (by simp only [List.map_toArray, List.map_cons, List.map_nil]; rfl) ?_
            with_reducible refine (HRB.out _).mono ?_
            rintro e w4 ⟨rfl, hb4⟩
            refine ⟨_, rfl, ?_⟩
            have HW4 := Aside0.mk (below_kept HW3.out hb4)
            clear hb4
            refine hK.out _ _ ⟨(HEV.out _ HW4.out).1, (HEV.out _ HW4.out).2.1, (HEV.out _ HW4.out).2.2.1, (HEV.out _ HW4.out).2.2.2.1, (HEV.out _ HW4.out).2.2.2.2⟩ (fun hHeld => ?_)
            clear hK K
            refine norm_ (a' := ?_) ?_ ?_
            rotate_left
            · show Act.put _ (some 19) _ = _
              simp only [Act.put, List.setIfInBounds_toArray, List.set_cons_zero, List.set_cons_succ, i64_w, i32_w]
              rfl
            refine pure_ (i := 4) (N := some 20) (v := ?_) (a' := ?_) #[true, true, true, true, true, false, false, false, false, false, false, false, false] rfl rfl (by kernel_rfl) (fun _ _ _ h => h) (Or.inl ⟨by rfl, ?_⟩) ?_ ?_
            rotate_left
            · intro w'
              go_simp
              with_reducible rfl
            rotate_left
            · simp only [Act.put, List.setIfInBounds_toArray, List.set_cons_zero, List.set_cons_succ, i64_w, i32_w]
              rfl
            refine pure_ (i := 5) (N := some 21) (v := ?_) (a' := ?_) #[true, true, true, true, true, true, false, false, false, false, false, false, false] rfl rfl (by kernel_rfl) (fun _ _ _ h => h) (Or.inl ⟨by rfl, ?_⟩) ?_ ?_
            rotate_left
            · intro w'
              go_simp
              with_reducible rfl
            rotate_left
            · simp only [Act.put, List.setIfInBounds_toArray, List.set_cons_zero, List.set_cons_succ, i64_w, i32_w]
              rfl
            refine take_ (i := 6) (N := some 22) (v := ?_) (a' := ?_) #[true, true, true, true, true, true, true, false, false, false, false, false, false] rfl rfl (by kernel_rfl) (fun _ _ _ h => h) (Or.inl ⟨by rfl, ?_⟩) hHeld ?_ ?_
            rotate_left
            · rintro w' ⟨s0, s1, s2, s3, s4⟩
              go_simp
              with_reducible rfl
            rotate_left
            · simp only [Act.put, List.setIfInBounds_toArray, List.set_cons_zero, List.set_cons_succ, i64_w, i32_w]
              rfl
            refine take_ (i := 9) (N := some 25) (v := ?_) (a' := ?_) #[true, true, true, true, true, true, true, false, false, true, false, false, false] rfl rfl (by kernel_rfl) (fun _ _ _ h => h) (Or.inl ⟨by rfl, ?_⟩) hHeld ?_ ?_
            rotate_left
            · rintro w' ⟨s0, s1, s2, s3, s4⟩
              go_simp
              with_reducible rfl
            rotate_left
            · simp only [Act.put, List.setIfInBounds_toArray, List.set_cons_zero, List.set_cons_succ, i64_w, i32_w]
              rfl
            refine one_ (i := 7) (N := some 23) #[true, true, true, true, true, true, true, true, false, true, false, false, false] rfl rfl (by kernel_rfl) (by decide) (fun K hK => ?_)
            refine Kd.R_lit_step k25 _ 25 ?hg (N := 23) ?hd (xs := [(⟨xt, xk, xd, xw, xh⟩ : S25)]) (inner := [.int .i64 xt, .int .i64 xk, .string xd, .int .i64 xw, .int .i64 xh]) (ok := fun _ => True) (okp := fun _ => True) ?hr ?hp (fun _ hk => hk) trivial (Below.refl _ _) (Nat.le_refl _) (by simp) ?_; (case hd => rfl); (case hg => rfl); (case hr => first | (go_simp; done) | (go_simp; rfl)); (case hp => exact (Reps.c5 (show Kd.M k25 _ _ _ (⟨xt, xk, xd, xw, xh⟩ : S25) [.int .i64 xt, .int .i64 xk, .string xd, .int .i64 xw, .int .i64 xh] from (k25_mkM _ _ _ (⟨xt, xk, xd, xw, xh⟩ : S25))) (Reps.none _ _)))
            intro v5 w5 ho5 hb5 hg_ hnew_
            clear hg_ hnew_
            have HW5 := Aside0.mk (below_kept HW4.out hb5)
            obtain ⟨A5, c5, rfl⟩ := Kd.R_slice ho5
            have HR5 := Aside0.mk (Kd.R_reads' ho5).2.2
            clear ho5 hb5
            refine hK.out _ _ ⟨(HEV.out _ HW5.out).1, (HEV.out _ HW5.out).2.1, (HEV.out _ HW5.out).2.2.1, (HEV.out _ HW5.out).2.2.2.1, (HEV.out _ HW5.out).2.2.2.2⟩ (fun hHeld => ?_)
            clear hK K
            refine norm_ (a' := ?_) ?_ ?_
            rotate_left
            · show Act.put _ (some 23) _ = _
              simp only [Act.put, List.setIfInBounds_toArray, List.set_cons_zero, List.set_cons_succ, i64_w, i32_w]
              rfl
            refine one_ (i := 8) (N := some 24) #[true, true, true, true, true, true, true, true, true, true, false, false, false] rfl rfl (by kernel_rfl) (by decide) (fun K hK => ?_)
            refine goes_ Try.func11 (by kernel_rfl) rfl #[.slice A5 [(⟨xt, xk, xd, xw, xh⟩ : S25)].length c5] (by rfl) rfl rfl (by simp only [List.map_toArray, List.map_cons, List.map_nil]; rfl) ?_
            with_reducible refine (HRC.out A5 c5 _ HR5.out).mono ?_
            rintro e w6 ⟨rfl, hb6⟩
            refine ⟨_, rfl, ?_⟩
            have HW6 := Aside0.mk (below_kept HW5.out hb6)
            clear hb6
            refine hK.out _ _ ⟨(HEV.out _ HW6.out).1, (HEV.out _ HW6.out).2.1, (HEV.out _ HW6.out).2.2.1, (HEV.out _ HW6.out).2.2.2.1, (HEV.out _ HW6.out).2.2.2.2⟩ (fun hHeld => ?_)
            clear hK K
            refine norm_ (a' := ?_) ?_ ?_
            rotate_left
            · show Act.put _ (some 24) _ = _
              simp only [Act.put, List.setIfInBounds_toArray, List.set_cons_zero, List.set_cons_succ, i64_w, i32_w]
              rfl
            refine one_ (i := 10) (N := some 26) #[true, true, true, true, true, true, true, true, true, true, true, false, false] rfl rfl (by kernel_rfl) (by decide) (fun K hK => ?_)
            refine goes_ Try.func10 (by kernel_rfl) rfl #[.agg #[.int .i64 xt, .int .i64 xk, .string xd, .int .i64 xw, .int .i64 xh]] (by rfl) rfl rfl (by simp only [List.map_toArray, List.map_cons, List.map_nil]; rfl) ?_
            with_reducible refine (HRB.out _).mono ?_
            rintro e w7 ⟨rfl, hb7⟩
            refine ⟨_, rfl, ?_⟩
            have HW7 := Aside0.mk (below_kept HW6.out hb7)
            clear hb7
            refine hK.out _ _ ⟨(HEV.out _ HW7.out).1, (HEV.out _ HW7.out).2.1, (HEV.out _ HW7.out).2.2.1, (HEV.out _ HW7.out).2.2.2.1, (HEV.out _ HW7.out).2.2.2.2⟩ (fun hHeld => ?_)
            clear hK K
            refine norm_ (a' := ?_) ?_ ?_
            rotate_left
            · show Act.put _ (some 26) _ = _
              simp only [Act.put, List.setIfInBounds_toArray, List.set_cons_zero, List.set_cons_succ, i64_w, i32_w]
              rfl
            refine pure_ (i := 11) (N := some 27) (v := ?_) (a' := ?_) #[true, true, true, true, true, true, true, true, true, true, true, true, false] rfl rfl (by kernel_rfl) (fun _ _ _ h => h) (Or.inl ⟨by rfl, ?_⟩) ?_ ?_
            rotate_left
            · intro w'
              go_simp
              with_reducible rfl
            rotate_left
            · simp only [Act.put, List.setIfInBounds_toArray, List.set_cons_zero, List.set_cons_succ, i64_w, i32_w]
              rfl
            refine pure_ (i := 12) (N := some 28) (v := ?_) (a' := ?_) #[true, true, true, true, true, true, true, true, true, true, true, true, true] rfl rfl (by kernel_rfl) (fun _ _ _ h => h) (Or.inl ⟨by rfl, ?_⟩) ?_ ?_
            rotate_left
            · intro w'
              go_simp
              with_reducible rfl
            rotate_left
            · simp only [Act.put, List.setIfInBounds_toArray, List.set_cons_zero, List.set_cons_succ, i64_w, i32_w]
              rfl
            refine done_ (by kernel_rfl) ?_
            go_wp2
            go_meet
            case rel => exact ⟨rfl, HW7⟩
        case rest =>
          obtain ⟨rfl, HBC⟩ := hcut
          have HBD := Aside0.mk (below_kept HB3.out HBC.out)
          clear HBC HB3 HEV hev0 HRA HRB HRC HW0
          go_wp2_with fail
          go_roundg g0
          case measure => omega
          case rel => exact ⟨i + 1, by first | go_num | (congr 1; unfold wrap64; omega), ⟨by have := HG.out; omega⟩, HBD⟩
    · have hil : (l.length : Int) ≤ i := by omega
      have HLC := Aside0.mk (fun W (h : Below w.heap.size w W) => list_c A c l W (Kd.C_below HR.out h))
      have HRL := Aside0.mk (fun W (h : Below w.heap.size w W) => rlist_c A c l W (Kd.C_below HR.out h))
      have HTM := Aside0.mk (fun W (h : Below w.heap.size w W) => tame_c A c l W (Kd.C_below HR.out h) (by have := HLL.out; omega))
      have HTR := Aside0.mk (tame_right l 0 (by omega) (by have := HLL.out; omega))
      obtain ⟨rl, hrl⟩ : ∃ rl, rl = listR 0 l := ⟨_, rfl⟩
      rw [← hrl] at HLC HRL
      obtain ⟨lt, hlt⟩ : ∃ lt, lt = tame 0 l := ⟨_, rfl⟩
      rw [← hlt] at HTM HTR
      clear hgi hrl hlt
      cases rl
      all_goals
        go_wp2_with fail
        refine (HLC.out _ HB.out).mono ?_
        rintro e w3 ⟨rfl, hb⟩
        have HB3 := Aside0.mk (below_kept HB.out hb)
        clear hb
        go_wp2_with fail
        refine (HRL.out _ HB3.out).mono ?_
        rintro e w4 ⟨rfl, hb⟩
        have HB4 := Aside0.mk (below_kept HB3.out hb)
        clear hb
        go_wp2_with fail
        refine (HTM.out _ HB4.out).mono ?_
        rintro e w5 ⟨v5, rfl, ho, hb⟩
        have HB5 := Aside0.mk (below_kept HB4.out hb)
        obtain ⟨A5, c5, rfl⟩ := Kd.R_slice ho
        have hl5 := list_c A5 c5 lt w5 (Kd.R_reads' ho).2.2
        rw [HTR.out] at hl5
        clear hb ho
        go_wp2_with fail
        refine hl5.mono ?_
        rintro e w6 ⟨rfl, hb⟩
        have HB6 := Aside0.mk (below_kept HB5.out hb)
        clear hb hl5
        go_wp2
        go_ret
        exact ⟨rfl, HB6.out⟩
/-- As the row hands it over. -/
theorem rights_row {W : World} (a : Option Addr) (cap : Nat) (l : List S25) (hr : Kd.C k25 W a l.length l) (hc : l.length ≤ cap) (hw : ∀ x ∈ l, EvOpen.evwf x) :
    Calls Try.prog 3 #[.slice a l.length cap] W fun e w' => e = .returned (.bool true) ∧ Below W.heap.size W w' := by
  by_cases h : 100 < l.length
  · exact rights_big a cap l W h
  · exact rights_small a cap l W hr (by omega)
end Go.Proofs.Ytbofeaclgnekkaa.EvRights
