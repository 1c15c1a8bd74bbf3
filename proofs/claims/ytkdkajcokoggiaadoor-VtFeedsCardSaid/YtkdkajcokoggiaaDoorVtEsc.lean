/- The parser's escape as a contract. -/
import Derived.Test.YtkdkajcokoggiaaDoorVtSmall
namespace Go.Proofs.YtkdkajcokoggiaaDoor.VtEsc
open Go.RowKit Go.Lib Go.Proofs.YtkdkajcokoggiaaDoor.Kit Go.Proofs.YtkdkajcokoggiaaDoor.Plain Go.Proofs.YtkdkajcokoggiaaDoor.Mine Go.Proofs.YtkdkajcokoggiaaDoor.UtfPure Go.Proofs.YtkdkajcokoggiaaDoor.VtPure Go.Proofs.YtkdkajcokoggiaaDoor.VtSmall Go.Proofs.YtkdkajcokoggiaaDoorW.PrintWords Go.Proofs.YtkdkajcokoggiaaDoorW.PrintLast Go.Proofs.YtkdkajcokoggiaaDoorW.PrintMore
open Go.Proofs.YtkdkajcokoggiaaDoor.PVtParts (S37 k37 k37_open k37_openM k37_mk k37_mkM)
set_option linter.unusedVariables false
set_option linter.unusedSimpArgs false
/-- A byte in a slice of its own, as a string. -/
theorem conv1 (c : Int) (hc : 0 ≤ c ∧ c < 256) (W : World) : (convert 42 9 (.slice (some ⟨W.heap.size, 0, none⟩) 1 1)).run Tryd.prog (W.alloc (.cells #[.int .u8 c] 5)) = .ok (.string (b1 c)) (W.alloc (.cells #[.int .u8 c] 5)) := by
  rw [run_convert_bytes_string _ 42 9 5 _ _ _ Tryd.underlying42 Tryd.underlying5 Tryd.underlying9]
  refine run_bytesToString _ _ _ _ [c] ?_
  have h2 := run_loadCells_list (P := Tryd.prog) (w := W.alloc (.cells #[.int .u8 c] 5)) ⟨W.heap.size, 0, none⟩ ([c].map (Value.int .u8)) (fun j v hv => by
    have hb := blk_new W (.cells #[.int .u8 c] 5)
    match j, hv with
    | 0, hv => cases hv; exact (blk_cell hb 0).trans rfl)
  exact h2
set_option maxHeartbeats 3200000 in
set_option maxRecDepth 100000 in
theorem escape_c (v : PR) (A : Option Addr) (n cp : Nat) (c : Int) (w : World) (hc : 0 ≤ c ∧ c < 256) (hps : Kd.C (Kd.int .i64) w A n v.ps) :
    Calls Tryd.prog 25 #[pval v (.slice A n cp), .int .u8 c] w (PT w A n (escapeP v c)) := by
  have hup := Tryd.underlying28
  have hua := Tryd.underlying37
  have hCV := conv1 c hc
  have hc1 := hc.1
  have hc2 : c ≤ 255 := by omega
  have HPS := Aside0.mk hps
  obtain ⟨st, u, mk, ps, tx, wi⟩ := v
  unfold pval
  obtain ⟨pc, hpc⟩ : ∃ pc, pc = pcells ⟨st, u, mk, ps, tx, wi⟩ (.slice A n cp) := ⟨_, rfl⟩
  rw [← hpc]
  have HPC := Aside0.mk hpc
  clear hps hc hpc
  go_enter Tryd.func25, Tryd.ntmps25
  go_upto_region 0 with fail
  go_cut [2, 4, 5] (fun v2 v4 v5 W => ∃ g gr : Nat, v2 = .pointer (some ⟨g, 0, none⟩) ∧ v4 = .pointer (some ⟨gr, 0, none⟩) ∧ v5 = .slice none 0 0 ∧ Aside0 (V2 w W g gr pc zcells))
  case first =>
    go_wp2_with fail
    go_meet
    case rel => exact ⟨_, _, rfl, rfl, rfl, ⟨V2.enter w pc zcells⟩⟩
  case rest =>
    obtain ⟨g, gr, rfl, rfl, rfl, HV⟩ := hcut
    have hb1 : (b1 c).size = 1 := rfl
    by_cases h48 : c < 48
    · have hd : decide (c < 48) = true := decide_eq_true h48
      obtain ⟨p0, p1, p2, p3, p4, p5, p6, p7, p8⟩ := HV.out.cells HPC.out
      simp only at p0 p1 p2 p3 p4 p5 p6 p7 p8
      obtain ⟨fp0, fp1, fp2, fp3, fp4, fp5, fp6, fp7, fp8⟩ := HV.out.thawp
      have hlg := blk_lt HV.out.1
      by_cases hm : mk.size < 2
      · have hmI : (mk.size : Int) < 2 := by omega
        have HEP := Aside0.mk (show escapeP ⟨st, u, mk, ps, tx, wi⟩ c = (⟨2, u, mk ++ b1 c, ps, tx, wi⟩, []) from by rw [escapeP, if_pos h48, if_pos hm])
        go_upto_region 3 with fail
        go_cut [] (fun W => Aside0 (V2 w W g gr (pcells ⟨st, u, mk ++ b1 c, ps, tx, wi⟩ (.slice A n cp)) zcells))
        case first =>
          go_wp2_with fail
          go_meet
          case rel =>
            have h1 := HV.out
            rw [HPC.out] at h1
            exact ⟨(h1.set_p 5 (.string (mk ++ b1 c)) rfl).on (below_alloc (Below.refl _ _) _)⟩
        case rest =>
          have HV2 := hcut
          clear p0 p1 p2 p3 p4 p5 p6 p7 p8 fp0 fp1 fp2 fp3 fp4 fp5 fp6 fp7 fp8 hlg HV hCV
          obtain ⟨p0, p1, p2, p3, p4, p5, p6, p7, p8⟩ := HV2.out.cells rfl
          simp only at p0 p1 p2 p3 p4 p5 p6 p7 p8
          have fp0 := HV2.out.thawp.1
          obtain ⟨z0, z1, z2, z3, z4, z5, z6, z7, z8⟩ := HV2.out.zero
          obtain ⟨y0, y1, y2, y3, y4, y5, y6, y7, y8⟩ := HV2.out.thaw
          have hgg := HV2.out.2.2.2.2.1
          go_wp2
          have hf := (HV2.out.set_p 0 (.int .i64 2) (pc' := pcells ⟨2, u, (mk ++ b1 c), ps, tx, wi⟩ (.slice A n cp)) rfl).ret (.int .i64 2) (.int .u8 (u[0]?.getD 0)) (.int .u8 (u[1]?.getD 0)) (.int .u8 (u[2]?.getD 0)) (.int .i64 u.length) (.string (mk ++ b1 c)) (.slice A n cp) (.string tx) (.int .i64 wi)
          refine bodyPost_ret (results_ct Tryd.results25 _ _ gr 28 (pcells ⟨2, u, (mk ++ b1 c), ps, tx, wi⟩ (.slice A n cp)) (0, 0) _ rfl hf.2.1 hup rfl (by kernel_rfl)) rfl ⟨.slice none 0 0, A, n, cp, ?_, by rw [HEP.out]; exact Kd.C_below HPS.out hf.2.2.2.2.2, ?_, hf.2.2.2.2.2, fun _ _ => .inl ⟨rfl, rfl⟩⟩
          · rw [HEP.out]; rfl
          · rw [HEP.out]; exact Kd.R_nil _ _ _ _ _
      · have hmI : (2 : Int) ≤ mk.size := by omega
        have HEP := Aside0.mk (show escapeP ⟨st, u, mk, ps, tx, wi⟩ c = (⟨2, u, mk, ps, tx, wi⟩, []) from by rw [escapeP, if_pos h48, if_neg hm])
        go_upto_region 4 with fail
        have hv2 := HV.out
        rw [HPC.out] at hv2
        have HV2 := Aside0.mk hv2
        clear p0 p1 p2 p3 p4 p5 p6 p7 p8 fp0 fp1 fp2 fp3 fp4 fp5 fp6 fp7 fp8 hlg HV hCV hv2
        obtain ⟨p0, p1, p2, p3, p4, p5, p6, p7, p8⟩ := HV2.out.cells rfl
        simp only at p0 p1 p2 p3 p4 p5 p6 p7 p8
        have fp0 := HV2.out.thawp.1
        obtain ⟨z0, z1, z2, z3, z4, z5, z6, z7, z8⟩ := HV2.out.zero
        obtain ⟨y0, y1, y2, y3, y4, y5, y6, y7, y8⟩ := HV2.out.thaw
        have hgg := HV2.out.2.2.2.2.1
        go_wp2
        have hf := (HV2.out.set_p 0 (.int .i64 2) (pc' := pcells ⟨2, u, mk, ps, tx, wi⟩ (.slice A n cp)) rfl).ret (.int .i64 2) (.int .u8 (u[0]?.getD 0)) (.int .u8 (u[1]?.getD 0)) (.int .u8 (u[2]?.getD 0)) (.int .i64 u.length) (.string mk) (.slice A n cp) (.string tx) (.int .i64 wi)
        refine bodyPost_ret (results_ct Tryd.results25 _ _ gr 28 (pcells ⟨2, u, mk, ps, tx, wi⟩ (.slice A n cp)) (0, 0) _ rfl hf.2.1 hup rfl (by kernel_rfl)) rfl ⟨.slice none 0 0, A, n, cp, ?_, by rw [HEP.out]; exact Kd.C_below HPS.out hf.2.2.2.2.2, ?_, hf.2.2.2.2.2, fun _ _ => .inl ⟨rfl, rfl⟩⟩
        · rw [HEP.out]; rfl
        · rw [HEP.out]; exact Kd.R_nil _ _ _ _ _
    · have hd : decide (c < 48) = false := decide_eq_false h48
      obtain ⟨p0, _⟩ := HV.out.cells HPC.out
      simp only at p0
      by_cases hs : st = 1
      · subst hs
        by_cases k1 : c = 91
        · subst k1
          have HEP := Aside0.mk (show escapeP ⟨1, u, mk, ps, tx, wi⟩ 91 = (atP 3, []) from rfl)
          go_wp2_with fail
          refine (at0_c 3 _).mono ?_
          rintro e w1 ⟨rfl, hb⟩
          have HV1 := Aside0.mk (HV.out.on hb)
          clear hb
          obtain ⟨z0, z1, z2, z3, z4, z5, z6, z7, z8⟩ := HV1.out.zero
          obtain ⟨y0, y1, y2, y3, y4, y5, y6, y7, y8⟩ := HV1.out.thaw
          go_wp2
          have hf := HV1.out.ret (.int .i64 3) (.int .u8 0) (.int .u8 0) (.int .u8 0) (.int .i64 0) (.string ⟨#[]⟩) (.slice none 0 0) (.string ⟨#[]⟩) (.int .i64 0)
          refine bodyPost_ret (results_ct Tryd.results25 _ _ gr 28 (pcells (atP 3) (.slice none 0 0)) (0, 0) _ rfl hf.2.1 hup rfl (by kernel_rfl)) rfl ⟨.slice none 0 0, none, 0, 0, ?_, by rw [HEP.out]; exact Kd.C_nil _ _, ?_, hf.2.2.2.2.2, fun _ h => nomatch h⟩
          · rw [HEP.out]; rfl
          · rw [HEP.out]; exact Kd.R_nil _ _ _ _ _
        · have b1' : (c == 91) = false := beq_eq_false_iff_ne.mpr k1
          by_cases k2 : c = 93
          · subst k2
            have HEP := Aside0.mk (show escapeP ⟨1, u, mk, ps, tx, wi⟩ 93 = (atP 5, []) from rfl)
            go_wp2_with fail
            refine (at0_c 5 _).mono ?_
            rintro e w1 ⟨rfl, hb⟩
            have HV1 := Aside0.mk (HV.out.on hb)
            clear hb
            obtain ⟨z0, z1, z2, z3, z4, z5, z6, z7, z8⟩ := HV1.out.zero
            obtain ⟨y0, y1, y2, y3, y4, y5, y6, y7, y8⟩ := HV1.out.thaw
            go_wp2
            have hf := HV1.out.ret (.int .i64 5) (.int .u8 0) (.int .u8 0) (.int .u8 0) (.int .i64 0) (.string ⟨#[]⟩) (.slice none 0 0) (.string ⟨#[]⟩) (.int .i64 0)
            refine bodyPost_ret (results_ct Tryd.results25 _ _ gr 28 (pcells (atP 5) (.slice none 0 0)) (0, 0) _ rfl hf.2.1 hup rfl (by kernel_rfl)) rfl ⟨.slice none 0 0, none, 0, 0, ?_, by rw [HEP.out]; exact Kd.C_nil _ _, ?_, hf.2.2.2.2.2, fun _ h => nomatch h⟩
            · rw [HEP.out]; rfl
            · rw [HEP.out]; exact Kd.R_nil _ _ _ _ _
          · have b2' : (c == 93) = false := beq_eq_false_iff_ne.mpr k2
            by_cases k3 : c = 80
            · subst k3
              have HEP := Aside0.mk (show escapeP ⟨1, u, mk, ps, tx, wi⟩ 80 = (atP 6, []) from rfl)
              go_wp2_with fail
              refine (at0_c 6 _).mono ?_
              rintro e w1 ⟨rfl, hb⟩
              have HV1 := Aside0.mk (HV.out.on hb)
              clear hb
              obtain ⟨z0, z1, z2, z3, z4, z5, z6, z7, z8⟩ := HV1.out.zero
              obtain ⟨y0, y1, y2, y3, y4, y5, y6, y7, y8⟩ := HV1.out.thaw
              go_wp2
              have hf := HV1.out.ret (.int .i64 6) (.int .u8 0) (.int .u8 0) (.int .u8 0) (.int .i64 0) (.string ⟨#[]⟩) (.slice none 0 0) (.string ⟨#[]⟩) (.int .i64 0)
              refine bodyPost_ret (results_ct Tryd.results25 _ _ gr 28 (pcells (atP 6) (.slice none 0 0)) (0, 0) _ rfl hf.2.1 hup rfl (by kernel_rfl)) rfl ⟨.slice none 0 0, none, 0, 0, ?_, by rw [HEP.out]; exact Kd.C_nil _ _, ?_, hf.2.2.2.2.2, fun _ h => nomatch h⟩
              · rw [HEP.out]; rfl
              · rw [HEP.out]; exact Kd.R_nil _ _ _ _ _
            · have b3' : (c == 80) = false := beq_eq_false_iff_ne.mpr k3
              have HEP := Aside0.mk (show escapeP ⟨1, u, mk, ps, tx, wi⟩ c = (atP 0, [escA c mk]) from by rw [escapeP, if_neg h48, if_neg (fun h => k1 h.2), if_neg (fun h => k2 h.2), if_neg (fun h => k3 h.2)])
              go_upto_region 12 with fail
              have HVd := Aside0.mk HV.out.drew
              clear p0
              refine start_ (n := 8) (S := fun w' => w'.cell? ⟨g, 5, none⟩ = some (.string mk)) (ds := []) #[false, false, false, false, false, false, false, false] (by kernel_rfl) rfl rfl ((V2.mr HVd.out HPC.out)) (fun hHeld => ?_)
              refine pure_ (i := 1) (N := some 50) (v := ?_) (a' := ?_) #[false, true, false, false, false, false, false, false] rfl rfl (by kernel_rfl) (fun _ _ _ h => h) (Or.inl ⟨by rfl, ?_⟩) ?_ ?_
              rotate_left
              · intro w'
                go_simp
                with_reducible rfl
              rotate_left
              · simp only [Act.put, List.setIfInBounds_toArray, List.set_cons_zero, List.set_cons_succ, i64_w, i32_w]
                rfl
              refine pure_ (i := 2) (N := some 51) (v := ?_) (a' := ?_) #[false, true, true, false, false, false, false, false] rfl rfl (by kernel_rfl) (fun _ _ _ h => h) (Or.inl ⟨by rfl, ?_⟩) ?_ ?_
              rotate_left
              · intro w'
                go_simp
                with_reducible rfl
              rotate_left
              · simp only [Act.put, List.setIfInBounds_toArray, List.set_cons_zero, List.set_cons_succ, i64_w, i32_w]
                rfl
              refine take_ (i := 3) (N := some 52) (v := ?_) (a' := ?_) #[false, true, true, true, false, false, false, false] rfl rfl (by kernel_rfl) (fun _ _ _ h => h) (Or.inl ⟨by rfl, ?_⟩) hHeld ?_ ?_
              rotate_left
              · intro w' s0
                go_simp
                with_reducible rfl
              rotate_left
              · simp only [Act.put, List.setIfInBounds_toArray, List.set_cons_zero, List.set_cons_succ, i64_w, i32_w]
                rfl
              refine pure_ (i := 4) (N := some 53) (v := ?_) (a' := ?_) #[false, true, true, true, true, false, false, false] rfl rfl (by kernel_rfl) (fun _ _ _ h => h) (Or.inl ⟨by rfl, ?_⟩) ?_ ?_
              rotate_left
              · intro w'
                go_simp
                with_reducible rfl
              rotate_left
              · simp only [Act.put, List.setIfInBounds_toArray, List.set_cons_zero, List.set_cons_succ, i64_w, i32_w]
                rfl
              refine join_ (σ := Value) 1 #[true, true, true, true, true, true, true, false] (fun s => [(49, .agg #[.int .i64 0, .int .u8 0, .int .u8 0, .int .u8 0, .int .i64 0, .string ⟨#[]⟩, .slice none 0 0, .string ⟨#[]⟩, .int .i64 0]), (54, s)]) (fun s w' => V2 w w' g gr pc zcells ∧ Kd.R k37 37 w' w.heap.size (fun k => k ≠ g ∧ k ≠ gr) s [escA c mk]) ?_ ?_
              rotate_left
              · intro hCont
                refine two_ (i := 0) (j := 5) (Ni := some 49) (Nj := some 54) #[true, true, true, true, true, false, false, false] #[false, true, true, true, true, true, false, false] rfl rfl rfl rfl (by kernel_rfl) (by decide) (by decide) (fun K hK => ?_) (fun K hK => ?_)
                · skip
                  refine goes_ Tryd.func22 (by kernel_rfl) rfl #[.int .i64 0] (by rfl) rfl rfl (by simp only [List.map_toArray, List.map_cons, List.map_nil]; rfl) ?_
                  with_reducible refine ((at0_c 0 _)).mono ?_
                  rintro e wa ⟨rfl, hb⟩
                  refine ⟨_, rfl, ?_⟩
                  have HVa := Aside0.mk (HVd.out.on hb)
                  clear hb
                  refine hK.out _ _ ((V2.mr HVa.out HPC.out)) (fun hHeld => ?_)
                  clear hK K
                  refine norm_ (a' := ?_) ?_ ?_
                  rotate_left
                  · show Act.put _ (some 49) _ = _
                    simp only [Act.put, List.setIfInBounds_toArray, List.set_cons_zero, List.set_cons_succ, i64_w, i32_w]
                    rfl
                  refine two_ (i := 5) (j := 6) (Ni := some 54) (Nj := none) #[true, true, true, true, true, true, false, false] #[true, true, true, true, true, false, true, false] rfl rfl rfl rfl (by kernel_rfl) (by decide) (by decide) (fun K hK => ?_) (fun K hK => ?_)
                  · skip
                    refine Kd.R_lit_step k37 (w0 := w) w.heap.size 37 (by rfl) rfl (xs := [escA c mk]) (inner := [.int .i64 2, .int .i32 0, .int .u8 c, .string mk, .slice none 0 0, .string ⟨#[]⟩]) (ok := fun k => k ≠ g ∧ k ≠ gr) (okp := fun _ => False) ?lr ?lp (fun _ h => h.elim) ?lf HVa.out.2.2.2.2.2 HVa.out.2.2.2.2.2.size (by simp) ?_; (case lr => first | (go_simp; done) | (go_simp; rfl)); (case lp => exact reps_one rfl (k37_mkM _ _ _ (escA c mk) (Kd.R_nil _ _ _ _ _))); (case lf => exact ⟨Ne.symm (Nat.ne_of_lt (blk_lt HVa.out.1)), Ne.symm (Nat.ne_of_lt (blk_lt HVa.out.2.1))⟩)
                    intro vl wl ho hb hg hw
                    have HVl := Aside0.mk (HVa.out.grow hg hb)
                    have HRl := Aside0.mk ho
                    clear ho hb hg hw
                    refine hK.out _ _ ((V2.mr HVl.out HPC.out)) (fun hHeld => ?_)
                    clear hK K
                    refine norm_ (a' := ?_) ?_ ?_
                    rotate_left
                    · show Act.put _ (some 54) _ = _
                      simp only [Act.put, List.setIfInBounds_toArray, List.set_cons_zero, List.set_cons_succ, i64_w, i32_w]
                      rfl
                    refine one_ (i := 6) (N := none) #[true, true, true, true, true, true, true, false] rfl rfl (by kernel_rfl) (by decide) (fun K hK => ?_)
                    obtain ⟨z0, z1, z2, z3, z4, z5, z6, z7, z8⟩ := HVl.out.zero
                    obtain ⟨y0, y1, y2, y3, y4, y5, y6, y7, y8⟩ := HVl.out.thaw
                    refine skip_ (w1 := ?_) (by rfl) rfl ?_ ?_
                    rotate_left
                    · go_simp
                      rfl
                    have HVs := Aside0.mk HVl.out.ret0
                    refine hK.out _ _ ((V2.mr HVs.out HPC.out)) (fun hHeld => ?_)
                    clear hK K
                    exact norm_ (by simp only [putAll, Act.put, List.setIfInBounds_toArray, List.set_cons_zero, List.set_cons_succ]) (hCont vl _ ⟨HVs.out, Kd.R_keep HRl.out (keep9 _ _ _ _ _ _ _ _ _ _ _) (fun k h => h.2)⟩)
                  · skip
                    obtain ⟨z0, z1, z2, z3, z4, z5, z6, z7, z8⟩ := HVa.out.zero
                    obtain ⟨y0, y1, y2, y3, y4, y5, y6, y7, y8⟩ := HVa.out.thaw
                    refine skip_ (w1 := ?_) (by rfl) rfl ?_ ?_
                    rotate_left
                    · go_simp
                      rfl
                    have HVs := Aside0.mk HVa.out.ret0
                    refine hK.out _ _ ((V2.mr HVs.out HPC.out)) (fun hHeld => ?_)
                    clear hK K
                    refine one_ (i := 5) (N := some 54) #[true, true, true, true, true, true, true, false] rfl rfl (by kernel_rfl) (by decide) (fun K hK => ?_)
                    refine Kd.R_lit_step k37 (w0 := w) w.heap.size 37 (by rfl) rfl (xs := [escA c mk]) (inner := [.int .i64 2, .int .i32 0, .int .u8 c, .string mk, .slice none 0 0, .string ⟨#[]⟩]) (ok := fun k => k ≠ g ∧ k ≠ gr) (okp := fun _ => False) ?lr ?lp (fun _ h => h.elim) ?lf HVs.out.2.2.2.2.2 HVs.out.2.2.2.2.2.size (by simp) ?_; (case lr => first | (go_simp; done) | (go_simp; rfl)); (case lp => exact reps_one rfl (k37_mkM _ _ _ (escA c mk) (Kd.R_nil _ _ _ _ _))); (case lf => exact ⟨Ne.symm (Nat.ne_of_lt (blk_lt HVs.out.1)), Ne.symm (Nat.ne_of_lt (blk_lt HVs.out.2.1))⟩)
                    intro vl wl ho hb hg hw
                    have HVl := Aside0.mk (HVs.out.grow hg hb)
                    have HRl := Aside0.mk ho
                    clear ho hb hg hw
                    refine hK.out _ _ ((V2.mr HVl.out HPC.out)) (fun hHeld => ?_)
                    clear hK K
                    refine norm_ (a' := ?_) ?_ ?_
                    rotate_left
                    · show Act.put _ (some 54) _ = _
                      simp only [Act.put, List.setIfInBounds_toArray, List.set_cons_zero, List.set_cons_succ, i64_w, i32_w]
                      rfl
                    exact norm_ (by simp only [putAll, Act.put, List.setIfInBounds_toArray, List.set_cons_zero, List.set_cons_succ]) (hCont vl _ ⟨HVl.out, HRl.out⟩)
                · skip
                  refine Kd.R_lit_step k37 (w0 := w) w.heap.size 37 (by rfl) rfl (xs := [escA c mk]) (inner := [.int .i64 2, .int .i32 0, .int .u8 c, .string mk, .slice none 0 0, .string ⟨#[]⟩]) (ok := fun k => k ≠ g ∧ k ≠ gr) (okp := fun _ => False) ?lr ?lp (fun _ h => h.elim) ?lf HVd.out.2.2.2.2.2 HVd.out.2.2.2.2.2.size (by simp) ?_; (case lr => first | (go_simp; done) | (go_simp; rfl)); (case lp => exact reps_one rfl (k37_mkM _ _ _ (escA c mk) (Kd.R_nil _ _ _ _ _))); (case lf => exact ⟨Ne.symm (Nat.ne_of_lt (blk_lt HVd.out.1)), Ne.symm (Nat.ne_of_lt (blk_lt HVd.out.2.1))⟩)
                  intro vl wl ho hb hg hw
                  have HVl := Aside0.mk (HVd.out.grow hg hb)
                  have HRl := Aside0.mk ho
                  clear ho hb hg hw
                  refine hK.out _ _ ((V2.mr HVl.out HPC.out)) (fun hHeld => ?_)
                  clear hK K
                  refine norm_ (a' := ?_) ?_ ?_
                  rotate_left
                  · show Act.put _ (some 54) _ = _
                    simp only [Act.put, List.setIfInBounds_toArray, List.set_cons_zero, List.set_cons_succ, i64_w, i32_w]
                    rfl
                  refine one_ (i := 0) (N := some 49) #[true, true, true, true, true, true, false, false] rfl rfl (by kernel_rfl) (by decide) (fun K hK => ?_)
                  refine goes_ Tryd.func22 (by kernel_rfl) rfl #[.int .i64 0] (by rfl) rfl rfl (by simp only [List.map_toArray, List.map_cons, List.map_nil]; rfl) ?_
                  with_reducible refine ((at0_c 0 _)).mono ?_
                  rintro e wa ⟨rfl, hb⟩
                  refine ⟨_, rfl, ?_⟩
                  have HVa := Aside0.mk (HVl.out.on hb)
                  have HRa := Aside0.mk (Kd.R_below HRl.out hb)
                  clear hb
                  refine hK.out _ _ ((V2.mr HVa.out HPC.out)) (fun hHeld => ?_)
                  clear hK K
                  refine norm_ (a' := ?_) ?_ ?_
                  rotate_left
                  · show Act.put _ (some 49) _ = _
                    simp only [Act.put, List.setIfInBounds_toArray, List.set_cons_zero, List.set_cons_succ, i64_w, i32_w]
                    rfl
                  refine one_ (i := 6) (N := none) #[true, true, true, true, true, true, true, false] rfl rfl (by kernel_rfl) (by decide) (fun K hK => ?_)
                  obtain ⟨z0, z1, z2, z3, z4, z5, z6, z7, z8⟩ := HVa.out.zero
                  obtain ⟨y0, y1, y2, y3, y4, y5, y6, y7, y8⟩ := HVa.out.thaw
                  refine skip_ (w1 := ?_) (by rfl) rfl ?_ ?_
                  rotate_left
                  · go_simp
                    rfl
                  have HVs := Aside0.mk HVa.out.ret0
                  refine hK.out _ _ ((V2.mr HVs.out HPC.out)) (fun hHeld => ?_)
                  clear hK K
                  exact norm_ (by simp only [putAll, Act.put, List.setIfInBounds_toArray, List.set_cons_zero, List.set_cons_succ]) (hCont vl _ ⟨HVs.out, Kd.R_keep HRa.out (keep9 _ _ _ _ _ _ _ _ _ _ _) (fun k h => h.2)⟩)
              rintro vs ws ⟨hvs, hrs⟩
              have HVz := Aside0.mk hvs
              have HRz := Aside0.mk hrs
              have hHeld : ws.cell? ⟨g, 5, none⟩ = some (.string mk) := (V2.mr HVz.out HPC.out)
              clear hvs hrs
              refine norm_ (a' := ?_) ?_ ?_
              rotate_left
              · simp only [putAll, Act.put, List.setIfInBounds_toArray, List.set_cons_zero, List.set_cons_succ]
                rfl
              refine pure_ (i := 7) (N := some 5) (v := ?_) (a' := ?_) #[true, true, true, true, true, true, true, true] rfl rfl (by kernel_rfl) (fun _ _ _ h => h) (Or.inl ⟨by rfl, ?_⟩) ?_ ?_
              rotate_left
              · intro w'
                go_simp
                with_reducible rfl
              rotate_left
              · simp only [Act.put, List.setIfInBounds_toArray, List.set_cons_zero, List.set_cons_succ, i64_w, i32_w]
                rfl
              refine done_ (by kernel_rfl) ?_
              go_wp2
              refine bodyPost_ret (results_ct Tryd.results25 _ _ gr 28 zcells (0, 0) _ rfl HVz.out.2.1 hup rfl (by kernel_rfl)) rfl ⟨vs, none, 0, 0, ?_, by rw [HEP.out]; exact Kd.C_nil _ _, ?_, HVz.out.2.2.2.2.2, fun _ h => nomatch h⟩
              · rw [HEP.out]; rfl
              · rw [HEP.out]; exact Kd.R_mono HRz.out (fun _ _ => trivial)
      · have hs1 : (st == 1) = false := beq_eq_false_iff_ne.mpr hs
        have HEP := Aside0.mk (show escapeP ⟨st, u, mk, ps, tx, wi⟩ c = (atP 0, [escA c mk]) from by rw [escapeP, if_neg h48, if_neg (fun h => hs h.1), if_neg (fun h => hs h.1), if_neg (fun h => hs h.1)])
        go_upto_region 12 with fail
        have HVd := Aside0.mk HV.out.drew
        clear p0
        refine start_ (n := 8) (S := fun w' => w'.cell? ⟨g, 5, none⟩ = some (.string mk)) (ds := []) #[false, false, false, false, false, false, false, false] (by kernel_rfl) rfl rfl ((V2.mr HVd.out HPC.out)) (fun hHeld => ?_)
        refine pure_ (i := 1) (N := some 50) (v := ?_) (a' := ?_) #[false, true, false, false, false, false, false, false] rfl rfl (by kernel_rfl) (fun _ _ _ h => h) (Or.inl ⟨by rfl, ?_⟩) ?_ ?_
        rotate_left
        · intro w'
          go_simp
          with_reducible rfl
        rotate_left
        · simp only [Act.put, List.setIfInBounds_toArray, List.set_cons_zero, List.set_cons_succ, i64_w, i32_w]
          rfl
        refine pure_ (i := 2) (N := some 51) (v := ?_) (a' := ?_) #[false, true, true, false, false, false, false, false] rfl rfl (by kernel_rfl) (fun _ _ _ h => h) (Or.inl ⟨by rfl, ?_⟩) ?_ ?_
        rotate_left
        · intro w'
          go_simp
          with_reducible rfl
        rotate_left
        · simp only [Act.put, List.setIfInBounds_toArray, List.set_cons_zero, List.set_cons_succ, i64_w, i32_w]
          rfl
        refine take_ (i := 3) (N := some 52) (v := ?_) (a' := ?_) #[false, true, true, true, false, false, false, false] rfl rfl (by kernel_rfl) (fun _ _ _ h => h) (Or.inl ⟨by rfl, ?_⟩) hHeld ?_ ?_
        rotate_left
        · intro w' s0
          go_simp
          with_reducible rfl
        rotate_left
        · simp only [Act.put, List.setIfInBounds_toArray, List.set_cons_zero, List.set_cons_succ, i64_w, i32_w]
          rfl
        refine pure_ (i := 4) (N := some 53) (v := ?_) (a' := ?_) #[false, true, true, true, true, false, false, false] rfl rfl (by kernel_rfl) (fun _ _ _ h => h) (Or.inl ⟨by rfl, ?_⟩) ?_ ?_
        rotate_left
        · intro w'
          go_simp
          with_reducible rfl
        rotate_left
        · simp only [Act.put, List.setIfInBounds_toArray, List.set_cons_zero, List.set_cons_succ, i64_w, i32_w]
          rfl
        refine join_ (σ := Value) 1 #[true, true, true, true, true, true, true, false] (fun s => [(49, .agg #[.int .i64 0, .int .u8 0, .int .u8 0, .int .u8 0, .int .i64 0, .string ⟨#[]⟩, .slice none 0 0, .string ⟨#[]⟩, .int .i64 0]), (54, s)]) (fun s w' => V2 w w' g gr pc zcells ∧ Kd.R k37 37 w' w.heap.size (fun k => k ≠ g ∧ k ≠ gr) s [escA c mk]) ?_ ?_
        rotate_left
        · intro hCont
          refine two_ (i := 0) (j := 5) (Ni := some 49) (Nj := some 54) #[true, true, true, true, true, false, false, false] #[false, true, true, true, true, true, false, false] rfl rfl rfl rfl (by kernel_rfl) (by decide) (by decide) (fun K hK => ?_) (fun K hK => ?_)
          · skip
            refine goes_ Tryd.func22 (by kernel_rfl) rfl #[.int .i64 0] (by rfl) rfl rfl (by simp only [List.map_toArray, List.map_cons, List.map_nil]; rfl) ?_
            with_reducible refine ((at0_c 0 _)).mono ?_
            rintro e wa ⟨rfl, hb⟩
            refine ⟨_, rfl, ?_⟩
            have HVa := Aside0.mk (HVd.out.on hb)
            clear hb
            refine hK.out _ _ ((V2.mr HVa.out HPC.out)) (fun hHeld => ?_)
            clear hK K
            refine norm_ (a' := ?_) ?_ ?_
            rotate_left
            · show Act.put _ (some 49) _ = _
              simp only [Act.put, List.setIfInBounds_toArray, List.set_cons_zero, List.set_cons_succ, i64_w, i32_w]
              rfl
            refine two_ (i := 5) (j := 6) (Ni := some 54) (Nj := none) #[true, true, true, true, true, true, false, false] #[true, true, true, true, true, false, true, false] rfl rfl rfl rfl (by kernel_rfl) (by decide) (by decide) (fun K hK => ?_) (fun K hK => ?_)
            · skip
              refine Kd.R_lit_step k37 (w0 := w) w.heap.size 37 (by rfl) rfl (xs := [escA c mk]) (inner := [.int .i64 2, .int .i32 0, .int .u8 c, .string mk, .slice none 0 0, .string ⟨#[]⟩]) (ok := fun k => k ≠ g ∧ k ≠ gr) (okp := fun _ => False) ?lr ?lp (fun _ h => h.elim) ?lf HVa.out.2.2.2.2.2 HVa.out.2.2.2.2.2.size (by simp) ?_; (case lr => first | (go_simp; done) | (go_simp; rfl)); (case lp => exact reps_one rfl (k37_mkM _ _ _ (escA c mk) (Kd.R_nil _ _ _ _ _))); (case lf => exact ⟨Ne.symm (Nat.ne_of_lt (blk_lt HVa.out.1)), Ne.symm (Nat.ne_of_lt (blk_lt HVa.out.2.1))⟩)
              intro vl wl ho hb hg hw
              have HVl := Aside0.mk (HVa.out.grow hg hb)
              have HRl := Aside0.mk ho
              clear ho hb hg hw
              refine hK.out _ _ ((V2.mr HVl.out HPC.out)) (fun hHeld => ?_)
              clear hK K
              refine norm_ (a' := ?_) ?_ ?_
              rotate_left
              · show Act.put _ (some 54) _ = _
                simp only [Act.put, List.setIfInBounds_toArray, List.set_cons_zero, List.set_cons_succ, i64_w, i32_w]
                rfl
              refine one_ (i := 6) (N := none) #[true, true, true, true, true, true, true, false] rfl rfl (by kernel_rfl) (by decide) (fun K hK => ?_)
              obtain ⟨z0, z1, z2, z3, z4, z5, z6, z7, z8⟩ := HVl.out.zero
              obtain ⟨y0, y1, y2, y3, y4, y5, y6, y7, y8⟩ := HVl.out.thaw
              refine skip_ (w1 := ?_) (by rfl) rfl ?_ ?_
              rotate_left
              · go_simp
                rfl
              have HVs := Aside0.mk HVl.out.ret0
              refine hK.out _ _ ((V2.mr HVs.out HPC.out)) (fun hHeld => ?_)
              clear hK K
              exact norm_ (by simp only [putAll, Act.put, List.setIfInBounds_toArray, List.set_cons_zero, List.set_cons_succ]) (hCont vl _ ⟨HVs.out, Kd.R_keep HRl.out (keep9 _ _ _ _ _ _ _ _ _ _ _) (fun k h => h.2)⟩)
            · skip
              obtain ⟨z0, z1, z2, z3, z4, z5, z6, z7, z8⟩ := HVa.out.zero
              obtain ⟨y0, y1, y2, y3, y4, y5, y6, y7, y8⟩ := HVa.out.thaw
              refine skip_ (w1 := ?_) (by rfl) rfl ?_ ?_
              rotate_left
              · go_simp
                rfl
              have HVs := Aside0.mk HVa.out.ret0
              refine hK.out _ _ ((V2.mr HVs.out HPC.out)) (fun hHeld => ?_)
              clear hK K
              refine one_ (i := 5) (N := some 54) #[true, true, true, true, true, true, true, false] rfl rfl (by kernel_rfl) (by decide) (fun K hK => ?_)
              refine Kd.R_lit_step k37 (w0 := w) w.heap.size 37 (by rfl) rfl (xs := [escA c mk]) (inner := [.int .i64 2, .int .i32 0, .int .u8 c, .string mk, .slice none 0 0, .string ⟨#[]⟩]) (ok := fun k => k ≠ g ∧ k ≠ gr) (okp := fun _ => False) ?lr ?lp (fun _ h => h.elim) ?lf HVs.out.2.2.2.2.2 HVs.out.2.2.2.2.2.size (by simp) ?_; (case lr => first | (go_simp; done) | (go_simp; rfl)); (case lp => exact reps_one rfl (k37_mkM _ _ _ (escA c mk) (Kd.R_nil _ _ _ _ _))); (case lf => exact ⟨Ne.symm (Nat.ne_of_lt (blk_lt HVs.out.1)), Ne.symm (Nat.ne_of_lt (blk_lt HVs.out.2.1))⟩)
              intro vl wl ho hb hg hw
              have HVl := Aside0.mk (HVs.out.grow hg hb)
              have HRl := Aside0.mk ho
              clear ho hb hg hw
              refine hK.out _ _ ((V2.mr HVl.out HPC.out)) (fun hHeld => ?_)
              clear hK K
              refine norm_ (a' := ?_) ?_ ?_
              rotate_left
              · show Act.put _ (some 54) _ = _
                simp only [Act.put, List.setIfInBounds_toArray, List.set_cons_zero, List.set_cons_succ, i64_w, i32_w]
                rfl
              exact norm_ (by simp only [putAll, Act.put, List.setIfInBounds_toArray, List.set_cons_zero, List.set_cons_succ]) (hCont vl _ ⟨HVl.out, HRl.out⟩)
          · skip
            refine Kd.R_lit_step k37 (w0 := w) w.heap.size 37 (by rfl) rfl (xs := [escA c mk]) (inner := [.int .i64 2, .int .i32 0, .int .u8 c, .string mk, .slice none 0 0, .string ⟨#[]⟩]) (ok := fun k => k ≠ g ∧ k ≠ gr) (okp := fun _ => False) ?lr ?lp (fun _ h => h.elim) ?lf HVd.out.2.2.2.2.2 HVd.out.2.2.2.2.2.size (by simp) ?_; (case lr => first | (go_simp; done) | (go_simp; rfl)); (case lp => exact reps_one rfl (k37_mkM _ _ _ (escA c mk) (Kd.R_nil _ _ _ _ _))); (case lf => exact ⟨Ne.symm (Nat.ne_of_lt (blk_lt HVd.out.1)), Ne.symm (Nat.ne_of_lt (blk_lt HVd.out.2.1))⟩)
            intro vl wl ho hb hg hw
            have HVl := Aside0.mk (HVd.out.grow hg hb)
            have HRl := Aside0.mk ho
            clear ho hb hg hw
            refine hK.out _ _ ((V2.mr HVl.out HPC.out)) (fun hHeld => ?_)
            clear hK K
            refine norm_ (a' := ?_) ?_ ?_
            rotate_left
            · show Act.put _ (some 54) _ = _
              simp only [Act.put, List.setIfInBounds_toArray, List.set_cons_zero, List.set_cons_succ, i64_w, i32_w]
              rfl
            refine one_ (i := 0) (N := some 49) #[true, true, true, true, true, true, false, false] rfl rfl (by kernel_rfl) (by decide) (fun K hK => ?_)
            refine goes_ Tryd.func22 (by kernel_rfl) rfl #[.int .i64 0] (by rfl) rfl rfl (by simp only [List.map_toArray, List.map_cons, List.map_nil]; rfl) ?_
            with_reducible refine ((at0_c 0 _)).mono ?_
            rintro e wa ⟨rfl, hb⟩
            refine ⟨_, rfl, ?_⟩
            have HVa := Aside0.mk (HVl.out.on hb)
            have HRa := Aside0.mk (Kd.R_below HRl.out hb)
            clear hb
            refine hK.out _ _ ((V2.mr HVa.out HPC.out)) (fun hHeld => ?_)
            clear hK K
            refine norm_ (a' := ?_) ?_ ?_
            rotate_left
            · show Act.put _ (some 49) _ = _
              simp only [Act.put, List.setIfInBounds_toArray, List.set_cons_zero, List.set_cons_succ, i64_w, i32_w]
              rfl
            refine one_ (i := 6) (N := none) #[true, true, true, true, true, true, true, false] rfl rfl (by kernel_rfl) (by decide) (fun K hK => ?_)
            obtain ⟨z0, z1, z2, z3, z4, z5, z6, z7, z8⟩ := HVa.out.zero
            obtain ⟨y0, y1, y2, y3, y4, y5, y6, y7, y8⟩ := HVa.out.thaw
            refine skip_ (w1 := ?_) (by rfl) rfl ?_ ?_
            rotate_left
            · go_simp
              rfl
            have HVs := Aside0.mk HVa.out.ret0
            refine hK.out _ _ ((V2.mr HVs.out HPC.out)) (fun hHeld => ?_)
            clear hK K
            exact norm_ (by simp only [putAll, Act.put, List.setIfInBounds_toArray, List.set_cons_zero, List.set_cons_succ]) (hCont vl _ ⟨HVs.out, Kd.R_keep HRa.out (keep9 _ _ _ _ _ _ _ _ _ _ _) (fun k h => h.2)⟩)
        rintro vs ws ⟨hvs, hrs⟩
        have HVz := Aside0.mk hvs
        have HRz := Aside0.mk hrs
        have hHeld : ws.cell? ⟨g, 5, none⟩ = some (.string mk) := (V2.mr HVz.out HPC.out)
        clear hvs hrs
        refine norm_ (a' := ?_) ?_ ?_
        rotate_left
        · simp only [putAll, Act.put, List.setIfInBounds_toArray, List.set_cons_zero, List.set_cons_succ]
          rfl
        refine pure_ (i := 7) (N := some 5) (v := ?_) (a' := ?_) #[true, true, true, true, true, true, true, true] rfl rfl (by kernel_rfl) (fun _ _ _ h => h) (Or.inl ⟨by rfl, ?_⟩) ?_ ?_
        rotate_left
        · intro w'
          go_simp
          with_reducible rfl
        rotate_left
        · simp only [Act.put, List.setIfInBounds_toArray, List.set_cons_zero, List.set_cons_succ, i64_w, i32_w]
          rfl
        refine done_ (by kernel_rfl) ?_
        go_wp2
        refine bodyPost_ret (results_ct Tryd.results25 _ _ gr 28 zcells (0, 0) _ rfl HVz.out.2.1 hup rfl (by kernel_rfl)) rfl ⟨vs, none, 0, 0, ?_, by rw [HEP.out]; exact Kd.C_nil _ _, ?_, HVz.out.2.2.2.2.2, fun _ h => nomatch h⟩
        · rw [HEP.out]; rfl
        · rw [HEP.out]; exact Kd.R_mono HRz.out (fun _ _ => trivial)
end Go.Proofs.YtkdkajcokoggiaaDoor.VtEsc
