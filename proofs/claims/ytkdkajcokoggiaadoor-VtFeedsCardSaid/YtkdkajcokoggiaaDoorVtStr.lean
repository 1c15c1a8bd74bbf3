/- The parser's string as a contract. -/
import Derived.Test.YtkdkajcokoggiaaDoorVtEsc
namespace Go.Proofs.YtkdkajcokoggiaaDoor.VtStr
open Go.RowKit Go.Lib Go.Proofs.YtkdkajcokoggiaaDoor.Kit Go.Proofs.YtkdkajcokoggiaaDoor.Plain Go.Proofs.YtkdkajcokoggiaaDoor.Mine Go.Proofs.YtkdkajcokoggiaaDoor.UtfPure Go.Proofs.YtkdkajcokoggiaaDoor.VtPure Go.Proofs.YtkdkajcokoggiaaDoor.VtSmall Go.Proofs.YtkdkajcokoggiaaDoor.VtEsc Go.Proofs.YtkdkajcokoggiaaDoorW.PrintWords Go.Proofs.YtkdkajcokoggiaaDoorW.PrintLast Go.Proofs.YtkdkajcokoggiaaDoorW.PrintMore
open Go.Proofs.YtkdkajcokoggiaaDoor.PVtParts (S37 k37 k37_open k37_openM k37_mk k37_mkM)
set_option linter.unusedVariables false
set_option linter.unusedSimpArgs false
set_option maxHeartbeats 3200000 in
set_option maxRecDepth 100000 in
theorem string_c (v : PR) (A : Option Addr) (n cp : Nat) (c : Int) (w : World) (hc : 0 ≤ c ∧ c < 256) (hps : Kd.C (Kd.int .i64) w A n v.ps) (htx : v.tx.size ≤ 40) :
    Calls Tryd.prog 23 #[pval v (.slice A n cp), .int .u8 c] w (PT w A n (stringP v c)) := by
  have hup := Tryd.underlying28
  have hua := Tryd.underlying37
  have hCV := conv1 c hc
  have hc1 := hc.1
  have hc2 : c ≤ 255 := by omega
  have HPS := Aside0.mk hps
  obtain ⟨st, u, mk, ps, tx, wi⟩ := v
  simp only at htx
  have HTX := Aside0.mk htx
  unfold pval
  obtain ⟨pc, hpc⟩ : ∃ pc, pc = pcells ⟨st, u, mk, ps, tx, wi⟩ (.slice A n cp) := ⟨_, rfl⟩
  rw [← hpc]
  have HPC := Aside0.mk hpc
  clear hps hc hpc htx
  go_enter Tryd.func23, Tryd.ntmps23
  go_upto_region 0 with fail
  go_cut [2, 4, 5] (fun v2 v4 v5 W => ∃ g gr : Nat, v2 = .pointer (some ⟨g, 0, none⟩) ∧ v4 = .pointer (some ⟨gr, 0, none⟩) ∧ v5 = .slice none 0 0 ∧ Aside0 (V2 w W g gr pc zcells))
  case first =>
    go_wp2_with fail
    go_meet
    case rel => exact ⟨_, _, rfl, rfl, rfl, ⟨V2.enter w pc zcells⟩⟩
  case rest =>
    obtain ⟨g, gr, rfl, rfl, rfl, HV⟩ := hcut
    have hb1 : (b1 c).size = 1 := rfl
    obtain ⟨p0, p1, p2, p3, p4, p5, p6, p7, p8⟩ := HV.out.cells HPC.out
    simp only at p0 p1 p2 p3 p4 p5 p6 p7 p8
    obtain ⟨fp0, fp1, fp2, fp3, fp4, fp5, fp6, fp7, fp8⟩ := HV.out.thawp
    have hlg := blk_lt HV.out.1
    have HVP := Aside0.mk (show V2 w wc g gr (pcells ⟨st, u, mk, ps, tx, wi⟩ (.slice A n cp)) zcells from by have h := HV.out; rw [HPC.out] at h; exact h)
    by_cases k1 : c = 27
    · subst k1
      have HEP := Aside0.mk (show stringP ⟨st, u, mk, ps, tx, wi⟩ 27 = (⟨7, u, mk, ps, tx, st⟩, []) from rfl)
      go_upto_region 9 with fail
      obtain ⟨w3, hw3⟩ : ∃ w3, w3 = (wc.setCell ⟨g, 8, none⟩ (.int .i64 st)).setCell ⟨g, 0, none⟩ (.int .i64 7) := ⟨_, rfl⟩
      have HV2 := Aside0.mk (show V2 w w3 g gr (pcells ⟨7, u, mk, ps, tx, st⟩ (.slice A n cp)) zcells from by
        rw [hw3]
        exact (HVP.out.set_p 8 (.int .i64 st) (pc' := pcells ⟨st, u, mk, ps, tx, st⟩ (.slice A n cp)) rfl).set_p 0 (.int .i64 7) rfl)
      rw [← hw3]
      clear hw3
      clear p0 p1 p2 p3 p4 p5 p6 p7 p8 fp0 fp1 fp2 fp3 fp4 fp5 fp6 fp7 fp8 hlg HV hCV HVP
      obtain ⟨p0, p1, p2, p3, p4, p5, p6, p7, p8⟩ := HV2.out.cells rfl
      simp only at p0 p1 p2 p3 p4 p5 p6 p7 p8
      obtain ⟨z0, z1, z2, z3, z4, z5, z6, z7, z8⟩ := HV2.out.zero
      obtain ⟨y0, y1, y2, y3, y4, y5, y6, y7, y8⟩ := HV2.out.thaw
      have hgg := HV2.out.2.2.2.2.1
      go_wp2
      have hf := HV2.out.ret (.int .i64 7) (.int .u8 (u[0]?.getD 0)) (.int .u8 (u[1]?.getD 0)) (.int .u8 (u[2]?.getD 0)) (.int .i64 u.length) (.string mk) (.slice A n cp) (.string tx) (.int .i64 st)
      refine bodyPost_ret (results_ct Tryd.results23 _ _ gr 28 (pcells ⟨7, u, mk, ps, tx, st⟩ (.slice A n cp)) (0, 0) _ rfl hf.2.1 hup rfl (by kernel_rfl)) rfl ⟨.slice none 0 0, A, n, cp, ?_, by rw [HEP.out]; exact Kd.C_below HPS.out hf.2.2.2.2.2, ?_, hf.2.2.2.2.2, fun _ _ => .inl ⟨rfl, rfl⟩⟩
      · rw [HEP.out]; rfl
      · rw [HEP.out]; exact Kd.R_nil _ _ _ _ _
    · have e1 : (c == 27) = false := beq_eq_false_iff_ne.mpr k1
      by_cases k2 : c = 7 ∧ st = 5
      · obtain ⟨rfl, rfl⟩ := k2
        have HEP := Aside0.mk (show stringP ⟨5, u, mk, ps, tx, wi⟩ 7 = (atP 0, [strA 4 tx]) from rfl)
        go_wp2_with fail
        refine (finish_c ⟨5, u, mk, ps, tx, wi⟩ (.slice A n cp) 5 _).mono ?_
        rintro e w1 ⟨ua, rfl, hra, hb⟩
        have HV1 := Aside0.mk (HV.out.on hb)
        have HRA := Aside0.mk (Kd.R_lower (Kd.R_mono (ok' := fun k => k ≠ gr) (Kd.R_bound hra) (fun k hk => by have h1 := hk.2.1; have h2 := blk_lt HV.out.2.1; omega)) HV.out.2.2.2.2.2.size)
        rw [show pval (finishP ⟨5, u, mk, ps, tx, wi⟩ 5).1 (.slice none 0 0) = .agg #[.int .i64 0, .int .u8 0, .int .u8 0, .int .u8 0, .int .i64 0, .string ⟨#[]⟩, .slice none 0 0, .string ⟨#[]⟩, .int .i64 0] from rfl]
        clear hb hra p0 p1 p2 p3 p4 p5 p6 p7 p8 fp0 fp1 fp2 fp3 fp4 fp5 fp6 fp7 fp8 hlg hCV
        obtain ⟨z0, z1, z2, z3, z4, z5, z6, z7, z8⟩ := HV1.out.zero
        obtain ⟨y0, y1, y2, y3, y4, y5, y6, y7, y8⟩ := HV1.out.thaw
        go_wp2
        have hf := HV1.out.ret0
        refine bodyPost_ret (results_ct Tryd.results23 _ _ gr 28 zcells (0, 0) _ rfl hf.2.1 hup rfl (by kernel_rfl)) rfl ⟨ua, none, 0, 0, ?_, by rw [HEP.out]; exact Kd.C_nil _ _, ?_, hf.2.2.2.2.2, fun _ h => nomatch h⟩
        · rw [HEP.out]; rfl
        · rw [HEP.out]; exact Kd.R_mono (Kd.R_keep HRA.out (keep9 _ _ _ _ _ _ _ _ _ _ _) (fun k h => h)) (fun _ _ => trivial)
      · have hk2 : c ≠ 7 ∨ st ≠ 5 := by omega
        by_cases k3 : c = 24 ∨ c = 26
        · rcases k3 with rfl | rfl
          · have HEP := Aside0.mk (show stringP ⟨st, u, mk, ps, tx, wi⟩ 24 = (atP 0, []) from rfl)
            go_wp2_with fail
            refine (at0_c 0 _).mono ?_
            rintro e w1 ⟨rfl, hb⟩
            have HV1 := Aside0.mk (HV.out.on hb)
            clear hb p0 p1 p2 p3 p4 p5 p6 p7 p8 fp0 fp1 fp2 fp3 fp4 fp5 fp6 fp7 fp8 hlg hCV
            obtain ⟨z0, z1, z2, z3, z4, z5, z6, z7, z8⟩ := HV1.out.zero
            obtain ⟨y0, y1, y2, y3, y4, y5, y6, y7, y8⟩ := HV1.out.thaw
            go_wp2
            have hf := HV1.out.ret0
            refine bodyPost_ret (results_ct Tryd.results23 _ _ gr 28 zcells (0, 0) _ rfl hf.2.1 hup rfl (by kernel_rfl)) rfl ⟨.slice none 0 0, none, 0, 0, ?_, by rw [HEP.out]; exact Kd.C_nil _ _, ?_, hf.2.2.2.2.2, fun _ h => nomatch h⟩
            · rw [HEP.out]; rfl
            · rw [HEP.out]; exact Kd.R_nil _ _ _ _ _
          · have HEP := Aside0.mk (show stringP ⟨st, u, mk, ps, tx, wi⟩ 26 = (atP 0, []) from rfl)
            go_wp2_with fail
            refine (at0_c 0 _).mono ?_
            rintro e w1 ⟨rfl, hb⟩
            have HV1 := Aside0.mk (HV.out.on hb)
            clear hb p0 p1 p2 p3 p4 p5 p6 p7 p8 fp0 fp1 fp2 fp3 fp4 fp5 fp6 fp7 fp8 hlg hCV
            obtain ⟨z0, z1, z2, z3, z4, z5, z6, z7, z8⟩ := HV1.out.zero
            obtain ⟨y0, y1, y2, y3, y4, y5, y6, y7, y8⟩ := HV1.out.thaw
            go_wp2
            have hf := HV1.out.ret0
            refine bodyPost_ret (results_ct Tryd.results23 _ _ gr 28 zcells (0, 0) _ rfl hf.2.1 hup rfl (by kernel_rfl)) rfl ⟨.slice none 0 0, none, 0, 0, ?_, by rw [HEP.out]; exact Kd.C_nil _ _, ?_, hf.2.2.2.2.2, fun _ h => nomatch h⟩
            · rw [HEP.out]; rfl
            · rw [HEP.out]; exact Kd.R_nil _ _ _ _ _
        · have e3 : (c == 24) = false := beq_eq_false_iff_ne.mpr (fun h => k3 (.inl h))
          have e4 : (c == 26) = false := beq_eq_false_iff_ne.mpr (fun h => k3 (.inr h))
          have HK2 := Aside0.mk hk2
          have HK3 := Aside0.mk k3
          have HK2' := Aside0.mk k2
          by_cases k4 : 32 ≤ c ∧ tx.size < 40
          · have HEP := Aside0.mk (show stringP ⟨st, u, mk, ps, tx, wi⟩ c = (⟨st, u, mk, ps, tx ++ b1 c, wi⟩, []) from by rw [stringP, if_neg k1, if_neg k2, if_neg k3, if_pos k4])
            have e5 : decide (32 ≤ c) = true := decide_eq_true k4.1
            have e6 : (tx.size : Int) < 40 := by omega
            have e2 : (c == 7) = false := beq_eq_false_iff_ne.mpr (by omega)
            clear hk2 k2 k3 k4
            go_upto_region 9 with fail
            obtain ⟨w3, hw3⟩ : ∃ w3, w3 = (wc.setCell ⟨g, 7, none⟩ (.string (tx ++ b1 c))).alloc (.cells #[.int .u8 c] 5) := ⟨_, rfl⟩
            have HV2 := Aside0.mk (show V2 w w3 g gr (pcells ⟨st, u, mk, ps, tx ++ b1 c, wi⟩ (.slice A n cp)) zcells from by
              rw [hw3]
              exact (HVP.out.set_p 7 (.string (tx ++ b1 c)) rfl).on (below_alloc (Below.refl _ _) _))
            rw [← hw3]
            clear hw3
            clear p0 p1 p2 p3 p4 p5 p6 p7 p8 fp0 fp1 fp2 fp3 fp4 fp5 fp6 fp7 fp8 hlg HV hCV HVP
            obtain ⟨p0, p1, p2, p3, p4, p5, p6, p7, p8⟩ := HV2.out.cells rfl
            simp only at p0 p1 p2 p3 p4 p5 p6 p7 p8
            obtain ⟨z0, z1, z2, z3, z4, z5, z6, z7, z8⟩ := HV2.out.zero
            obtain ⟨y0, y1, y2, y3, y4, y5, y6, y7, y8⟩ := HV2.out.thaw
            have hgg := HV2.out.2.2.2.2.1
            go_wp2
            have hf := HV2.out.ret (.int .i64 st) (.int .u8 (u[0]?.getD 0)) (.int .u8 (u[1]?.getD 0)) (.int .u8 (u[2]?.getD 0)) (.int .i64 u.length) (.string mk) (.slice A n cp) (.string (tx ++ b1 c)) (.int .i64 wi)
            refine bodyPost_ret (results_ct Tryd.results23 _ _ gr 28 (pcells ⟨st, u, mk, ps, (tx ++ b1 c), wi⟩ (.slice A n cp)) (0, 0) _ rfl hf.2.1 hup rfl (by kernel_rfl)) rfl ⟨.slice none 0 0, A, n, cp, ?_, by rw [HEP.out]; exact Kd.C_below HPS.out hf.2.2.2.2.2, ?_, hf.2.2.2.2.2, fun _ _ => .inl ⟨rfl, rfl⟩⟩
            · rw [HEP.out]; rfl
            · rw [HEP.out]; exact Kd.R_nil _ _ _ _ _
          · have HEP := Aside0.mk (show stringP ⟨st, u, mk, ps, tx, wi⟩ c = (⟨st, u, mk, ps, tx, wi⟩, []) from by rw [stringP, if_neg k1, if_neg k2, if_neg k3, if_neg k4])
            have HV2 := HVP
            have hk4 : c < 32 ∨ (32 ≤ c ∧ 40 ≤ (tx.size : Int)) := by omega
            clear k2 k3 k4
            by_cases h7 : c = 7
            · have hs5 : st ≠ 5 := by omega
              have e7 : (st == 5) = false := beq_eq_false_iff_ne.mpr hs5
              have e8 : decide (32 ≤ c) = false := decide_eq_false (by omega)
              subst h7
              clear hk2 hk4 hs5
              go_upto_region 9 with fail
              clear p0 p1 p2 p3 p4 p5 p6 p7 p8 fp0 fp1 fp2 fp3 fp4 fp5 fp6 fp7 fp8 hlg HV hCV HVP
              obtain ⟨p0, p1, p2, p3, p4, p5, p6, p7, p8⟩ := HV2.out.cells rfl
              simp only at p0 p1 p2 p3 p4 p5 p6 p7 p8
              obtain ⟨z0, z1, z2, z3, z4, z5, z6, z7, z8⟩ := HV2.out.zero
              obtain ⟨y0, y1, y2, y3, y4, y5, y6, y7, y8⟩ := HV2.out.thaw
              have hgg := HV2.out.2.2.2.2.1
              go_wp2
              have hf := HV2.out.ret (.int .i64 st) (.int .u8 (u[0]?.getD 0)) (.int .u8 (u[1]?.getD 0)) (.int .u8 (u[2]?.getD 0)) (.int .i64 u.length) (.string mk) (.slice A n cp) (.string tx) (.int .i64 wi)
              refine bodyPost_ret (results_ct Tryd.results23 _ _ gr 28 (pcells ⟨st, u, mk, ps, tx, wi⟩ (.slice A n cp)) (0, 0) _ rfl hf.2.1 hup rfl (by kernel_rfl)) rfl ⟨.slice none 0 0, A, n, cp, ?_, by rw [HEP.out]; exact Kd.C_below HPS.out hf.2.2.2.2.2, ?_, hf.2.2.2.2.2, fun _ _ => .inl ⟨rfl, rfl⟩⟩
              · rw [HEP.out]; rfl
              · rw [HEP.out]; exact Kd.R_nil _ _ _ _ _
            · have e2 : (c == 7) = false := beq_eq_false_iff_ne.mpr h7
              rcases hk4 with h | ⟨h, h40⟩
              · have e8 : decide (32 ≤ c) = false := decide_eq_false (by omega)
                clear hk2 h7
                go_upto_region 9 with fail
                clear p0 p1 p2 p3 p4 p5 p6 p7 p8 fp0 fp1 fp2 fp3 fp4 fp5 fp6 fp7 fp8 hlg HV hCV HVP
                obtain ⟨p0, p1, p2, p3, p4, p5, p6, p7, p8⟩ := HV2.out.cells rfl
                simp only at p0 p1 p2 p3 p4 p5 p6 p7 p8
                obtain ⟨z0, z1, z2, z3, z4, z5, z6, z7, z8⟩ := HV2.out.zero
                obtain ⟨y0, y1, y2, y3, y4, y5, y6, y7, y8⟩ := HV2.out.thaw
                have hgg := HV2.out.2.2.2.2.1
                go_wp2
                have hf := HV2.out.ret (.int .i64 st) (.int .u8 (u[0]?.getD 0)) (.int .u8 (u[1]?.getD 0)) (.int .u8 (u[2]?.getD 0)) (.int .i64 u.length) (.string mk) (.slice A n cp) (.string tx) (.int .i64 wi)
                refine bodyPost_ret (results_ct Tryd.results23 _ _ gr 28 (pcells ⟨st, u, mk, ps, tx, wi⟩ (.slice A n cp)) (0, 0) _ rfl hf.2.1 hup rfl (by kernel_rfl)) rfl ⟨.slice none 0 0, A, n, cp, ?_, by rw [HEP.out]; exact Kd.C_below HPS.out hf.2.2.2.2.2, ?_, hf.2.2.2.2.2, fun _ _ => .inl ⟨rfl, rfl⟩⟩
                · rw [HEP.out]; rfl
                · rw [HEP.out]; exact Kd.R_nil _ _ _ _ _
              · have e8 : decide (32 ≤ c) = true := decide_eq_true h
                clear hk2 h7
                go_upto_region 9 with fail
                clear p0 p1 p2 p3 p4 p5 p6 p7 p8 fp0 fp1 fp2 fp3 fp4 fp5 fp6 fp7 fp8 hlg HV hCV HVP
                obtain ⟨p0, p1, p2, p3, p4, p5, p6, p7, p8⟩ := HV2.out.cells rfl
                simp only at p0 p1 p2 p3 p4 p5 p6 p7 p8
                obtain ⟨z0, z1, z2, z3, z4, z5, z6, z7, z8⟩ := HV2.out.zero
                obtain ⟨y0, y1, y2, y3, y4, y5, y6, y7, y8⟩ := HV2.out.thaw
                have hgg := HV2.out.2.2.2.2.1
                go_wp2
                have hf := HV2.out.ret (.int .i64 st) (.int .u8 (u[0]?.getD 0)) (.int .u8 (u[1]?.getD 0)) (.int .u8 (u[2]?.getD 0)) (.int .i64 u.length) (.string mk) (.slice A n cp) (.string tx) (.int .i64 wi)
                refine bodyPost_ret (results_ct Tryd.results23 _ _ gr 28 (pcells ⟨st, u, mk, ps, tx, wi⟩ (.slice A n cp)) (0, 0) _ rfl hf.2.1 hup rfl (by kernel_rfl)) rfl ⟨.slice none 0 0, A, n, cp, ?_, by rw [HEP.out]; exact Kd.C_below HPS.out hf.2.2.2.2.2, ?_, hf.2.2.2.2.2, fun _ _ => .inl ⟨rfl, rfl⟩⟩
                · rw [HEP.out]; rfl
                · rw [HEP.out]; exact Kd.R_nil _ _ _ _ _
end Go.Proofs.YtkdkajcokoggiaaDoor.VtStr
