/- The parser's Feed as a contract. -/
import Derived.Test.YtkdkajcokoggiaaDoorVtGround
import Derived.Test.YtkdkajcokoggiaaDoorVtFeedK
import Derived.ScopeJumps
import Derived.WalkMore
namespace Go.Proofs.YtkdkajcokoggiaaDoor.VtFeedC
open Go.RowKit Go.Lib Go.Proofs.YtkdkajcokoggiaaDoor.Kit Go.Proofs.YtkdkajcokoggiaaDoor.Plain Go.Proofs.YtkdkajcokoggiaaDoor.Mine Go.Proofs.YtkdkajcokoggiaaDoor.UtfPure Go.Proofs.YtkdkajcokoggiaaDoor.UtfFull Go.Proofs.YtkdkajcokoggiaaDoor.UtfFeed Go.Proofs.YtkdkajcokoggiaaDoor.VtPure Go.Proofs.YtkdkajcokoggiaaDoor.VtSmall Go.Proofs.YtkdkajcokoggiaaDoor.VtEsc Go.Proofs.YtkdkajcokoggiaaDoor.VtStr Go.Proofs.YtkdkajcokoggiaaDoor.VtCsi Go.Proofs.YtkdkajcokoggiaaDoor.VtGround Go.Proofs.YtkdkajcokoggiaaDoor.VtFeedK Go.Proofs.YtkdkajcokoggiaaDoorW.PrintWords Go.Proofs.YtkdkajcokoggiaaDoorW.PrintLast Go.Proofs.YtkdkajcokoggiaaDoorW.PrintMore
open Go.Lib (Utf8Tabs)
open Go.Proofs.YtkdkajcokoggiaaDoor.PVtParts (S37 k37 k37_open k37_openM k37_mk k37_mkM)
set_option linter.unusedVariables false
set_option linter.unusedSimpArgs false
theorem V2.setp9 {w W : World} {g gr : Nat} {rc : Array Value} {r0 r1 r2 r3 r4 r5 r6 r7 r8 : Value} (h : V2 w W g gr #[r0, r1, r2, r3, r4, r5, r6, r7, r8] rc) (v0 v1 v2 v3 v4 v5 v6 v7 v8 : Value) :
    V2 w (((((((((W.setCell ⟨g, 0, none⟩ v0).setCell ⟨g, 1, none⟩ v1).setCell ⟨g, 2, none⟩ v2).setCell ⟨g, 3, none⟩ v3).setCell ⟨g, 4, none⟩ v4).setCell ⟨g, 5, none⟩ v5).setCell ⟨g, 6, none⟩ v6).setCell ⟨g, 7, none⟩ v7).setCell ⟨g, 8, none⟩ v8) g gr #[v0, v1, v2, v3, v4, v5, v6, v7, v8] rc := by
  have h0 : V2 w (W.setCell ⟨g, 0, none⟩ v0) g gr #[v0, r1, r2, r3, r4, r5, r6, r7, r8] rc := h.set_p 0 v0 rfl
  have h1 : V2 w ((W.setCell ⟨g, 0, none⟩ v0).setCell ⟨g, 1, none⟩ v1) g gr #[v0, v1, r2, r3, r4, r5, r6, r7, r8] rc := h0.set_p 1 v1 rfl
  have h2 : V2 w (((W.setCell ⟨g, 0, none⟩ v0).setCell ⟨g, 1, none⟩ v1).setCell ⟨g, 2, none⟩ v2) g gr #[v0, v1, v2, r3, r4, r5, r6, r7, r8] rc := h1.set_p 2 v2 rfl
  have h3 : V2 w ((((W.setCell ⟨g, 0, none⟩ v0).setCell ⟨g, 1, none⟩ v1).setCell ⟨g, 2, none⟩ v2).setCell ⟨g, 3, none⟩ v3) g gr #[v0, v1, v2, v3, r4, r5, r6, r7, r8] rc := h2.set_p 3 v3 rfl
  have h4 : V2 w (((((W.setCell ⟨g, 0, none⟩ v0).setCell ⟨g, 1, none⟩ v1).setCell ⟨g, 2, none⟩ v2).setCell ⟨g, 3, none⟩ v3).setCell ⟨g, 4, none⟩ v4) g gr #[v0, v1, v2, v3, v4, r5, r6, r7, r8] rc := h3.set_p 4 v4 rfl
  have h5 : V2 w ((((((W.setCell ⟨g, 0, none⟩ v0).setCell ⟨g, 1, none⟩ v1).setCell ⟨g, 2, none⟩ v2).setCell ⟨g, 3, none⟩ v3).setCell ⟨g, 4, none⟩ v4).setCell ⟨g, 5, none⟩ v5) g gr #[v0, v1, v2, v3, v4, v5, r6, r7, r8] rc := h4.set_p 5 v5 rfl
  have h6 : V2 w (((((((W.setCell ⟨g, 0, none⟩ v0).setCell ⟨g, 1, none⟩ v1).setCell ⟨g, 2, none⟩ v2).setCell ⟨g, 3, none⟩ v3).setCell ⟨g, 4, none⟩ v4).setCell ⟨g, 5, none⟩ v5).setCell ⟨g, 6, none⟩ v6) g gr #[v0, v1, v2, v3, v4, v5, v6, r7, r8] rc := h5.set_p 6 v6 rfl
  have h7 : V2 w ((((((((W.setCell ⟨g, 0, none⟩ v0).setCell ⟨g, 1, none⟩ v1).setCell ⟨g, 2, none⟩ v2).setCell ⟨g, 3, none⟩ v3).setCell ⟨g, 4, none⟩ v4).setCell ⟨g, 5, none⟩ v5).setCell ⟨g, 6, none⟩ v6).setCell ⟨g, 7, none⟩ v7) g gr #[v0, v1, v2, v3, v4, v5, v6, v7, r8] rc := h6.set_p 7 v7 rfl
  have h8 : V2 w (((((((((W.setCell ⟨g, 0, none⟩ v0).setCell ⟨g, 1, none⟩ v1).setCell ⟨g, 2, none⟩ v2).setCell ⟨g, 3, none⟩ v3).setCell ⟨g, 4, none⟩ v4).setCell ⟨g, 5, none⟩ v5).setCell ⟨g, 6, none⟩ v6).setCell ⟨g, 7, none⟩ v7).setCell ⟨g, 8, none⟩ v8) g gr #[v0, v1, v2, v3, v4, v5, v6, v7, v8] rc := h7.set_p 8 v8 rfl
  exact h8
set_option maxHeartbeats 6400000 in
set_option maxRecDepth 100000 in
theorem feed_7 (A : Option Addr) (n cp : Nat) (u : List Int) (mk tx : ByteArray) (ps : List Int) (wi : Int) (c : Int) (w : World) (hc : 0 ≤ c ∧ c < 256) (hps : Kd.C (Kd.int .i64) w A n ps)  :
    Calls Tryd.prog 14 #[pval ⟨7, u, mk, ps, tx, wi⟩ (.slice A n cp), .int .u8 c] w (PT w A n (feedP ⟨7, u, mk, ps, tx, wi⟩ c)) := by
  have hup := Tryd.underlying28
  have hua := Tryd.underlying37
  have hc1 := hc.1
  have hc2 : c ≤ 255 := by omega
  have HC := Aside0.mk hc
  have HPS := Aside0.mk hps
  clear hc hps
  by_cases h92 : c = 92
  · subst h92
    obtain ⟨pc, hpc⟩ : ∃ pc, pc = pcells ⟨7, u, mk, ps, tx, wi⟩ (.slice A n cp) := ⟨_, rfl⟩
    show Calls Tryd.prog _ #[.agg (pcells ⟨7, u, mk, ps, tx, wi⟩ (.slice A n cp)), .int .u8 92] w _
    rw [← hpc]
    have HPC := Aside0.mk hpc
    clear hpc
    go_enter Tryd.func14, Tryd.ntmps14
    go_wp2_with fail
    obtain ⟨g, hg⟩ : ∃ g, g = w.heap.size := ⟨_, rfl⟩
    obtain ⟨gr, hgr⟩ : ∃ gr, gr = w.heap.size + 1 := ⟨_, rfl⟩
    have HGG := Aside0.mk hg
    have HGR := Aside0.mk hgr
    clear hg hgr
    refine wp_scope_jumps 0 (fun a' w' => False) (fun _ _ => 0) rfl ?_ (fun _ _ h => h.elim)
    go_upto_region 0 with fail
    rw [← HGR.out, ← HGG.out]
    obtain ⟨wc, hwc⟩ : ∃ wc, wc = (w.alloc (.cells pc 28)).alloc (.cells zcells 28) := ⟨_, rfl⟩
    have HV := Aside0.mk (show V2 w wc g gr pc zcells from by rw [hwc, HGG.out, HGR.out]; exact V2.enter w pc zcells)
    rw [show (w.alloc (.cells pc 28)).alloc (.cells #[.int .i64 0, .int .u8 0, .int .u8 0, .int .u8 0, .int .i64 0, .string ⟨#[]⟩, .slice none 0 0, .string ⟨#[]⟩, .int .i64 0] 28) = wc from hwc.symm]
    clear hwc
    go_step3
    have HVW := Aside0.mk (show V2 w wc g gr (pcells ⟨7, u, mk, ps, tx, wi⟩ (.slice A n cp)) zcells from by have h := HV.out; rw [HPC.out] at h; exact h)
    obtain ⟨p0, p1, p2, p3, p4, p5, p6, p7, p8⟩ := HVW.out.cells rfl
    simp only at p0 p1 p2 p3 p4 p5 p6 p7 p8
    go_wp2_with fail
    refine (finish_p ⟨7, u, mk, ps, tx, wi⟩ (.slice A n cp) A n wi wc).mono ?_
    rintro e w5 h5
    obtain ⟨u5, A5, n5, cp5, rfl, hp5, hr5, hb5, hcl⟩ := h5
    have HCL := Aside0.mk hcl
    clear hcl
    obtain ⟨rr, hrr⟩ : ∃ rr, rr = finishP ⟨7, u, mk, ps, tx, wi⟩ wi := ⟨_, rfl⟩
    rw [← hrr] at hp5 hr5
    rw [← hrr]
    have HEP := Aside0.mk (show feedP ⟨7, u, mk, ps, tx, wi⟩ 92 = rr from Eq.trans (show _ = finishP ⟨7, u, mk, ps, tx, wi⟩ wi from rfl) hrr.symm)
    rw [show pval rr.1 (.slice A5 n5 cp5) = .agg #[.int .i64 rr.1.st, .int .u8 (rr.1.u[0]?.getD 0), .int .u8 (rr.1.u[1]?.getD 0), .int .u8 (rr.1.u[2]?.getD 0), .int .i64 rr.1.u.length, .string rr.1.mr, .slice A5 n5 cp5, .string rr.1.tx, .int .i64 rr.1.wi] from rfl]
    have HV5 := Aside0.mk (HVW.out.on hb5)
    have HP5 := Aside0.mk hp5
    have HR5 := Aside0.mk (Kd.R_lower (Kd.R_mono (ok' := fun k => k ≠ g ∧ k ≠ gr) (Kd.R_bound hr5) (fun k hk => by have a1 := hk.2.1; have a2 := blk_lt HVW.out.1; have a3 := blk_lt HVW.out.2.1; exact ⟨by omega, by omega⟩)) HVW.out.2.2.2.2.2.size)
    clear hp5 hr5 hb5 hrr
    clear p0 p1 p2 p3 p4 p5 p6 p7 p8
    obtain ⟨z0, z1, z2, z3, z4, z5, z6, z7, z8⟩ := HV5.out.zero
    obtain ⟨y0, y1, y2, y3, y4, y5, y6, y7, y8⟩ := HV5.out.thaw
    go_wp2
    try simp only [Exit.jump]
    have hf := HV5.out.ret (.int .i64 rr.1.st) (.int .u8 (rr.1.u[0]?.getD 0)) (.int .u8 (rr.1.u[1]?.getD 0)) (.int .u8 (rr.1.u[2]?.getD 0)) (.int .i64 rr.1.u.length) (.string rr.1.mr) (.slice A5 n5 cp5) (.string rr.1.tx) (.int .i64 rr.1.wi)
    refine bodyPost_ret (results_ct Tryd.results14 _ _ gr 28 (pcells rr.1 (.slice A5 n5 cp5)) (0, 0) _ rfl hf.2.1 hup rfl (by kernel_rfl)) rfl ⟨u5, A5, n5, cp5, ?_, by rw [HEP.out]; exact (c_far HPS.out HP5.out HCL.out (blk_lt HVW.out.2.1) HVW.out.2.2.2.1 (keep9 _ _ _ _ _ _ _ _ _ _ _)), ?_, hf.2.2.2.2.2, fun ad h => (HCL.out ad h).elim (fun e => .inl e) (fun h2 => .inr (Nat.le_trans HVW.out.2.2.2.2.2.size h2))⟩
    · rw [HEP.out]; rfl
    · rw [HEP.out]; exact Kd.R_mono (Kd.R_keep HR5.out (keep9 _ _ _ _ _ _ _ _ _ _ _) (fun k h => h.2)) (fun _ _ => trivial)
  · have HF7 := Aside0.mk (show ∀ x, feed2P (atP 1) c = x → feedP ⟨7, u, mk, ps, tx, wi⟩ c = x from fun x hx => by rw [← hx]; show (if c = 92 then _ else _) = _; rw [if_neg h92])
    have n92 : (c == 92) = false := beq_eq_false_iff_ne.mpr h92
    clear h92
    obtain ⟨pc, hpc⟩ : ∃ pc, pc = pcells ⟨7, u, mk, ps, tx, wi⟩ (.slice A n cp) := ⟨_, rfl⟩
    show Calls Tryd.prog _ #[.agg (pcells ⟨7, u, mk, ps, tx, wi⟩ (.slice A n cp)), .int .u8 c] w _
    rw [← hpc]
    have HPC := Aside0.mk hpc
    clear hpc
    go_enter Tryd.func14, Tryd.ntmps14
    go_wp2_with fail
    obtain ⟨g, hg⟩ : ∃ g, g = w.heap.size := ⟨_, rfl⟩
    obtain ⟨gr, hgr⟩ : ∃ gr, gr = w.heap.size + 1 := ⟨_, rfl⟩
    have HGG := Aside0.mk hg
    have HGR := Aside0.mk hgr
    clear hg hgr
    refine wp_scope_jumps 0 (fun a' w' => a' = { tmps := #[.agg pc, .int .u8 c, .pointer (some ⟨g, 0, none⟩), undef, .pointer (some ⟨gr, 0, none⟩), .slice none 0 0, .bool false, .pointer (some ⟨g, 0, none⟩), .int .i64 7, .bool false, undef, undef, undef, undef, undef, .bool true, .pointer (some ⟨g, 0, none⟩), .int .i64 7, .bool true, .int .u8 c, .bool false, undef, undef, undef, undef, undef, undef, .agg #[.int .i64 1, .int .u8 0, .int .u8 0, .int .u8 0, .int .i64 0, .string ⟨#[]⟩, .slice none 0 0, .string ⟨#[]⟩, .int .i64 0], undef, undef, undef, undef, undef, undef, undef, undef, undef, undef, undef, undef, undef, undef, undef, undef, undef, undef, undef, undef, undef, undef, undef, undef, undef, undef, undef, undef, undef, undef, undef, undef, undef, undef, undef, undef, undef, undef, undef, undef, undef, undef, undef, undef, undef, undef, undef, undef, undef, undef, undef], defers := [] } ∧ V2 w w' g gr (pcells (atP 1) (.slice none 0 0)) zcells) (fun _ _ => 0) rfl ?_ ?_
    · go_upto_region 0 with fail
      rw [← HGR.out, ← HGG.out]
      obtain ⟨wc, hwc⟩ : ∃ wc, wc = (w.alloc (.cells pc 28)).alloc (.cells zcells 28) := ⟨_, rfl⟩
      have HV := Aside0.mk (show V2 w wc g gr pc zcells from by rw [hwc, HGG.out, HGR.out]; exact V2.enter w pc zcells)
      rw [show (w.alloc (.cells pc 28)).alloc (.cells #[.int .i64 0, .int .u8 0, .int .u8 0, .int .u8 0, .int .i64 0, .string ⟨#[]⟩, .slice none 0 0, .string ⟨#[]⟩, .int .i64 0] 28) = wc from hwc.symm]
      clear hwc
      go_step3
      have HVW := Aside0.mk (show V2 w wc g gr (pcells ⟨7, u, mk, ps, tx, wi⟩ (.slice A n cp)) zcells from by have h := HV.out; rw [HPC.out] at h; exact h)
      obtain ⟨p0, p1, p2, p3, p4, p5, p6, p7, p8⟩ := HVW.out.cells rfl
      simp only at p0 p1 p2 p3 p4 p5 p6 p7 p8
      go_wp2_with fail
      refine (at0_c 1 _).mono ?_
      rintro e w1 ⟨rfl, hb⟩
      have HV1 := Aside0.mk (HVW.out.on hb)
      clear hb p0 p1 p2 p3 p4 p5 p6 p7 p8
      obtain ⟨p0, p1, p2, p3, p4, p5, p6, p7, p8⟩ := HV1.out.cells rfl
      simp only at p0 p1 p2 p3 p4 p5 p6 p7 p8
      obtain ⟨fp0, fp1, fp2, fp3, fp4, fp5, fp6, fp7, fp8⟩ := HV1.out.thawp
      go_wp2_with fail
      go_step3
      refine ⟨rfl, rfl, ?_⟩
      exact V2.setp9 HV1.out _ _ _ _ _ _ _ _ _
    · rintro a' wp ⟨rfl, hv⟩
      have HVW := Aside0.mk hv
      clear hv
      by_cases h24 : c = 24
      · subst h24
        have HEP := Aside0.mk (show feedP ⟨7, u, mk, ps, tx, wi⟩ 24 = (atP 0, []) from by refine HF7.out _ ?_; rfl)
        obtain ⟨p0, p1, p2, p3, p4, p5, p6, p7, p8⟩ := HVW.out.cells rfl
        replace p0 : wp.cell? ⟨g, 0, none⟩ = some (.int .i64 1) := p0
        replace p1 : wp.cell? ⟨g, 1, none⟩ = some (.int .u8 0) := p1
        replace p2 : wp.cell? ⟨g, 2, none⟩ = some (.int .u8 0) := p2
        replace p3 : wp.cell? ⟨g, 3, none⟩ = some (.int .u8 0) := p3
        replace p4 : wp.cell? ⟨g, 4, none⟩ = some (.int .i64 0) := p4
        replace p5 : wp.cell? ⟨g, 5, none⟩ = some (.string ⟨#[]⟩) := p5
        replace p7 : wp.cell? ⟨g, 7, none⟩ = some (.string ⟨#[]⟩) := p7
        replace p8 : wp.cell? ⟨g, 8, none⟩ = some (.int .i64 0) := p8
        go_wp2_with fail
        refine (at0_c 0 _).mono ?_
        rintro e w5 ⟨rfl, hb⟩
        have HV5 := Aside0.mk (HVW.out.on hb)
        clear hb
        clear p0 p1 p2 p3 p4 p5 p6 p7 p8
        obtain ⟨z0, z1, z2, z3, z4, z5, z6, z7, z8⟩ := HV5.out.zero
        obtain ⟨y0, y1, y2, y3, y4, y5, y6, y7, y8⟩ := HV5.out.thaw
        go_wp2
        try simp only [Exit.jump]
        have hf := HV5.out.ret (.int .i64 0) (.int .u8 0) (.int .u8 0) (.int .u8 0) (.int .i64 0) (.string ⟨#[]⟩) (.slice none 0 0) (.string ⟨#[]⟩) (.int .i64 0)
        refine bodyPost_ret (results_ct Tryd.results14 _ _ gr 28 (pcells (atP 0) (.slice none 0 0)) (0, 0) _ rfl hf.2.1 hup rfl (by kernel_rfl)) rfl ⟨.slice none 0 0, none, 0, 0, ?_, by rw [HEP.out]; exact Kd.C_nil _ _, ?_, hf.2.2.2.2.2, fun _ h => nomatch h⟩
        · rw [HEP.out]; rfl
        · rw [HEP.out]; exact Kd.R_nil _ _ _ _ _
      · by_cases h26 : c = 26
        · subst h26
          have HEP := Aside0.mk (show feedP ⟨7, u, mk, ps, tx, wi⟩ 26 = (atP 0, []) from by refine HF7.out _ ?_; rfl)
          obtain ⟨p0, p1, p2, p3, p4, p5, p6, p7, p8⟩ := HVW.out.cells rfl
          replace p0 : wp.cell? ⟨g, 0, none⟩ = some (.int .i64 1) := p0
          replace p1 : wp.cell? ⟨g, 1, none⟩ = some (.int .u8 0) := p1
          replace p2 : wp.cell? ⟨g, 2, none⟩ = some (.int .u8 0) := p2
          replace p3 : wp.cell? ⟨g, 3, none⟩ = some (.int .u8 0) := p3
          replace p4 : wp.cell? ⟨g, 4, none⟩ = some (.int .i64 0) := p4
          replace p5 : wp.cell? ⟨g, 5, none⟩ = some (.string ⟨#[]⟩) := p5
          replace p7 : wp.cell? ⟨g, 7, none⟩ = some (.string ⟨#[]⟩) := p7
          replace p8 : wp.cell? ⟨g, 8, none⟩ = some (.int .i64 0) := p8
          go_wp2_with fail
          refine (at0_c 0 _).mono ?_
          rintro e w5 ⟨rfl, hb⟩
          have HV5 := Aside0.mk (HVW.out.on hb)
          clear hb
          clear p0 p1 p2 p3 p4 p5 p6 p7 p8
          obtain ⟨z0, z1, z2, z3, z4, z5, z6, z7, z8⟩ := HV5.out.zero
          obtain ⟨y0, y1, y2, y3, y4, y5, y6, y7, y8⟩ := HV5.out.thaw
          go_wp2
          try simp only [Exit.jump]
          have hf := HV5.out.ret (.int .i64 0) (.int .u8 0) (.int .u8 0) (.int .u8 0) (.int .i64 0) (.string ⟨#[]⟩) (.slice none 0 0) (.string ⟨#[]⟩) (.int .i64 0)
          refine bodyPost_ret (results_ct Tryd.results14 _ _ gr 28 (pcells (atP 0) (.slice none 0 0)) (0, 0) _ rfl hf.2.1 hup rfl (by kernel_rfl)) rfl ⟨.slice none 0 0, none, 0, 0, ?_, by rw [HEP.out]; exact Kd.C_nil _ _, ?_, hf.2.2.2.2.2, fun _ h => nomatch h⟩
          · rw [HEP.out]; rfl
          · rw [HEP.out]; exact Kd.R_nil _ _ _ _ _
        · by_cases h27 : c = 27
          · subst h27
            have HEP := Aside0.mk (show feedP ⟨7, u, mk, ps, tx, wi⟩ 27 = (atP 1, []) from by refine HF7.out _ ?_; rfl)
            obtain ⟨p0, p1, p2, p3, p4, p5, p6, p7, p8⟩ := HVW.out.cells rfl
            replace p0 : wp.cell? ⟨g, 0, none⟩ = some (.int .i64 1) := p0
            replace p1 : wp.cell? ⟨g, 1, none⟩ = some (.int .u8 0) := p1
            replace p2 : wp.cell? ⟨g, 2, none⟩ = some (.int .u8 0) := p2
            replace p3 : wp.cell? ⟨g, 3, none⟩ = some (.int .u8 0) := p3
            replace p4 : wp.cell? ⟨g, 4, none⟩ = some (.int .i64 0) := p4
            replace p5 : wp.cell? ⟨g, 5, none⟩ = some (.string ⟨#[]⟩) := p5
            replace p7 : wp.cell? ⟨g, 7, none⟩ = some (.string ⟨#[]⟩) := p7
            replace p8 : wp.cell? ⟨g, 8, none⟩ = some (.int .i64 0) := p8
            go_wp2_with fail
            refine (at0_c 1 _).mono ?_
            rintro e w5 ⟨rfl, hb⟩
            have HV5 := Aside0.mk (HVW.out.on hb)
            clear hb
            clear p0 p1 p2 p3 p4 p5 p6 p7 p8
            obtain ⟨z0, z1, z2, z3, z4, z5, z6, z7, z8⟩ := HV5.out.zero
            obtain ⟨y0, y1, y2, y3, y4, y5, y6, y7, y8⟩ := HV5.out.thaw
            go_wp2
            try simp only [Exit.jump]
            have hf := HV5.out.ret (.int .i64 1) (.int .u8 0) (.int .u8 0) (.int .u8 0) (.int .i64 0) (.string ⟨#[]⟩) (.slice none 0 0) (.string ⟨#[]⟩) (.int .i64 0)
            refine bodyPost_ret (results_ct Tryd.results14 _ _ gr 28 (pcells (atP 1) (.slice none 0 0)) (0, 0) _ rfl hf.2.1 hup rfl (by kernel_rfl)) rfl ⟨.slice none 0 0, none, 0, 0, ?_, by rw [HEP.out]; exact Kd.C_nil _ _, ?_, hf.2.2.2.2.2, fun _ h => nomatch h⟩
            · rw [HEP.out]; rfl
            · rw [HEP.out]; exact Kd.R_nil _ _ _ _ _
          · have n24 : (c == 24) = false := beq_eq_false_iff_ne.mpr h24
            have n26 : (c == 26) = false := beq_eq_false_iff_ne.mpr h26
            have n27 : (c == 27) = false := beq_eq_false_iff_ne.mpr h27
            have h2426 : ¬ (c = 24 ∨ c = 26) := by omega
            by_cases h32 : c < 32
            · have d32 : decide (c < 32) = true := decide_eq_true h32
              have HEP := Aside0.mk (show feedP ⟨7, u, mk, ps, tx, wi⟩ c = ((atP 1), [execA c]) from by refine HF7.out _ ?_; rw [feed2P, if_neg h2426, if_neg h27, if_pos h32])
              obtain ⟨p0, p1, p2, p3, p4, p5, p6, p7, p8⟩ := HVW.out.cells rfl
              replace p0 : wp.cell? ⟨g, 0, none⟩ = some (.int .i64 1) := p0
              replace p1 : wp.cell? ⟨g, 1, none⟩ = some (.int .u8 0) := p1
              replace p2 : wp.cell? ⟨g, 2, none⟩ = some (.int .u8 0) := p2
              replace p3 : wp.cell? ⟨g, 3, none⟩ = some (.int .u8 0) := p3
              replace p4 : wp.cell? ⟨g, 4, none⟩ = some (.int .i64 0) := p4
              replace p5 : wp.cell? ⟨g, 5, none⟩ = some (.string ⟨#[]⟩) := p5
              replace p7 : wp.cell? ⟨g, 7, none⟩ = some (.string ⟨#[]⟩) := p7
              replace p8 : wp.cell? ⟨g, 8, none⟩ = some (.int .i64 0) := p8
              clear h24 h26 h27 h2426 h32
              obtain ⟨z0, z1, z2, z3, z4, z5, z6, z7, z8⟩ := HVW.out.zero
              obtain ⟨y0, y1, y2, y3, y4, y5, y6, y7, y8⟩ := HVW.out.thaw
              have hgg := HVW.out.2.2.2.2.1
              have hlr := blk_lt HVW.out.2.1
              have hlg := blk_lt HVW.out.1
              go_wp2
              try simp only [Exit.jump]
              have hf0 := HVW.out.ret (.int .i64 1) (.int .u8 0) (.int .u8 0) (.int .u8 0) (.int .i64 0) (.string ⟨#[]⟩) (.slice none 0 0) (.string ⟨#[]⟩) (.int .i64 0)
              have hf := hf0.on (below_alloc (Below.refl _ _) (.cells ([.int .i64 1, .int .i32 0, .int .u8 c, .string ⟨#[]⟩, .slice none 0 0, .string ⟨#[]⟩] : List Value).toArray 37))
              have hla := lit_act wp _ w.heap.size (execA c) [.int .i64 1, .int .i32 0, .int .u8 c, .string ⟨#[]⟩, .slice none 0 0, .string ⟨#[]⟩] (size9 wp gr (.int .i64 1) (.int .u8 0) (.int .u8 0) (.int .u8 0) (.int .i64 0) (.string ⟨#[]⟩) (.slice none 0 0) (.string ⟨#[]⟩) (.int .i64 0)) hf0.2.2.2.2.2.size rfl (k37_mkM _ _ _ (execA c) (Kd.R_nil _ _ _ _ _)) (fun ok => k37_mkM _ _ ok (execA c) (Kd.R_nil _ _ _ _ _))
              refine bodyPost_ret (results_ct Tryd.results14 _ _ gr 28 (pcells (atP 1) (.slice none 0 0)) (0, 0) _ rfl hf.2.1 hup rfl (by kernel_rfl)) rfl ⟨.slice (some ⟨wp.heap.size, 0, none⟩) 1 1, none, 0, 0, by rw [HEP.out]; rfl, by rw [HEP.out]; exact Kd.C_nil _ _, by rw [HEP.out]; exact hla, hf.2.2.2.2.2, fun _ h => nomatch h⟩
            · have d32 : decide (c < 32) = false := decide_eq_false h32
              by_cases h127 : 127 ≤ c
              · have d127 : decide (127 ≤ c) = true := decide_eq_true h127
                have HEP := Aside0.mk (show feedP ⟨7, u, mk, ps, tx, wi⟩ c = ((atP 1), []) from by refine HF7.out _ ?_; rw [feed2P, if_neg h2426, if_neg h27, if_neg h32, if_pos h127])
                obtain ⟨p0, p1, p2, p3, p4, p5, p6, p7, p8⟩ := HVW.out.cells rfl
                replace p0 : wp.cell? ⟨g, 0, none⟩ = some (.int .i64 1) := p0
                replace p1 : wp.cell? ⟨g, 1, none⟩ = some (.int .u8 0) := p1
                replace p2 : wp.cell? ⟨g, 2, none⟩ = some (.int .u8 0) := p2
                replace p3 : wp.cell? ⟨g, 3, none⟩ = some (.int .u8 0) := p3
                replace p4 : wp.cell? ⟨g, 4, none⟩ = some (.int .i64 0) := p4
                replace p5 : wp.cell? ⟨g, 5, none⟩ = some (.string ⟨#[]⟩) := p5
                replace p7 : wp.cell? ⟨g, 7, none⟩ = some (.string ⟨#[]⟩) := p7
                replace p8 : wp.cell? ⟨g, 8, none⟩ = some (.int .i64 0) := p8
                clear h24 h26 h27 h2426 h32 h127
                obtain ⟨z0, z1, z2, z3, z4, z5, z6, z7, z8⟩ := HVW.out.zero
                obtain ⟨y0, y1, y2, y3, y4, y5, y6, y7, y8⟩ := HVW.out.thaw
                have hgg := HVW.out.2.2.2.2.1
                go_wp2
                try simp only [Exit.jump]
                have hf := HVW.out.ret (.int .i64 1) (.int .u8 0) (.int .u8 0) (.int .u8 0) (.int .i64 0) (.string ⟨#[]⟩) (.slice none 0 0) (.string ⟨#[]⟩) (.int .i64 0)
                refine bodyPost_ret (results_ct Tryd.results14 _ _ gr 28 (pcells (atP 1) (.slice none 0 0)) (0, 0) _ rfl hf.2.1 hup rfl (by kernel_rfl)) rfl ⟨.slice none 0 0, none, 0, 0, ?_, by rw [HEP.out]; exact Kd.C_nil _ _, ?_, hf.2.2.2.2.2, fun _ h => nomatch h⟩
                · rw [HEP.out]; rfl
                · rw [HEP.out]; exact Kd.R_nil _ _ _ _ _
              · have d127 : decide (127 ≤ c) = false := decide_eq_false h127
                have FE : feedP ⟨7, u, mk, ps, tx, wi⟩ c = escapeP (atP 1) c := by refine HF7.out _ ?_; rw [feed2P, if_neg h2426, if_neg h27, if_neg h32, if_neg h127]; rfl
                obtain ⟨p0, p1, p2, p3, p4, p5, p6, p7, p8⟩ := HVW.out.cells rfl
                replace p0 : wp.cell? ⟨g, 0, none⟩ = some (.int .i64 1) := p0
                replace p1 : wp.cell? ⟨g, 1, none⟩ = some (.int .u8 0) := p1
                replace p2 : wp.cell? ⟨g, 2, none⟩ = some (.int .u8 0) := p2
                replace p3 : wp.cell? ⟨g, 3, none⟩ = some (.int .u8 0) := p3
                replace p4 : wp.cell? ⟨g, 4, none⟩ = some (.int .i64 0) := p4
                replace p5 : wp.cell? ⟨g, 5, none⟩ = some (.string ⟨#[]⟩) := p5
                replace p7 : wp.cell? ⟨g, 7, none⟩ = some (.string ⟨#[]⟩) := p7
                replace p8 : wp.cell? ⟨g, 8, none⟩ = some (.int .i64 0) := p8
                clear h24 h26 h27 h2426 h32 h127
                have HFE := Aside0.mk FE
                clear FE
                go_wp2_with fail
                refine (escape_c (atP 1) none 0 0 c wp HC.out (Kd.C_nil _ _)).mono ?_
                rintro e w5 h5
                obtain ⟨u5, A5, n5, cp5, rfl, hp5, hr5, hb5, hcl⟩ := h5
                have HCL := Aside0.mk hcl
                clear hcl
                obtain ⟨rr, hrr⟩ : ∃ rr, rr = escapeP (atP 1) c := ⟨_, rfl⟩
                rw [← hrr] at hp5 hr5
                rw [← hrr]
                have HEP := Aside0.mk (show feedP ⟨7, u, mk, ps, tx, wi⟩ c = rr from HFE.out.trans hrr.symm)
                rw [show pval rr.1 (.slice A5 n5 cp5) = .agg #[.int .i64 rr.1.st, .int .u8 (rr.1.u[0]?.getD 0), .int .u8 (rr.1.u[1]?.getD 0), .int .u8 (rr.1.u[2]?.getD 0), .int .i64 rr.1.u.length, .string rr.1.mr, .slice A5 n5 cp5, .string rr.1.tx, .int .i64 rr.1.wi] from rfl]
                have HV5 := Aside0.mk (HVW.out.on hb5)
                have HP5 := Aside0.mk hp5
                have HR5 := Aside0.mk (Kd.R_lower (Kd.R_mono (ok' := fun k => k ≠ g ∧ k ≠ gr) (Kd.R_bound hr5) (fun k hk => by have a1 := hk.2.1; have a2 := blk_lt HVW.out.1; have a3 := blk_lt HVW.out.2.1; exact ⟨by omega, by omega⟩)) HVW.out.2.2.2.2.2.size)
                clear hp5 hr5 hb5 hrr
                clear p0 p1 p2 p3 p4 p5 p6 p7 p8
                obtain ⟨z0, z1, z2, z3, z4, z5, z6, z7, z8⟩ := HV5.out.zero
                obtain ⟨y0, y1, y2, y3, y4, y5, y6, y7, y8⟩ := HV5.out.thaw
                go_wp2
                try simp only [Exit.jump]
                have hf := HV5.out.ret (.int .i64 rr.1.st) (.int .u8 (rr.1.u[0]?.getD 0)) (.int .u8 (rr.1.u[1]?.getD 0)) (.int .u8 (rr.1.u[2]?.getD 0)) (.int .i64 rr.1.u.length) (.string rr.1.mr) (.slice A5 n5 cp5) (.string rr.1.tx) (.int .i64 rr.1.wi)
                refine bodyPost_ret (results_ct Tryd.results14 _ _ gr 28 (pcells rr.1 (.slice A5 n5 cp5)) (0, 0) _ rfl hf.2.1 hup rfl (by kernel_rfl)) rfl ⟨u5, A5, n5, cp5, ?_, by rw [HEP.out]; exact (c_far (Kd.C_nil (Kd.int .i64) w) HP5.out HCL.out (blk_lt HVW.out.2.1) HVW.out.2.2.2.1 (keep9 _ _ _ _ _ _ _ _ _ _ _)), ?_, hf.2.2.2.2.2, fun ad h => (HCL.out ad h).elim (fun e => absurd (e.1.symm.trans h) (by simp)) (fun h2 => .inr (Nat.le_trans HVW.out.2.2.2.2.2.size h2))⟩
                · rw [HEP.out]; rfl
                · rw [HEP.out]; exact Kd.R_mono (Kd.R_keep HR5.out (keep9 _ _ _ _ _ _ _ _ _ _ _) (fun k h => h.2)) (fun _ _ => trivial)
end Go.Proofs.YtkdkajcokoggiaaDoor.VtFeedC
