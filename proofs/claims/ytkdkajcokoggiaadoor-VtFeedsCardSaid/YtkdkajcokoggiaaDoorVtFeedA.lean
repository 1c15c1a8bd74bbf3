/- The parser's Feed as a contract. -/
import Derived.Test.YtkdkajcokoggiaaDoorVtGround
import Derived.Test.YtkdkajcokoggiaaDoorVtFeedK
import Derived.ScopeJumps
import Derived.WalkMore
namespace Go.Proofs.YtkdkajcokoggiaaDoor.VtFeedA
open Go.RowKit Go.Lib Go.Proofs.YtkdkajcokoggiaaDoor.Kit Go.Proofs.YtkdkajcokoggiaaDoor.Plain Go.Proofs.YtkdkajcokoggiaaDoor.Mine Go.Proofs.YtkdkajcokoggiaaDoor.UtfPure Go.Proofs.YtkdkajcokoggiaaDoor.UtfFull Go.Proofs.YtkdkajcokoggiaaDoor.UtfFeed Go.Proofs.YtkdkajcokoggiaaDoor.VtPure Go.Proofs.YtkdkajcokoggiaaDoor.VtSmall Go.Proofs.YtkdkajcokoggiaaDoor.VtEsc Go.Proofs.YtkdkajcokoggiaaDoor.VtStr Go.Proofs.YtkdkajcokoggiaaDoor.VtCsi Go.Proofs.YtkdkajcokoggiaaDoor.VtGround Go.Proofs.YtkdkajcokoggiaaDoor.VtFeedK Go.Proofs.YtkdkajcokoggiaaDoorW.PrintWords Go.Proofs.YtkdkajcokoggiaaDoorW.PrintLast Go.Proofs.YtkdkajcokoggiaaDoorW.PrintMore
open Go.Lib (Utf8Tabs)
open Go.Proofs.YtkdkajcokoggiaaDoor.PVtParts (S37 k37 k37_open k37_openM k37_mk k37_mkM)
set_option linter.unusedVariables false
set_option linter.unusedSimpArgs false
set_option maxHeartbeats 6400000 in
set_option maxRecDepth 100000 in
theorem feed_1 (A : Option Addr) (n cp : Nat) (u : List Int) (mk tx : ByteArray) (ps : List Int) (wi : Int) (c : Int) (w : World) (hc : 0 ≤ c ∧ c < 256) (hps : Kd.C (Kd.int .i64) w A n ps)  :
    Calls Tryd.prog 14 #[pval ⟨1, u, mk, ps, tx, wi⟩ (.slice A n cp), .int .u8 c] w (PT w A n (feedP ⟨1, u, mk, ps, tx, wi⟩ c)) := by
  have hup := Tryd.underlying28
  have hua := Tryd.underlying37
  have hc1 := hc.1
  have hc2 : c ≤ 255 := by omega
  have HC := Aside0.mk hc
  have HPS := Aside0.mk hps
  clear hc hps
  obtain ⟨pc, hpc⟩ : ∃ pc, pc = pcells ⟨1, u, mk, ps, tx, wi⟩ (.slice A n cp) := ⟨_, rfl⟩
  show Calls Tryd.prog _ #[.agg (pcells ⟨1, u, mk, ps, tx, wi⟩ (.slice A n cp)), .int .u8 c] w _
  rw [← hpc]
  have HPC := Aside0.mk hpc
  clear hpc
  go_enter Tryd.func14, Tryd.ntmps14
  go_wp2_with fail
  obtain ⟨g, hg⟩ : ∃ g, g = w.heap.size := ⟨_, rfl⟩
  obtain ⟨gr, hgr⟩ : ∃ gr, gr = w.heap.size + 1 := ⟨_, rfl⟩
  have HGG := Aside0.mk hg
  have HGR := Aside0.mk hgr
  clear hg hgr
  refine wp_scope_jumps 0 (fun a' w' => False) (fun _ _ => 0) rfl ?_ (fun _ _ h => h.elim)
  go_upto_region 0 with fail
  rw [← HGR.out, ← HGG.out]
  obtain ⟨wc, hwc⟩ : ∃ wc, wc = (w.alloc (.cells pc 28)).alloc (.cells zcells 28) := ⟨_, rfl⟩
  have HV := Aside0.mk (show V2 w wc g gr pc zcells from by rw [hwc, HGG.out, HGR.out]; exact V2.enter w pc zcells)
  rw [show (w.alloc (.cells pc 28)).alloc (.cells #[.int .i64 0, .int .u8 0, .int .u8 0, .int .u8 0, .int .i64 0, .string ⟨#[]⟩, .slice none 0 0, .string ⟨#[]⟩, .int .i64 0] 28) = wc from hwc.symm]
  clear hwc
  go_step3
  have HVW := Aside0.mk (show V2 w wc g gr (pcells ⟨1, u, mk, ps, tx, wi⟩ (.slice A n cp)) zcells from by have h := HV.out; rw [HPC.out] at h; exact h)
  by_cases h24 : c = 24
  · subst h24
    have HEP := Aside0.mk (show feedP ⟨1, u, mk, ps, tx, wi⟩ 24 = (atP 0, []) from by rfl)
    obtain ⟨p0, p1, p2, p3, p4, p5, p6, p7, p8⟩ := HVW.out.cells rfl
    simp only at p0 p1 p2 p3 p4 p5 p6 p7 p8
    go_wp2_with fail
    refine (at0_c 0 _).mono ?_
    rintro e w5 ⟨rfl, hb⟩
    have HV5 := Aside0.mk (HVW.out.on hb)
    clear hb
    clear p0 p1 p2 p3 p4 p5 p6 p7 p8
    obtain ⟨z0, z1, z2, z3, z4, z5, z6, z7, z8⟩ := HV5.out.zero
    obtain ⟨y0, y1, y2, y3, y4, y5, y6, y7, y8⟩ := HV5.out.thaw
    go_wp2
    try simp only [Exit.jump]
    have hf := HV5.out.ret (.int .i64 0) (.int .u8 0) (.int .u8 0) (.int .u8 0) (.int .i64 0) (.string ⟨#[]⟩) (.slice none 0 0) (.string ⟨#[]⟩) (.int .i64 0)
    refine bodyPost_ret (results_ct Tryd.results14 _ _ gr 28 (pcells (atP 0) (.slice none 0 0)) (0, 0) _ rfl hf.2.1 hup rfl (by kernel_rfl)) rfl ⟨.slice none 0 0, none, 0, 0, ?_, by rw [HEP.out]; exact Kd.C_nil _ _, ?_, hf.2.2.2.2.2, fun _ h => nomatch h⟩
    · rw [HEP.out]; rfl
    · rw [HEP.out]; exact Kd.R_nil _ _ _ _ _
  · by_cases h26 : c = 26
    · subst h26
      have HEP := Aside0.mk (show feedP ⟨1, u, mk, ps, tx, wi⟩ 26 = (atP 0, []) from by rfl)
      obtain ⟨p0, p1, p2, p3, p4, p5, p6, p7, p8⟩ := HVW.out.cells rfl
      simp only at p0 p1 p2 p3 p4 p5 p6 p7 p8
      go_wp2_with fail
      refine (at0_c 0 _).mono ?_
      rintro e w5 ⟨rfl, hb⟩
      have HV5 := Aside0.mk (HVW.out.on hb)
      clear hb
      clear p0 p1 p2 p3 p4 p5 p6 p7 p8
      obtain ⟨z0, z1, z2, z3, z4, z5, z6, z7, z8⟩ := HV5.out.zero
      obtain ⟨y0, y1, y2, y3, y4, y5, y6, y7, y8⟩ := HV5.out.thaw
      go_wp2
      try simp only [Exit.jump]
      have hf := HV5.out.ret (.int .i64 0) (.int .u8 0) (.int .u8 0) (.int .u8 0) (.int .i64 0) (.string ⟨#[]⟩) (.slice none 0 0) (.string ⟨#[]⟩) (.int .i64 0)
      refine bodyPost_ret (results_ct Tryd.results14 _ _ gr 28 (pcells (atP 0) (.slice none 0 0)) (0, 0) _ rfl hf.2.1 hup rfl (by kernel_rfl)) rfl ⟨.slice none 0 0, none, 0, 0, ?_, by rw [HEP.out]; exact Kd.C_nil _ _, ?_, hf.2.2.2.2.2, fun _ h => nomatch h⟩
      · rw [HEP.out]; rfl
      · rw [HEP.out]; exact Kd.R_nil _ _ _ _ _
    · by_cases h27 : c = 27
      · subst h27
        have HEP := Aside0.mk (show feedP ⟨1, u, mk, ps, tx, wi⟩ 27 = (atP 1, []) from by rfl)
        obtain ⟨p0, p1, p2, p3, p4, p5, p6, p7, p8⟩ := HVW.out.cells rfl
        simp only at p0 p1 p2 p3 p4 p5 p6 p7 p8
        go_wp2_with fail
        refine (at0_c 1 _).mono ?_
        rintro e w5 ⟨rfl, hb⟩
        have HV5 := Aside0.mk (HVW.out.on hb)
        clear hb
        clear p0 p1 p2 p3 p4 p5 p6 p7 p8
        obtain ⟨z0, z1, z2, z3, z4, z5, z6, z7, z8⟩ := HV5.out.zero
        obtain ⟨y0, y1, y2, y3, y4, y5, y6, y7, y8⟩ := HV5.out.thaw
        go_wp2
        try simp only [Exit.jump]
        have hf := HV5.out.ret (.int .i64 1) (.int .u8 0) (.int .u8 0) (.int .u8 0) (.int .i64 0) (.string ⟨#[]⟩) (.slice none 0 0) (.string ⟨#[]⟩) (.int .i64 0)
        refine bodyPost_ret (results_ct Tryd.results14 _ _ gr 28 (pcells (atP 1) (.slice none 0 0)) (0, 0) _ rfl hf.2.1 hup rfl (by kernel_rfl)) rfl ⟨.slice none 0 0, none, 0, 0, ?_, by rw [HEP.out]; exact Kd.C_nil _ _, ?_, hf.2.2.2.2.2, fun _ h => nomatch h⟩
        · rw [HEP.out]; rfl
        · rw [HEP.out]; exact Kd.R_nil _ _ _ _ _
      · have n24 : (c == 24) = false := beq_eq_false_iff_ne.mpr h24
        have n26 : (c == 26) = false := beq_eq_false_iff_ne.mpr h26
        have n27 : (c == 27) = false := beq_eq_false_iff_ne.mpr h27
        have h2426 : ¬ (c = 24 ∨ c = 26) := by omega
        by_cases h32 : c < 32
        · have d32 : decide (c < 32) = true := decide_eq_true h32
          have HEP := Aside0.mk (show feedP ⟨1, u, mk, ps, tx, wi⟩ c = (⟨1, u, mk, ps, tx, wi⟩, [execA c]) from by show feed2P ⟨1, u, mk, ps, tx, wi⟩ _ = _; rw [feed2P, if_neg h2426, if_neg h27, if_pos h32])
          obtain ⟨p0, p1, p2, p3, p4, p5, p6, p7, p8⟩ := HVW.out.cells rfl
          simp only at p0 p1 p2 p3 p4 p5 p6 p7 p8
          clear h24 h26 h27 h2426 h32
          obtain ⟨z0, z1, z2, z3, z4, z5, z6, z7, z8⟩ := HVW.out.zero
          obtain ⟨y0, y1, y2, y3, y4, y5, y6, y7, y8⟩ := HVW.out.thaw
          have hgg := HVW.out.2.2.2.2.1
          have hlr := blk_lt HVW.out.2.1
          have hlg := blk_lt HVW.out.1
          go_wp2
          try simp only [Exit.jump]
          have hf0 := HVW.out.ret (.int .i64 1) (.int .u8 (u[0]?.getD 0)) (.int .u8 (u[1]?.getD 0)) (.int .u8 (u[2]?.getD 0)) (.int .i64 u.length) (.string mk) (.slice A n cp) (.string tx) (.int .i64 wi)
          have hf := hf0.on (below_alloc (Below.refl _ _) (.cells ([.int .i64 1, .int .i32 0, .int .u8 c, .string ⟨#[]⟩, .slice none 0 0, .string ⟨#[]⟩] : List Value).toArray 37))
          have hla := lit_act wc _ w.heap.size (execA c) [.int .i64 1, .int .i32 0, .int .u8 c, .string ⟨#[]⟩, .slice none 0 0, .string ⟨#[]⟩] (size9 wc gr (.int .i64 1) (.int .u8 (u[0]?.getD 0)) (.int .u8 (u[1]?.getD 0)) (.int .u8 (u[2]?.getD 0)) (.int .i64 u.length) (.string mk) (.slice A n cp) (.string tx) (.int .i64 wi)) hf0.2.2.2.2.2.size rfl (k37_mkM _ _ _ (execA c) (Kd.R_nil _ _ _ _ _)) (fun ok => k37_mkM _ _ ok (execA c) (Kd.R_nil _ _ _ _ _))
          refine bodyPost_ret (results_ct Tryd.results14 _ _ gr 28 (pcells ⟨1, u, mk, ps, tx, wi⟩ (.slice A n cp)) (0, 0) _ rfl hf.2.1 hup rfl (by kernel_rfl)) rfl ⟨.slice (some ⟨wc.heap.size, 0, none⟩) 1 1, A, n, cp, by rw [HEP.out]; rfl, by rw [HEP.out]; exact Kd.C_below HPS.out hf.2.2.2.2.2, by rw [HEP.out]; exact hla, hf.2.2.2.2.2, fun _ _ => .inl ⟨rfl, rfl⟩⟩
        · have d32 : decide (c < 32) = false := decide_eq_false h32
          by_cases h127 : 127 ≤ c
          · have d127 : decide (127 ≤ c) = true := decide_eq_true h127
            have HEP := Aside0.mk (show feedP ⟨1, u, mk, ps, tx, wi⟩ c = (⟨1, u, mk, ps, tx, wi⟩, []) from by show feed2P ⟨1, u, mk, ps, tx, wi⟩ _ = _; rw [feed2P, if_neg h2426, if_neg h27, if_neg h32, if_pos h127])
            obtain ⟨p0, p1, p2, p3, p4, p5, p6, p7, p8⟩ := HVW.out.cells rfl
            simp only at p0 p1 p2 p3 p4 p5 p6 p7 p8
            clear h24 h26 h27 h2426 h32 h127
            obtain ⟨z0, z1, z2, z3, z4, z5, z6, z7, z8⟩ := HVW.out.zero
            obtain ⟨y0, y1, y2, y3, y4, y5, y6, y7, y8⟩ := HVW.out.thaw
            have hgg := HVW.out.2.2.2.2.1
            go_wp2
            try simp only [Exit.jump]
            have hf := HVW.out.ret (.int .i64 1) (.int .u8 (u[0]?.getD 0)) (.int .u8 (u[1]?.getD 0)) (.int .u8 (u[2]?.getD 0)) (.int .i64 u.length) (.string mk) (.slice A n cp) (.string tx) (.int .i64 wi)
            refine bodyPost_ret (results_ct Tryd.results14 _ _ gr 28 (pcells ⟨1, u, mk, ps, tx, wi⟩ (.slice A n cp)) (0, 0) _ rfl hf.2.1 hup rfl (by kernel_rfl)) rfl ⟨.slice none 0 0, A, n, cp, ?_, by rw [HEP.out]; exact Kd.C_below HPS.out hf.2.2.2.2.2, ?_, hf.2.2.2.2.2, fun _ _ => .inl ⟨rfl, rfl⟩⟩
            · rw [HEP.out]; rfl
            · rw [HEP.out]; exact Kd.R_nil _ _ _ _ _
          · have d127 : decide (127 ≤ c) = false := decide_eq_false h127
            have FE : feedP ⟨1, u, mk, ps, tx, wi⟩ c = escapeP ⟨1, u, mk, ps, tx, wi⟩ c := by show feed2P ⟨1, u, mk, ps, tx, wi⟩ _ = _; rw [feed2P, if_neg h2426, if_neg h27, if_neg h32, if_neg h127]; rfl
            obtain ⟨p0, p1, p2, p3, p4, p5, p6, p7, p8⟩ := HVW.out.cells rfl
            simp only at p0 p1 p2 p3 p4 p5 p6 p7 p8
            clear h24 h26 h27 h2426 h32 h127
            go_wp2_with fail
            refine (escape_c ⟨1, u, mk, ps, tx, wi⟩ A n cp c wc HC.out (Kd.C_below HPS.out HVW.out.2.2.2.2.2)).mono ?_
            rintro e w5 h5
            obtain ⟨u5, A5, n5, cp5, rfl, hp5, hr5, hb5, hcl⟩ := h5
            have HCL := Aside0.mk hcl
            clear hcl
            obtain ⟨rr, hrr⟩ : ∃ rr, rr = escapeP ⟨1, u, mk, ps, tx, wi⟩ c := ⟨_, rfl⟩
            rw [← hrr] at hp5 hr5
            rw [← hrr]
            have HEP := Aside0.mk (show feedP ⟨1, u, mk, ps, tx, wi⟩ c = rr from by rw [hrr]; exact (FE))
            rw [show pval rr.1 (.slice A5 n5 cp5) = .agg #[.int .i64 rr.1.st, .int .u8 (rr.1.u[0]?.getD 0), .int .u8 (rr.1.u[1]?.getD 0), .int .u8 (rr.1.u[2]?.getD 0), .int .i64 rr.1.u.length, .string rr.1.mr, .slice A5 n5 cp5, .string rr.1.tx, .int .i64 rr.1.wi] from rfl]
            have HV5 := Aside0.mk (HVW.out.on hb5)
            have HP5 := Aside0.mk hp5
            have HR5 := Aside0.mk (Kd.R_lower (Kd.R_mono (ok' := fun k => k ≠ g ∧ k ≠ gr) (Kd.R_bound hr5) (fun k hk => by have a1 := hk.2.1; have a2 := blk_lt HVW.out.1; have a3 := blk_lt HVW.out.2.1; exact ⟨by omega, by omega⟩)) HVW.out.2.2.2.2.2.size)
            clear hp5 hr5 hb5 hrr
            clear p0 p1 p2 p3 p4 p5 p6 p7 p8
            obtain ⟨z0, z1, z2, z3, z4, z5, z6, z7, z8⟩ := HV5.out.zero
            obtain ⟨y0, y1, y2, y3, y4, y5, y6, y7, y8⟩ := HV5.out.thaw
            go_wp2
            try simp only [Exit.jump]
            have hf := HV5.out.ret (.int .i64 rr.1.st) (.int .u8 (rr.1.u[0]?.getD 0)) (.int .u8 (rr.1.u[1]?.getD 0)) (.int .u8 (rr.1.u[2]?.getD 0)) (.int .i64 rr.1.u.length) (.string rr.1.mr) (.slice A5 n5 cp5) (.string rr.1.tx) (.int .i64 rr.1.wi)
            refine bodyPost_ret (results_ct Tryd.results14 _ _ gr 28 (pcells rr.1 (.slice A5 n5 cp5)) (0, 0) _ rfl hf.2.1 hup rfl (by kernel_rfl)) rfl ⟨u5, A5, n5, cp5, ?_, by rw [HEP.out]; exact (c_far HPS.out HP5.out HCL.out (blk_lt HVW.out.2.1) HVW.out.2.2.2.1 (keep9 _ _ _ _ _ _ _ _ _ _ _)), ?_, hf.2.2.2.2.2, fun ad h => (HCL.out ad h).elim (fun e => .inl e) (fun h2 => .inr (Nat.le_trans HVW.out.2.2.2.2.2.size h2))⟩
            · rw [HEP.out]; rfl
            · rw [HEP.out]; exact Kd.R_mono (Kd.R_keep HR5.out (keep9 _ _ _ _ _ _ _ _ _ _ _) (fun k h => h.2)) (fun _ _ => trivial)
set_option maxHeartbeats 6400000 in
set_option maxRecDepth 100000 in
theorem feed_2 (A : Option Addr) (n cp : Nat) (u : List Int) (mk tx : ByteArray) (ps : List Int) (wi : Int) (c : Int) (w : World) (hc : 0 ≤ c ∧ c < 256) (hps : Kd.C (Kd.int .i64) w A n ps)  :
    Calls Tryd.prog 14 #[pval ⟨2, u, mk, ps, tx, wi⟩ (.slice A n cp), .int .u8 c] w (PT w A n (feedP ⟨2, u, mk, ps, tx, wi⟩ c)) := by
  have hup := Tryd.underlying28
  have hua := Tryd.underlying37
  have hc1 := hc.1
  have hc2 : c ≤ 255 := by omega
  have HC := Aside0.mk hc
  have HPS := Aside0.mk hps
  clear hc hps
  obtain ⟨pc, hpc⟩ : ∃ pc, pc = pcells ⟨2, u, mk, ps, tx, wi⟩ (.slice A n cp) := ⟨_, rfl⟩
  show Calls Tryd.prog _ #[.agg (pcells ⟨2, u, mk, ps, tx, wi⟩ (.slice A n cp)), .int .u8 c] w _
  rw [← hpc]
  have HPC := Aside0.mk hpc
  clear hpc
  go_enter Tryd.func14, Tryd.ntmps14
  go_wp2_with fail
  obtain ⟨g, hg⟩ : ∃ g, g = w.heap.size := ⟨_, rfl⟩
  obtain ⟨gr, hgr⟩ : ∃ gr, gr = w.heap.size + 1 := ⟨_, rfl⟩
  have HGG := Aside0.mk hg
  have HGR := Aside0.mk hgr
  clear hg hgr
  refine wp_scope_jumps 0 (fun a' w' => False) (fun _ _ => 0) rfl ?_ (fun _ _ h => h.elim)
  go_upto_region 0 with fail
  rw [← HGR.out, ← HGG.out]
  obtain ⟨wc, hwc⟩ : ∃ wc, wc = (w.alloc (.cells pc 28)).alloc (.cells zcells 28) := ⟨_, rfl⟩
  have HV := Aside0.mk (show V2 w wc g gr pc zcells from by rw [hwc, HGG.out, HGR.out]; exact V2.enter w pc zcells)
  rw [show (w.alloc (.cells pc 28)).alloc (.cells #[.int .i64 0, .int .u8 0, .int .u8 0, .int .u8 0, .int .i64 0, .string ⟨#[]⟩, .slice none 0 0, .string ⟨#[]⟩, .int .i64 0] 28) = wc from hwc.symm]
  clear hwc
  go_step3
  have HVW := Aside0.mk (show V2 w wc g gr (pcells ⟨2, u, mk, ps, tx, wi⟩ (.slice A n cp)) zcells from by have h := HV.out; rw [HPC.out] at h; exact h)
  by_cases h24 : c = 24
  · subst h24
    have HEP := Aside0.mk (show feedP ⟨2, u, mk, ps, tx, wi⟩ 24 = (atP 0, []) from by rfl)
    obtain ⟨p0, p1, p2, p3, p4, p5, p6, p7, p8⟩ := HVW.out.cells rfl
    simp only at p0 p1 p2 p3 p4 p5 p6 p7 p8
    go_wp2_with fail
    refine (at0_c 0 _).mono ?_
    rintro e w5 ⟨rfl, hb⟩
    have HV5 := Aside0.mk (HVW.out.on hb)
    clear hb
    clear p0 p1 p2 p3 p4 p5 p6 p7 p8
    obtain ⟨z0, z1, z2, z3, z4, z5, z6, z7, z8⟩ := HV5.out.zero
    obtain ⟨y0, y1, y2, y3, y4, y5, y6, y7, y8⟩ := HV5.out.thaw
    go_wp2
    try simp only [Exit.jump]
    have hf := HV5.out.ret (.int .i64 0) (.int .u8 0) (.int .u8 0) (.int .u8 0) (.int .i64 0) (.string ⟨#[]⟩) (.slice none 0 0) (.string ⟨#[]⟩) (.int .i64 0)
    refine bodyPost_ret (results_ct Tryd.results14 _ _ gr 28 (pcells (atP 0) (.slice none 0 0)) (0, 0) _ rfl hf.2.1 hup rfl (by kernel_rfl)) rfl ⟨.slice none 0 0, none, 0, 0, ?_, by rw [HEP.out]; exact Kd.C_nil _ _, ?_, hf.2.2.2.2.2, fun _ h => nomatch h⟩
    · rw [HEP.out]; rfl
    · rw [HEP.out]; exact Kd.R_nil _ _ _ _ _
  · by_cases h26 : c = 26
    · subst h26
      have HEP := Aside0.mk (show feedP ⟨2, u, mk, ps, tx, wi⟩ 26 = (atP 0, []) from by rfl)
      obtain ⟨p0, p1, p2, p3, p4, p5, p6, p7, p8⟩ := HVW.out.cells rfl
      simp only at p0 p1 p2 p3 p4 p5 p6 p7 p8
      go_wp2_with fail
      refine (at0_c 0 _).mono ?_
      rintro e w5 ⟨rfl, hb⟩
      have HV5 := Aside0.mk (HVW.out.on hb)
      clear hb
      clear p0 p1 p2 p3 p4 p5 p6 p7 p8
      obtain ⟨z0, z1, z2, z3, z4, z5, z6, z7, z8⟩ := HV5.out.zero
      obtain ⟨y0, y1, y2, y3, y4, y5, y6, y7, y8⟩ := HV5.out.thaw
      go_wp2
      try simp only [Exit.jump]
      have hf := HV5.out.ret (.int .i64 0) (.int .u8 0) (.int .u8 0) (.int .u8 0) (.int .i64 0) (.string ⟨#[]⟩) (.slice none 0 0) (.string ⟨#[]⟩) (.int .i64 0)
      refine bodyPost_ret (results_ct Tryd.results14 _ _ gr 28 (pcells (atP 0) (.slice none 0 0)) (0, 0) _ rfl hf.2.1 hup rfl (by kernel_rfl)) rfl ⟨.slice none 0 0, none, 0, 0, ?_, by rw [HEP.out]; exact Kd.C_nil _ _, ?_, hf.2.2.2.2.2, fun _ h => nomatch h⟩
      · rw [HEP.out]; rfl
      · rw [HEP.out]; exact Kd.R_nil _ _ _ _ _
    · by_cases h27 : c = 27
      · subst h27
        have HEP := Aside0.mk (show feedP ⟨2, u, mk, ps, tx, wi⟩ 27 = (atP 1, []) from by rfl)
        obtain ⟨p0, p1, p2, p3, p4, p5, p6, p7, p8⟩ := HVW.out.cells rfl
        simp only at p0 p1 p2 p3 p4 p5 p6 p7 p8
        go_wp2_with fail
        refine (at0_c 1 _).mono ?_
        rintro e w5 ⟨rfl, hb⟩
        have HV5 := Aside0.mk (HVW.out.on hb)
        clear hb
        clear p0 p1 p2 p3 p4 p5 p6 p7 p8
        obtain ⟨z0, z1, z2, z3, z4, z5, z6, z7, z8⟩ := HV5.out.zero
        obtain ⟨y0, y1, y2, y3, y4, y5, y6, y7, y8⟩ := HV5.out.thaw
        go_wp2
        try simp only [Exit.jump]
        have hf := HV5.out.ret (.int .i64 1) (.int .u8 0) (.int .u8 0) (.int .u8 0) (.int .i64 0) (.string ⟨#[]⟩) (.slice none 0 0) (.string ⟨#[]⟩) (.int .i64 0)
        refine bodyPost_ret (results_ct Tryd.results14 _ _ gr 28 (pcells (atP 1) (.slice none 0 0)) (0, 0) _ rfl hf.2.1 hup rfl (by kernel_rfl)) rfl ⟨.slice none 0 0, none, 0, 0, ?_, by rw [HEP.out]; exact Kd.C_nil _ _, ?_, hf.2.2.2.2.2, fun _ h => nomatch h⟩
        · rw [HEP.out]; rfl
        · rw [HEP.out]; exact Kd.R_nil _ _ _ _ _
      · have n24 : (c == 24) = false := beq_eq_false_iff_ne.mpr h24
        have n26 : (c == 26) = false := beq_eq_false_iff_ne.mpr h26
        have n27 : (c == 27) = false := beq_eq_false_iff_ne.mpr h27
        have h2426 : ¬ (c = 24 ∨ c = 26) := by omega
        by_cases h32 : c < 32
        · have d32 : decide (c < 32) = true := decide_eq_true h32
          have HEP := Aside0.mk (show feedP ⟨2, u, mk, ps, tx, wi⟩ c = (⟨2, u, mk, ps, tx, wi⟩, [execA c]) from by show feed2P ⟨2, u, mk, ps, tx, wi⟩ _ = _; rw [feed2P, if_neg h2426, if_neg h27, if_pos h32])
          obtain ⟨p0, p1, p2, p3, p4, p5, p6, p7, p8⟩ := HVW.out.cells rfl
          simp only at p0 p1 p2 p3 p4 p5 p6 p7 p8
          clear h24 h26 h27 h2426 h32
          obtain ⟨z0, z1, z2, z3, z4, z5, z6, z7, z8⟩ := HVW.out.zero
          obtain ⟨y0, y1, y2, y3, y4, y5, y6, y7, y8⟩ := HVW.out.thaw
          have hgg := HVW.out.2.2.2.2.1
          have hlr := blk_lt HVW.out.2.1
          have hlg := blk_lt HVW.out.1
          go_wp2
          try simp only [Exit.jump]
          have hf0 := HVW.out.ret (.int .i64 2) (.int .u8 (u[0]?.getD 0)) (.int .u8 (u[1]?.getD 0)) (.int .u8 (u[2]?.getD 0)) (.int .i64 u.length) (.string mk) (.slice A n cp) (.string tx) (.int .i64 wi)
          have hf := hf0.on (below_alloc (Below.refl _ _) (.cells ([.int .i64 1, .int .i32 0, .int .u8 c, .string ⟨#[]⟩, .slice none 0 0, .string ⟨#[]⟩] : List Value).toArray 37))
          have hla := lit_act wc _ w.heap.size (execA c) [.int .i64 1, .int .i32 0, .int .u8 c, .string ⟨#[]⟩, .slice none 0 0, .string ⟨#[]⟩] (size9 wc gr (.int .i64 2) (.int .u8 (u[0]?.getD 0)) (.int .u8 (u[1]?.getD 0)) (.int .u8 (u[2]?.getD 0)) (.int .i64 u.length) (.string mk) (.slice A n cp) (.string tx) (.int .i64 wi)) hf0.2.2.2.2.2.size rfl (k37_mkM _ _ _ (execA c) (Kd.R_nil _ _ _ _ _)) (fun ok => k37_mkM _ _ ok (execA c) (Kd.R_nil _ _ _ _ _))
          refine bodyPost_ret (results_ct Tryd.results14 _ _ gr 28 (pcells ⟨2, u, mk, ps, tx, wi⟩ (.slice A n cp)) (0, 0) _ rfl hf.2.1 hup rfl (by kernel_rfl)) rfl ⟨.slice (some ⟨wc.heap.size, 0, none⟩) 1 1, A, n, cp, by rw [HEP.out]; rfl, by rw [HEP.out]; exact Kd.C_below HPS.out hf.2.2.2.2.2, by rw [HEP.out]; exact hla, hf.2.2.2.2.2, fun _ _ => .inl ⟨rfl, rfl⟩⟩
        · have d32 : decide (c < 32) = false := decide_eq_false h32
          by_cases h127 : 127 ≤ c
          · have d127 : decide (127 ≤ c) = true := decide_eq_true h127
            have HEP := Aside0.mk (show feedP ⟨2, u, mk, ps, tx, wi⟩ c = (⟨2, u, mk, ps, tx, wi⟩, []) from by show feed2P ⟨2, u, mk, ps, tx, wi⟩ _ = _; rw [feed2P, if_neg h2426, if_neg h27, if_neg h32, if_pos h127])
            obtain ⟨p0, p1, p2, p3, p4, p5, p6, p7, p8⟩ := HVW.out.cells rfl
            simp only at p0 p1 p2 p3 p4 p5 p6 p7 p8
            clear h24 h26 h27 h2426 h32 h127
            obtain ⟨z0, z1, z2, z3, z4, z5, z6, z7, z8⟩ := HVW.out.zero
            obtain ⟨y0, y1, y2, y3, y4, y5, y6, y7, y8⟩ := HVW.out.thaw
            have hgg := HVW.out.2.2.2.2.1
            go_wp2
            try simp only [Exit.jump]
            have hf := HVW.out.ret (.int .i64 2) (.int .u8 (u[0]?.getD 0)) (.int .u8 (u[1]?.getD 0)) (.int .u8 (u[2]?.getD 0)) (.int .i64 u.length) (.string mk) (.slice A n cp) (.string tx) (.int .i64 wi)
            refine bodyPost_ret (results_ct Tryd.results14 _ _ gr 28 (pcells ⟨2, u, mk, ps, tx, wi⟩ (.slice A n cp)) (0, 0) _ rfl hf.2.1 hup rfl (by kernel_rfl)) rfl ⟨.slice none 0 0, A, n, cp, ?_, by rw [HEP.out]; exact Kd.C_below HPS.out hf.2.2.2.2.2, ?_, hf.2.2.2.2.2, fun _ _ => .inl ⟨rfl, rfl⟩⟩
            · rw [HEP.out]; rfl
            · rw [HEP.out]; exact Kd.R_nil _ _ _ _ _
          · have d127 : decide (127 ≤ c) = false := decide_eq_false h127
            have FE : feedP ⟨2, u, mk, ps, tx, wi⟩ c = escapeP ⟨2, u, mk, ps, tx, wi⟩ c := by show feed2P ⟨2, u, mk, ps, tx, wi⟩ _ = _; rw [feed2P, if_neg h2426, if_neg h27, if_neg h32, if_neg h127]; rfl
            obtain ⟨p0, p1, p2, p3, p4, p5, p6, p7, p8⟩ := HVW.out.cells rfl
            simp only at p0 p1 p2 p3 p4 p5 p6 p7 p8
            clear h24 h26 h27 h2426 h32 h127
            go_wp2_with fail
            refine (escape_c ⟨2, u, mk, ps, tx, wi⟩ A n cp c wc HC.out (Kd.C_below HPS.out HVW.out.2.2.2.2.2)).mono ?_
            rintro e w5 h5
            obtain ⟨u5, A5, n5, cp5, rfl, hp5, hr5, hb5, hcl⟩ := h5
            have HCL := Aside0.mk hcl
            clear hcl
            obtain ⟨rr, hrr⟩ : ∃ rr, rr = escapeP ⟨2, u, mk, ps, tx, wi⟩ c := ⟨_, rfl⟩
            rw [← hrr] at hp5 hr5
            rw [← hrr]
            have HEP := Aside0.mk (show feedP ⟨2, u, mk, ps, tx, wi⟩ c = rr from by rw [hrr]; exact (FE))
            rw [show pval rr.1 (.slice A5 n5 cp5) = .agg #[.int .i64 rr.1.st, .int .u8 (rr.1.u[0]?.getD 0), .int .u8 (rr.1.u[1]?.getD 0), .int .u8 (rr.1.u[2]?.getD 0), .int .i64 rr.1.u.length, .string rr.1.mr, .slice A5 n5 cp5, .string rr.1.tx, .int .i64 rr.1.wi] from rfl]
            have HV5 := Aside0.mk (HVW.out.on hb5)
            have HP5 := Aside0.mk hp5
            have HR5 := Aside0.mk (Kd.R_lower (Kd.R_mono (ok' := fun k => k ≠ g ∧ k ≠ gr) (Kd.R_bound hr5) (fun k hk => by have a1 := hk.2.1; have a2 := blk_lt HVW.out.1; have a3 := blk_lt HVW.out.2.1; exact ⟨by omega, by omega⟩)) HVW.out.2.2.2.2.2.size)
            clear hp5 hr5 hb5 hrr
            clear p0 p1 p2 p3 p4 p5 p6 p7 p8
            obtain ⟨z0, z1, z2, z3, z4, z5, z6, z7, z8⟩ := HV5.out.zero
            obtain ⟨y0, y1, y2, y3, y4, y5, y6, y7, y8⟩ := HV5.out.thaw
            go_wp2
            try simp only [Exit.jump]
            have hf := HV5.out.ret (.int .i64 rr.1.st) (.int .u8 (rr.1.u[0]?.getD 0)) (.int .u8 (rr.1.u[1]?.getD 0)) (.int .u8 (rr.1.u[2]?.getD 0)) (.int .i64 rr.1.u.length) (.string rr.1.mr) (.slice A5 n5 cp5) (.string rr.1.tx) (.int .i64 rr.1.wi)
            refine bodyPost_ret (results_ct Tryd.results14 _ _ gr 28 (pcells rr.1 (.slice A5 n5 cp5)) (0, 0) _ rfl hf.2.1 hup rfl (by kernel_rfl)) rfl ⟨u5, A5, n5, cp5, ?_, by rw [HEP.out]; exact (c_far HPS.out HP5.out HCL.out (blk_lt HVW.out.2.1) HVW.out.2.2.2.1 (keep9 _ _ _ _ _ _ _ _ _ _ _)), ?_, hf.2.2.2.2.2, fun ad h => (HCL.out ad h).elim (fun e => .inl e) (fun h2 => .inr (Nat.le_trans HVW.out.2.2.2.2.2.size h2))⟩
            · rw [HEP.out]; rfl
            · rw [HEP.out]; exact Kd.R_mono (Kd.R_keep HR5.out (keep9 _ _ _ _ _ _ _ _ _ _ _) (fun k h => h.2)) (fun _ _ => trivial)
set_option maxHeartbeats 6400000 in
set_option maxRecDepth 100000 in
theorem feed_3 (A : Option Addr) (n cp : Nat) (u : List Int) (mk tx : ByteArray) (ps : List Int) (wi : Int) (c : Int) (w : World) (hc : 0 ≤ c ∧ c < 256) (hps : Kd.C (Kd.int .i64) w A n ps) (h8 : ps.length ≤ 8) (hb9 : ∀ x ∈ ps, 0 ≤ x ∧ x ≤ 9999) (hm2 : mk.size ≤ 2) :
    Calls Tryd.prog 14 #[pval ⟨3, u, mk, ps, tx, wi⟩ (.slice A n cp), .int .u8 c] w (PT w A n (feedP ⟨3, u, mk, ps, tx, wi⟩ c)) := by
  have hup := Tryd.underlying28
  have hua := Tryd.underlying37
  have hc1 := hc.1
  have hc2 : c ≤ 255 := by omega
  have HC := Aside0.mk hc
  have HPS := Aside0.mk hps
  clear hc hps
  have H8 := Aside0.mk h8
  have HB9 := Aside0.mk hb9
  have HM2 := Aside0.mk hm2
  clear h8 hb9 hm2
  obtain ⟨pc, hpc⟩ : ∃ pc, pc = pcells ⟨3, u, mk, ps, tx, wi⟩ (.slice A n cp) := ⟨_, rfl⟩
  show Calls Tryd.prog _ #[.agg (pcells ⟨3, u, mk, ps, tx, wi⟩ (.slice A n cp)), .int .u8 c] w _
  rw [← hpc]
  have HPC := Aside0.mk hpc
  clear hpc
  go_enter Tryd.func14, Tryd.ntmps14
  go_wp2_with fail
  obtain ⟨g, hg⟩ : ∃ g, g = w.heap.size := ⟨_, rfl⟩
  obtain ⟨gr, hgr⟩ : ∃ gr, gr = w.heap.size + 1 := ⟨_, rfl⟩
  have HGG := Aside0.mk hg
  have HGR := Aside0.mk hgr
  clear hg hgr
  refine wp_scope_jumps 0 (fun a' w' => False) (fun _ _ => 0) rfl ?_ (fun _ _ h => h.elim)
  go_upto_region 0 with fail
  rw [← HGR.out, ← HGG.out]
  obtain ⟨wc, hwc⟩ : ∃ wc, wc = (w.alloc (.cells pc 28)).alloc (.cells zcells 28) := ⟨_, rfl⟩
  have HV := Aside0.mk (show V2 w wc g gr pc zcells from by rw [hwc, HGG.out, HGR.out]; exact V2.enter w pc zcells)
  rw [show (w.alloc (.cells pc 28)).alloc (.cells #[.int .i64 0, .int .u8 0, .int .u8 0, .int .u8 0, .int .i64 0, .string ⟨#[]⟩, .slice none 0 0, .string ⟨#[]⟩, .int .i64 0] 28) = wc from hwc.symm]
  clear hwc
  go_step3
  have HVW := Aside0.mk (show V2 w wc g gr (pcells ⟨3, u, mk, ps, tx, wi⟩ (.slice A n cp)) zcells from by have h := HV.out; rw [HPC.out] at h; exact h)
  by_cases h24 : c = 24
  · subst h24
    have HEP := Aside0.mk (show feedP ⟨3, u, mk, ps, tx, wi⟩ 24 = (atP 0, []) from by rfl)
    obtain ⟨p0, p1, p2, p3, p4, p5, p6, p7, p8⟩ := HVW.out.cells rfl
    simp only at p0 p1 p2 p3 p4 p5 p6 p7 p8
    go_wp2_with fail
    refine (at0_c 0 _).mono ?_
    rintro e w5 ⟨rfl, hb⟩
    have HV5 := Aside0.mk (HVW.out.on hb)
    clear hb
    clear p0 p1 p2 p3 p4 p5 p6 p7 p8
    obtain ⟨z0, z1, z2, z3, z4, z5, z6, z7, z8⟩ := HV5.out.zero
    obtain ⟨y0, y1, y2, y3, y4, y5, y6, y7, y8⟩ := HV5.out.thaw
    go_wp2
    try simp only [Exit.jump]
    have hf := HV5.out.ret (.int .i64 0) (.int .u8 0) (.int .u8 0) (.int .u8 0) (.int .i64 0) (.string ⟨#[]⟩) (.slice none 0 0) (.string ⟨#[]⟩) (.int .i64 0)
    refine bodyPost_ret (results_ct Tryd.results14 _ _ gr 28 (pcells (atP 0) (.slice none 0 0)) (0, 0) _ rfl hf.2.1 hup rfl (by kernel_rfl)) rfl ⟨.slice none 0 0, none, 0, 0, ?_, by rw [HEP.out]; exact Kd.C_nil _ _, ?_, hf.2.2.2.2.2, fun _ h => nomatch h⟩
    · rw [HEP.out]; rfl
    · rw [HEP.out]; exact Kd.R_nil _ _ _ _ _
  · by_cases h26 : c = 26
    · subst h26
      have HEP := Aside0.mk (show feedP ⟨3, u, mk, ps, tx, wi⟩ 26 = (atP 0, []) from by rfl)
      obtain ⟨p0, p1, p2, p3, p4, p5, p6, p7, p8⟩ := HVW.out.cells rfl
      simp only at p0 p1 p2 p3 p4 p5 p6 p7 p8
      go_wp2_with fail
      refine (at0_c 0 _).mono ?_
      rintro e w5 ⟨rfl, hb⟩
      have HV5 := Aside0.mk (HVW.out.on hb)
      clear hb
      clear p0 p1 p2 p3 p4 p5 p6 p7 p8
      obtain ⟨z0, z1, z2, z3, z4, z5, z6, z7, z8⟩ := HV5.out.zero
      obtain ⟨y0, y1, y2, y3, y4, y5, y6, y7, y8⟩ := HV5.out.thaw
      go_wp2
      try simp only [Exit.jump]
      have hf := HV5.out.ret (.int .i64 0) (.int .u8 0) (.int .u8 0) (.int .u8 0) (.int .i64 0) (.string ⟨#[]⟩) (.slice none 0 0) (.string ⟨#[]⟩) (.int .i64 0)
      refine bodyPost_ret (results_ct Tryd.results14 _ _ gr 28 (pcells (atP 0) (.slice none 0 0)) (0, 0) _ rfl hf.2.1 hup rfl (by kernel_rfl)) rfl ⟨.slice none 0 0, none, 0, 0, ?_, by rw [HEP.out]; exact Kd.C_nil _ _, ?_, hf.2.2.2.2.2, fun _ h => nomatch h⟩
      · rw [HEP.out]; rfl
      · rw [HEP.out]; exact Kd.R_nil _ _ _ _ _
    · by_cases h27 : c = 27
      · subst h27
        have HEP := Aside0.mk (show feedP ⟨3, u, mk, ps, tx, wi⟩ 27 = (atP 1, []) from by rfl)
        obtain ⟨p0, p1, p2, p3, p4, p5, p6, p7, p8⟩ := HVW.out.cells rfl
        simp only at p0 p1 p2 p3 p4 p5 p6 p7 p8
        go_wp2_with fail
        refine (at0_c 1 _).mono ?_
        rintro e w5 ⟨rfl, hb⟩
        have HV5 := Aside0.mk (HVW.out.on hb)
        clear hb
        clear p0 p1 p2 p3 p4 p5 p6 p7 p8
        obtain ⟨z0, z1, z2, z3, z4, z5, z6, z7, z8⟩ := HV5.out.zero
        obtain ⟨y0, y1, y2, y3, y4, y5, y6, y7, y8⟩ := HV5.out.thaw
        go_wp2
        try simp only [Exit.jump]
        have hf := HV5.out.ret (.int .i64 1) (.int .u8 0) (.int .u8 0) (.int .u8 0) (.int .i64 0) (.string ⟨#[]⟩) (.slice none 0 0) (.string ⟨#[]⟩) (.int .i64 0)
        refine bodyPost_ret (results_ct Tryd.results14 _ _ gr 28 (pcells (atP 1) (.slice none 0 0)) (0, 0) _ rfl hf.2.1 hup rfl (by kernel_rfl)) rfl ⟨.slice none 0 0, none, 0, 0, ?_, by rw [HEP.out]; exact Kd.C_nil _ _, ?_, hf.2.2.2.2.2, fun _ h => nomatch h⟩
        · rw [HEP.out]; rfl
        · rw [HEP.out]; exact Kd.R_nil _ _ _ _ _
      · have n24 : (c == 24) = false := beq_eq_false_iff_ne.mpr h24
        have n26 : (c == 26) = false := beq_eq_false_iff_ne.mpr h26
        have n27 : (c == 27) = false := beq_eq_false_iff_ne.mpr h27
        have h2426 : ¬ (c = 24 ∨ c = 26) := by omega
        by_cases h32 : c < 32
        · have d32 : decide (c < 32) = true := decide_eq_true h32
          have HEP := Aside0.mk (show feedP ⟨3, u, mk, ps, tx, wi⟩ c = (⟨3, u, mk, ps, tx, wi⟩, [execA c]) from by show feed2P ⟨3, u, mk, ps, tx, wi⟩ _ = _; rw [feed2P, if_neg h2426, if_neg h27, if_pos h32])
          obtain ⟨p0, p1, p2, p3, p4, p5, p6, p7, p8⟩ := HVW.out.cells rfl
          simp only at p0 p1 p2 p3 p4 p5 p6 p7 p8
          clear h24 h26 h27 h2426 h32
          obtain ⟨z0, z1, z2, z3, z4, z5, z6, z7, z8⟩ := HVW.out.zero
          obtain ⟨y0, y1, y2, y3, y4, y5, y6, y7, y8⟩ := HVW.out.thaw
          have hgg := HVW.out.2.2.2.2.1
          have hlr := blk_lt HVW.out.2.1
          have hlg := blk_lt HVW.out.1
          go_wp2
          try simp only [Exit.jump]
          have hf0 := HVW.out.ret (.int .i64 3) (.int .u8 (u[0]?.getD 0)) (.int .u8 (u[1]?.getD 0)) (.int .u8 (u[2]?.getD 0)) (.int .i64 u.length) (.string mk) (.slice A n cp) (.string tx) (.int .i64 wi)
          have hf := hf0.on (below_alloc (Below.refl _ _) (.cells ([.int .i64 1, .int .i32 0, .int .u8 c, .string ⟨#[]⟩, .slice none 0 0, .string ⟨#[]⟩] : List Value).toArray 37))
          have hla := lit_act wc _ w.heap.size (execA c) [.int .i64 1, .int .i32 0, .int .u8 c, .string ⟨#[]⟩, .slice none 0 0, .string ⟨#[]⟩] (size9 wc gr (.int .i64 3) (.int .u8 (u[0]?.getD 0)) (.int .u8 (u[1]?.getD 0)) (.int .u8 (u[2]?.getD 0)) (.int .i64 u.length) (.string mk) (.slice A n cp) (.string tx) (.int .i64 wi)) hf0.2.2.2.2.2.size rfl (k37_mkM _ _ _ (execA c) (Kd.R_nil _ _ _ _ _)) (fun ok => k37_mkM _ _ ok (execA c) (Kd.R_nil _ _ _ _ _))
          refine bodyPost_ret (results_ct Tryd.results14 _ _ gr 28 (pcells ⟨3, u, mk, ps, tx, wi⟩ (.slice A n cp)) (0, 0) _ rfl hf.2.1 hup rfl (by kernel_rfl)) rfl ⟨.slice (some ⟨wc.heap.size, 0, none⟩) 1 1, A, n, cp, by rw [HEP.out]; rfl, by rw [HEP.out]; exact Kd.C_below HPS.out hf.2.2.2.2.2, by rw [HEP.out]; exact hla, hf.2.2.2.2.2, fun _ _ => .inl ⟨rfl, rfl⟩⟩
        · have d32 : decide (c < 32) = false := decide_eq_false h32
          by_cases h127 : 127 ≤ c
          · have d127 : decide (127 ≤ c) = true := decide_eq_true h127
            have HEP := Aside0.mk (show feedP ⟨3, u, mk, ps, tx, wi⟩ c = (⟨3, u, mk, ps, tx, wi⟩, []) from by show feed2P ⟨3, u, mk, ps, tx, wi⟩ _ = _; rw [feed2P, if_neg h2426, if_neg h27, if_neg h32, if_pos h127])
            obtain ⟨p0, p1, p2, p3, p4, p5, p6, p7, p8⟩ := HVW.out.cells rfl
            simp only at p0 p1 p2 p3 p4 p5 p6 p7 p8
            clear h24 h26 h27 h2426 h32 h127
            obtain ⟨z0, z1, z2, z3, z4, z5, z6, z7, z8⟩ := HVW.out.zero
            obtain ⟨y0, y1, y2, y3, y4, y5, y6, y7, y8⟩ := HVW.out.thaw
            have hgg := HVW.out.2.2.2.2.1
            go_wp2
            try simp only [Exit.jump]
            have hf := HVW.out.ret (.int .i64 3) (.int .u8 (u[0]?.getD 0)) (.int .u8 (u[1]?.getD 0)) (.int .u8 (u[2]?.getD 0)) (.int .i64 u.length) (.string mk) (.slice A n cp) (.string tx) (.int .i64 wi)
            refine bodyPost_ret (results_ct Tryd.results14 _ _ gr 28 (pcells ⟨3, u, mk, ps, tx, wi⟩ (.slice A n cp)) (0, 0) _ rfl hf.2.1 hup rfl (by kernel_rfl)) rfl ⟨.slice none 0 0, A, n, cp, ?_, by rw [HEP.out]; exact Kd.C_below HPS.out hf.2.2.2.2.2, ?_, hf.2.2.2.2.2, fun _ _ => .inl ⟨rfl, rfl⟩⟩
            · rw [HEP.out]; rfl
            · rw [HEP.out]; exact Kd.R_nil _ _ _ _ _
          · have d127 : decide (127 ≤ c) = false := decide_eq_false h127
            have FE : feedP ⟨3, u, mk, ps, tx, wi⟩ c = csiP ⟨3, u, mk, ps, tx, wi⟩ c := by show feed2P ⟨3, u, mk, ps, tx, wi⟩ _ = _; rw [feed2P, if_neg h2426, if_neg h27, if_neg h32, if_neg h127]; rfl
            obtain ⟨p0, p1, p2, p3, p4, p5, p6, p7, p8⟩ := HVW.out.cells rfl
            simp only at p0 p1 p2 p3 p4 p5 p6 p7 p8
            clear h24 h26 h27 h2426 h32 h127
            go_wp2_with fail
            refine (csi_c ⟨3, u, mk, ps, tx, wi⟩ A n cp c wc HC.out (Kd.C_below HPS.out HVW.out.2.2.2.2.2) H8.out HB9.out HM2.out).mono ?_
            rintro e w5 h5
            obtain ⟨u5, A5, n5, cp5, rfl, hp5, hr5, hb5, hcl⟩ := h5
            have HCL := Aside0.mk hcl
            clear hcl
            obtain ⟨rr, hrr⟩ : ∃ rr, rr = csiP ⟨3, u, mk, ps, tx, wi⟩ c := ⟨_, rfl⟩
            rw [← hrr] at hp5 hr5
            rw [← hrr]
            have HEP := Aside0.mk (show feedP ⟨3, u, mk, ps, tx, wi⟩ c = rr from by rw [hrr]; exact (FE))
            rw [show pval rr.1 (.slice A5 n5 cp5) = .agg #[.int .i64 rr.1.st, .int .u8 (rr.1.u[0]?.getD 0), .int .u8 (rr.1.u[1]?.getD 0), .int .u8 (rr.1.u[2]?.getD 0), .int .i64 rr.1.u.length, .string rr.1.mr, .slice A5 n5 cp5, .string rr.1.tx, .int .i64 rr.1.wi] from rfl]
            have HV5 := Aside0.mk (HVW.out.on hb5)
            have HP5 := Aside0.mk hp5
            have HR5 := Aside0.mk (Kd.R_lower (Kd.R_mono (ok' := fun k => k ≠ g ∧ k ≠ gr) (Kd.R_bound hr5) (fun k hk => by have a1 := hk.2.1; have a2 := blk_lt HVW.out.1; have a3 := blk_lt HVW.out.2.1; exact ⟨by omega, by omega⟩)) HVW.out.2.2.2.2.2.size)
            clear hp5 hr5 hb5 hrr
            clear p0 p1 p2 p3 p4 p5 p6 p7 p8
            obtain ⟨z0, z1, z2, z3, z4, z5, z6, z7, z8⟩ := HV5.out.zero
            obtain ⟨y0, y1, y2, y3, y4, y5, y6, y7, y8⟩ := HV5.out.thaw
            go_wp2
            try simp only [Exit.jump]
            have hf := HV5.out.ret (.int .i64 rr.1.st) (.int .u8 (rr.1.u[0]?.getD 0)) (.int .u8 (rr.1.u[1]?.getD 0)) (.int .u8 (rr.1.u[2]?.getD 0)) (.int .i64 rr.1.u.length) (.string rr.1.mr) (.slice A5 n5 cp5) (.string rr.1.tx) (.int .i64 rr.1.wi)
            refine bodyPost_ret (results_ct Tryd.results14 _ _ gr 28 (pcells rr.1 (.slice A5 n5 cp5)) (0, 0) _ rfl hf.2.1 hup rfl (by kernel_rfl)) rfl ⟨u5, A5, n5, cp5, ?_, by rw [HEP.out]; exact (c_far HPS.out HP5.out HCL.out (blk_lt HVW.out.2.1) HVW.out.2.2.2.1 (keep9 _ _ _ _ _ _ _ _ _ _ _)), ?_, hf.2.2.2.2.2, fun ad h => (HCL.out ad h).elim (fun e => .inl e) (fun h2 => .inr (Nat.le_trans HVW.out.2.2.2.2.2.size h2))⟩
            · rw [HEP.out]; rfl
            · rw [HEP.out]; exact Kd.R_mono (Kd.R_keep HR5.out (keep9 _ _ _ _ _ _ _ _ _ _ _) (fun k h => h.2)) (fun _ _ => trivial)
set_option maxHeartbeats 6400000 in
set_option maxRecDepth 100000 in
theorem feed_4 (A : Option Addr) (n cp : Nat) (u : List Int) (mk tx : ByteArray) (ps : List Int) (wi : Int) (c : Int) (w : World) (hc : 0 ≤ c ∧ c < 256) (hps : Kd.C (Kd.int .i64) w A n ps) (h8 : ps.length ≤ 8) (hb9 : ∀ x ∈ ps, 0 ≤ x ∧ x ≤ 9999) (hm2 : mk.size ≤ 2) :
    Calls Tryd.prog 14 #[pval ⟨4, u, mk, ps, tx, wi⟩ (.slice A n cp), .int .u8 c] w (PT w A n (feedP ⟨4, u, mk, ps, tx, wi⟩ c)) := by
  have hup := Tryd.underlying28
  have hua := Tryd.underlying37
  have hc1 := hc.1
  have hc2 : c ≤ 255 := by omega
  have HC := Aside0.mk hc
  have HPS := Aside0.mk hps
  clear hc hps
  have H8 := Aside0.mk h8
  have HB9 := Aside0.mk hb9
  have HM2 := Aside0.mk hm2
  clear h8 hb9 hm2
  obtain ⟨pc, hpc⟩ : ∃ pc, pc = pcells ⟨4, u, mk, ps, tx, wi⟩ (.slice A n cp) := ⟨_, rfl⟩
  show Calls Tryd.prog _ #[.agg (pcells ⟨4, u, mk, ps, tx, wi⟩ (.slice A n cp)), .int .u8 c] w _
  rw [← hpc]
  have HPC := Aside0.mk hpc
  clear hpc
  go_enter Tryd.func14, Tryd.ntmps14
  go_wp2_with fail
  obtain ⟨g, hg⟩ : ∃ g, g = w.heap.size := ⟨_, rfl⟩
  obtain ⟨gr, hgr⟩ : ∃ gr, gr = w.heap.size + 1 := ⟨_, rfl⟩
  have HGG := Aside0.mk hg
  have HGR := Aside0.mk hgr
  clear hg hgr
  refine wp_scope_jumps 0 (fun a' w' => False) (fun _ _ => 0) rfl ?_ (fun _ _ h => h.elim)
  go_upto_region 0 with fail
  rw [← HGR.out, ← HGG.out]
  obtain ⟨wc, hwc⟩ : ∃ wc, wc = (w.alloc (.cells pc 28)).alloc (.cells zcells 28) := ⟨_, rfl⟩
  have HV := Aside0.mk (show V2 w wc g gr pc zcells from by rw [hwc, HGG.out, HGR.out]; exact V2.enter w pc zcells)
  rw [show (w.alloc (.cells pc 28)).alloc (.cells #[.int .i64 0, .int .u8 0, .int .u8 0, .int .u8 0, .int .i64 0, .string ⟨#[]⟩, .slice none 0 0, .string ⟨#[]⟩, .int .i64 0] 28) = wc from hwc.symm]
  clear hwc
  go_step3
  have HVW := Aside0.mk (show V2 w wc g gr (pcells ⟨4, u, mk, ps, tx, wi⟩ (.slice A n cp)) zcells from by have h := HV.out; rw [HPC.out] at h; exact h)
  by_cases h24 : c = 24
  · subst h24
    have HEP := Aside0.mk (show feedP ⟨4, u, mk, ps, tx, wi⟩ 24 = (atP 0, []) from by rfl)
    obtain ⟨p0, p1, p2, p3, p4, p5, p6, p7, p8⟩ := HVW.out.cells rfl
    simp only at p0 p1 p2 p3 p4 p5 p6 p7 p8
    go_wp2_with fail
    refine (at0_c 0 _).mono ?_
    rintro e w5 ⟨rfl, hb⟩
    have HV5 := Aside0.mk (HVW.out.on hb)
    clear hb
    clear p0 p1 p2 p3 p4 p5 p6 p7 p8
    obtain ⟨z0, z1, z2, z3, z4, z5, z6, z7, z8⟩ := HV5.out.zero
    obtain ⟨y0, y1, y2, y3, y4, y5, y6, y7, y8⟩ := HV5.out.thaw
    go_wp2
    try simp only [Exit.jump]
    have hf := HV5.out.ret (.int .i64 0) (.int .u8 0) (.int .u8 0) (.int .u8 0) (.int .i64 0) (.string ⟨#[]⟩) (.slice none 0 0) (.string ⟨#[]⟩) (.int .i64 0)
    refine bodyPost_ret (results_ct Tryd.results14 _ _ gr 28 (pcells (atP 0) (.slice none 0 0)) (0, 0) _ rfl hf.2.1 hup rfl (by kernel_rfl)) rfl ⟨.slice none 0 0, none, 0, 0, ?_, by rw [HEP.out]; exact Kd.C_nil _ _, ?_, hf.2.2.2.2.2, fun _ h => nomatch h⟩
    · rw [HEP.out]; rfl
    · rw [HEP.out]; exact Kd.R_nil _ _ _ _ _
  · by_cases h26 : c = 26
    · subst h26
      have HEP := Aside0.mk (show feedP ⟨4, u, mk, ps, tx, wi⟩ 26 = (atP 0, []) from by rfl)
      obtain ⟨p0, p1, p2, p3, p4, p5, p6, p7, p8⟩ := HVW.out.cells rfl
      simp only at p0 p1 p2 p3 p4 p5 p6 p7 p8
      go_wp2_with fail
      refine (at0_c 0 _).mono ?_
      rintro e w5 ⟨rfl, hb⟩
      have HV5 := Aside0.mk (HVW.out.on hb)
      clear hb
      clear p0 p1 p2 p3 p4 p5 p6 p7 p8
      obtain ⟨z0, z1, z2, z3, z4, z5, z6, z7, z8⟩ := HV5.out.zero
      obtain ⟨y0, y1, y2, y3, y4, y5, y6, y7, y8⟩ := HV5.out.thaw
      go_wp2
      try simp only [Exit.jump]
      have hf := HV5.out.ret (.int .i64 0) (.int .u8 0) (.int .u8 0) (.int .u8 0) (.int .i64 0) (.string ⟨#[]⟩) (.slice none 0 0) (.string ⟨#[]⟩) (.int .i64 0)
      refine bodyPost_ret (results_ct Tryd.results14 _ _ gr 28 (pcells (atP 0) (.slice none 0 0)) (0, 0) _ rfl hf.2.1 hup rfl (by kernel_rfl)) rfl ⟨.slice none 0 0, none, 0, 0, ?_, by rw [HEP.out]; exact Kd.C_nil _ _, ?_, hf.2.2.2.2.2, fun _ h => nomatch h⟩
      · rw [HEP.out]; rfl
      · rw [HEP.out]; exact Kd.R_nil _ _ _ _ _
    · by_cases h27 : c = 27
      · subst h27
        have HEP := Aside0.mk (show feedP ⟨4, u, mk, ps, tx, wi⟩ 27 = (atP 1, []) from by rfl)
        obtain ⟨p0, p1, p2, p3, p4, p5, p6, p7, p8⟩ := HVW.out.cells rfl
        simp only at p0 p1 p2 p3 p4 p5 p6 p7 p8
        go_wp2_with fail
        refine (at0_c 1 _).mono ?_
        rintro e w5 ⟨rfl, hb⟩
        have HV5 := Aside0.mk (HVW.out.on hb)
        clear hb
        clear p0 p1 p2 p3 p4 p5 p6 p7 p8
        obtain ⟨z0, z1, z2, z3, z4, z5, z6, z7, z8⟩ := HV5.out.zero
        obtain ⟨y0, y1, y2, y3, y4, y5, y6, y7, y8⟩ := HV5.out.thaw
        go_wp2
        try simp only [Exit.jump]
        have hf := HV5.out.ret (.int .i64 1) (.int .u8 0) (.int .u8 0) (.int .u8 0) (.int .i64 0) (.string ⟨#[]⟩) (.slice none 0 0) (.string ⟨#[]⟩) (.int .i64 0)
        refine bodyPost_ret (results_ct Tryd.results14 _ _ gr 28 (pcells (atP 1) (.slice none 0 0)) (0, 0) _ rfl hf.2.1 hup rfl (by kernel_rfl)) rfl ⟨.slice none 0 0, none, 0, 0, ?_, by rw [HEP.out]; exact Kd.C_nil _ _, ?_, hf.2.2.2.2.2, fun _ h => nomatch h⟩
        · rw [HEP.out]; rfl
        · rw [HEP.out]; exact Kd.R_nil _ _ _ _ _
      · have n24 : (c == 24) = false := beq_eq_false_iff_ne.mpr h24
        have n26 : (c == 26) = false := beq_eq_false_iff_ne.mpr h26
        have n27 : (c == 27) = false := beq_eq_false_iff_ne.mpr h27
        have h2426 : ¬ (c = 24 ∨ c = 26) := by omega
        by_cases h32 : c < 32
        · have d32 : decide (c < 32) = true := decide_eq_true h32
          have HEP := Aside0.mk (show feedP ⟨4, u, mk, ps, tx, wi⟩ c = (⟨4, u, mk, ps, tx, wi⟩, [execA c]) from by show feed2P ⟨4, u, mk, ps, tx, wi⟩ _ = _; rw [feed2P, if_neg h2426, if_neg h27, if_pos h32])
          obtain ⟨p0, p1, p2, p3, p4, p5, p6, p7, p8⟩ := HVW.out.cells rfl
          simp only at p0 p1 p2 p3 p4 p5 p6 p7 p8
          clear h24 h26 h27 h2426 h32
          obtain ⟨z0, z1, z2, z3, z4, z5, z6, z7, z8⟩ := HVW.out.zero
          obtain ⟨y0, y1, y2, y3, y4, y5, y6, y7, y8⟩ := HVW.out.thaw
          have hgg := HVW.out.2.2.2.2.1
          have hlr := blk_lt HVW.out.2.1
          have hlg := blk_lt HVW.out.1
          go_wp2
          try simp only [Exit.jump]
          have hf0 := HVW.out.ret (.int .i64 4) (.int .u8 (u[0]?.getD 0)) (.int .u8 (u[1]?.getD 0)) (.int .u8 (u[2]?.getD 0)) (.int .i64 u.length) (.string mk) (.slice A n cp) (.string tx) (.int .i64 wi)
          have hf := hf0.on (below_alloc (Below.refl _ _) (.cells ([.int .i64 1, .int .i32 0, .int .u8 c, .string ⟨#[]⟩, .slice none 0 0, .string ⟨#[]⟩] : List Value).toArray 37))
          have hla := lit_act wc _ w.heap.size (execA c) [.int .i64 1, .int .i32 0, .int .u8 c, .string ⟨#[]⟩, .slice none 0 0, .string ⟨#[]⟩] (size9 wc gr (.int .i64 4) (.int .u8 (u[0]?.getD 0)) (.int .u8 (u[1]?.getD 0)) (.int .u8 (u[2]?.getD 0)) (.int .i64 u.length) (.string mk) (.slice A n cp) (.string tx) (.int .i64 wi)) hf0.2.2.2.2.2.size rfl (k37_mkM _ _ _ (execA c) (Kd.R_nil _ _ _ _ _)) (fun ok => k37_mkM _ _ ok (execA c) (Kd.R_nil _ _ _ _ _))
          refine bodyPost_ret (results_ct Tryd.results14 _ _ gr 28 (pcells ⟨4, u, mk, ps, tx, wi⟩ (.slice A n cp)) (0, 0) _ rfl hf.2.1 hup rfl (by kernel_rfl)) rfl ⟨.slice (some ⟨wc.heap.size, 0, none⟩) 1 1, A, n, cp, by rw [HEP.out]; rfl, by rw [HEP.out]; exact Kd.C_below HPS.out hf.2.2.2.2.2, by rw [HEP.out]; exact hla, hf.2.2.2.2.2, fun _ _ => .inl ⟨rfl, rfl⟩⟩
        · have d32 : decide (c < 32) = false := decide_eq_false h32
          by_cases h127 : 127 ≤ c
          · have d127 : decide (127 ≤ c) = true := decide_eq_true h127
            have HEP := Aside0.mk (show feedP ⟨4, u, mk, ps, tx, wi⟩ c = (⟨4, u, mk, ps, tx, wi⟩, []) from by show feed2P ⟨4, u, mk, ps, tx, wi⟩ _ = _; rw [feed2P, if_neg h2426, if_neg h27, if_neg h32, if_pos h127])
            obtain ⟨p0, p1, p2, p3, p4, p5, p6, p7, p8⟩ := HVW.out.cells rfl
            simp only at p0 p1 p2 p3 p4 p5 p6 p7 p8
            clear h24 h26 h27 h2426 h32 h127
            obtain ⟨z0, z1, z2, z3, z4, z5, z6, z7, z8⟩ := HVW.out.zero
            obtain ⟨y0, y1, y2, y3, y4, y5, y6, y7, y8⟩ := HVW.out.thaw
            have hgg := HVW.out.2.2.2.2.1
            go_wp2
            try simp only [Exit.jump]
            have hf := HVW.out.ret (.int .i64 4) (.int .u8 (u[0]?.getD 0)) (.int .u8 (u[1]?.getD 0)) (.int .u8 (u[2]?.getD 0)) (.int .i64 u.length) (.string mk) (.slice A n cp) (.string tx) (.int .i64 wi)
            refine bodyPost_ret (results_ct Tryd.results14 _ _ gr 28 (pcells ⟨4, u, mk, ps, tx, wi⟩ (.slice A n cp)) (0, 0) _ rfl hf.2.1 hup rfl (by kernel_rfl)) rfl ⟨.slice none 0 0, A, n, cp, ?_, by rw [HEP.out]; exact Kd.C_below HPS.out hf.2.2.2.2.2, ?_, hf.2.2.2.2.2, fun _ _ => .inl ⟨rfl, rfl⟩⟩
            · rw [HEP.out]; rfl
            · rw [HEP.out]; exact Kd.R_nil _ _ _ _ _
          · have d127 : decide (127 ≤ c) = false := decide_eq_false h127
            have FE : feedP ⟨4, u, mk, ps, tx, wi⟩ c = csiP ⟨4, u, mk, ps, tx, wi⟩ c := by show feed2P ⟨4, u, mk, ps, tx, wi⟩ _ = _; rw [feed2P, if_neg h2426, if_neg h27, if_neg h32, if_neg h127]; rfl
            obtain ⟨p0, p1, p2, p3, p4, p5, p6, p7, p8⟩ := HVW.out.cells rfl
            simp only at p0 p1 p2 p3 p4 p5 p6 p7 p8
            clear h24 h26 h27 h2426 h32 h127
            go_wp2_with fail
            refine (csi_c ⟨4, u, mk, ps, tx, wi⟩ A n cp c wc HC.out (Kd.C_below HPS.out HVW.out.2.2.2.2.2) H8.out HB9.out HM2.out).mono ?_
            rintro e w5 h5
            obtain ⟨u5, A5, n5, cp5, rfl, hp5, hr5, hb5, hcl⟩ := h5
            have HCL := Aside0.mk hcl
            clear hcl
            obtain ⟨rr, hrr⟩ : ∃ rr, rr = csiP ⟨4, u, mk, ps, tx, wi⟩ c := ⟨_, rfl⟩
            rw [← hrr] at hp5 hr5
            rw [← hrr]
            have HEP := Aside0.mk (show feedP ⟨4, u, mk, ps, tx, wi⟩ c = rr from by rw [hrr]; exact (FE))
            rw [show pval rr.1 (.slice A5 n5 cp5) = .agg #[.int .i64 rr.1.st, .int .u8 (rr.1.u[0]?.getD 0), .int .u8 (rr.1.u[1]?.getD 0), .int .u8 (rr.1.u[2]?.getD 0), .int .i64 rr.1.u.length, .string rr.1.mr, .slice A5 n5 cp5, .string rr.1.tx, .int .i64 rr.1.wi] from rfl]
            have HV5 := Aside0.mk (HVW.out.on hb5)
            have HP5 := Aside0.mk hp5
            have HR5 := Aside0.mk (Kd.R_lower (Kd.R_mono (ok' := fun k => k ≠ g ∧ k ≠ gr) (Kd.R_bound hr5) (fun k hk => by have a1 := hk.2.1; have a2 := blk_lt HVW.out.1; have a3 := blk_lt HVW.out.2.1; exact ⟨by omega, by omega⟩)) HVW.out.2.2.2.2.2.size)
            clear hp5 hr5 hb5 hrr
            clear p0 p1 p2 p3 p4 p5 p6 p7 p8
            obtain ⟨z0, z1, z2, z3, z4, z5, z6, z7, z8⟩ := HV5.out.zero
            obtain ⟨y0, y1, y2, y3, y4, y5, y6, y7, y8⟩ := HV5.out.thaw
            go_wp2
            try simp only [Exit.jump]
            have hf := HV5.out.ret (.int .i64 rr.1.st) (.int .u8 (rr.1.u[0]?.getD 0)) (.int .u8 (rr.1.u[1]?.getD 0)) (.int .u8 (rr.1.u[2]?.getD 0)) (.int .i64 rr.1.u.length) (.string rr.1.mr) (.slice A5 n5 cp5) (.string rr.1.tx) (.int .i64 rr.1.wi)
            refine bodyPost_ret (results_ct Tryd.results14 _ _ gr 28 (pcells rr.1 (.slice A5 n5 cp5)) (0, 0) _ rfl hf.2.1 hup rfl (by kernel_rfl)) rfl ⟨u5, A5, n5, cp5, ?_, by rw [HEP.out]; exact (c_far HPS.out HP5.out HCL.out (blk_lt HVW.out.2.1) HVW.out.2.2.2.1 (keep9 _ _ _ _ _ _ _ _ _ _ _)), ?_, hf.2.2.2.2.2, fun ad h => (HCL.out ad h).elim (fun e => .inl e) (fun h2 => .inr (Nat.le_trans HVW.out.2.2.2.2.2.size h2))⟩
            · rw [HEP.out]; rfl
            · rw [HEP.out]; exact Kd.R_mono (Kd.R_keep HR5.out (keep9 _ _ _ _ _ _ _ _ _ _ _) (fun k h => h.2)) (fun _ _ => trivial)
end Go.Proofs.YtkdkajcokoggiaaDoor.VtFeedA
