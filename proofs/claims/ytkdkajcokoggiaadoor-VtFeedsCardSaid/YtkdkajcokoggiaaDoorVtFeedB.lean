/- The parser's Feed as a contract. -/
import Derived.Test.YtkdkajcokoggiaaDoorVtGround
import Derived.Test.YtkdkajcokoggiaaDoorVtFeedK
import Derived.ScopeJumps
import Derived.WalkMore
namespace Go.Proofs.YtkdkajcokoggiaaDoor.VtFeedB
open Go.RowKit Go.Lib Go.Proofs.YtkdkajcokoggiaaDoor.Kit Go.Proofs.YtkdkajcokoggiaaDoor.Plain Go.Proofs.YtkdkajcokoggiaaDoor.Mine Go.Proofs.YtkdkajcokoggiaaDoor.UtfPure Go.Proofs.YtkdkajcokoggiaaDoor.UtfFull Go.Proofs.YtkdkajcokoggiaaDoor.UtfFeed Go.Proofs.YtkdkajcokoggiaaDoor.VtPure Go.Proofs.YtkdkajcokoggiaaDoor.VtSmall Go.Proofs.YtkdkajcokoggiaaDoor.VtEsc Go.Proofs.YtkdkajcokoggiaaDoor.VtStr Go.Proofs.YtkdkajcokoggiaaDoor.VtCsi Go.Proofs.YtkdkajcokoggiaaDoor.VtGround Go.Proofs.YtkdkajcokoggiaaDoor.VtFeedK Go.Proofs.YtkdkajcokoggiaaDoorW.PrintWords Go.Proofs.YtkdkajcokoggiaaDoorW.PrintLast Go.Proofs.YtkdkajcokoggiaaDoorW.PrintMore
open Go.Lib (Utf8Tabs)
open Go.Proofs.YtkdkajcokoggiaaDoor.PVtParts (S37 k37 k37_open k37_openM k37_mk k37_mkM)
set_option linter.unusedVariables false
set_option linter.unusedSimpArgs false
set_option maxHeartbeats 6400000 in
set_option maxRecDepth 100000 in
theorem feed_0 (A : Option Addr) (n cp : Nat) (u : List Int) (mk tx : ByteArray) (ps : List Int) (wi : Int) (c : Int) (w : World) (hc : 0 ≤ c ∧ c < 256) (hps : Kd.C (Kd.int .i64) w A n ps) (hul : u.length ≤ 3) (hub : Bytes u) (hT : Utf8Tabs 0 1 w) :
    Calls Tryd.prog 14 #[pval ⟨0, u, mk, ps, tx, wi⟩ (.slice A n cp), .int .u8 c] w (PT w A n (feedP ⟨0, u, mk, ps, tx, wi⟩ c)) := by
  have hup := Tryd.underlying28
  have hua := Tryd.underlying37
  have hc1 := hc.1
  have hc2 : c ≤ 255 := by omega
  have HC := Aside0.mk hc
  have HPS := Aside0.mk hps
  clear hc hps
  have HUL := Aside0.mk hul
  have HUB := Aside0.mk hub
  have HTB := Aside0.mk hT
  clear hul hub hT
  obtain ⟨pc, hpc⟩ : ∃ pc, pc = pcells ⟨0, u, mk, ps, tx, wi⟩ (.slice A n cp) := ⟨_, rfl⟩
  show Calls Tryd.prog _ #[.agg (pcells ⟨0, u, mk, ps, tx, wi⟩ (.slice A n cp)), .int .u8 c] w _
  rw [← hpc]
  have HPC := Aside0.mk hpc
  clear hpc
  go_enter Tryd.func14, Tryd.ntmps14
  go_wp2_with fail
  obtain ⟨g, hg⟩ : ∃ g, g = w.heap.size := ⟨_, rfl⟩
  obtain ⟨gr, hgr⟩ : ∃ gr, gr = w.heap.size + 1 := ⟨_, rfl⟩
  have HGG := Aside0.mk hg
  have HGR := Aside0.mk hgr
  clear hg hgr
  refine wp_scope_jumps 0 (fun a' w' => False) (fun _ _ => 0) rfl ?_ (fun _ _ h => h.elim)
  go_upto_region 0 with fail
  rw [← HGR.out, ← HGG.out]
  obtain ⟨wc, hwc⟩ : ∃ wc, wc = (w.alloc (.cells pc 28)).alloc (.cells zcells 28) := ⟨_, rfl⟩
  have HV := Aside0.mk (show V2 w wc g gr pc zcells from by rw [hwc, HGG.out, HGR.out]; exact V2.enter w pc zcells)
  rw [show (w.alloc (.cells pc 28)).alloc (.cells #[.int .i64 0, .int .u8 0, .int .u8 0, .int .u8 0, .int .i64 0, .string ⟨#[]⟩, .slice none 0 0, .string ⟨#[]⟩, .int .i64 0] 28) = wc from hwc.symm]
  clear hwc
  go_step3
  have HVW := Aside0.mk (show V2 w wc g gr (pcells ⟨0, u, mk, ps, tx, wi⟩ (.slice A n cp)) zcells from by have h := HV.out; rw [HPC.out] at h; exact h)
  obtain ⟨p0, p1, p2, p3, p4, p5, p6, p7, p8⟩ := HVW.out.cells rfl
  simp only at p0 p1 p2 p3 p4 p5 p6 p7 p8
  go_wp2_with fail
  refine (ground_c ⟨0, u, mk, ps, tx, wi⟩ A n cp c wc HC.out (Kd.C_below HPS.out HVW.out.2.2.2.2.2) HUL.out HUB.out (tabs_below HTB.out HVW.out.2.2.2.2.2)).mono ?_
  rintro e w5 h5
  obtain ⟨u5, A5, n5, cp5, rfl, hp5, hr5, hb5, hcl⟩ := h5
  have HCL := Aside0.mk hcl
  clear hcl
  obtain ⟨rr, hrr⟩ : ∃ rr, rr = groundP ⟨0, u, mk, ps, tx, wi⟩ c := ⟨_, rfl⟩
  rw [← hrr] at hp5 hr5
  rw [← hrr]
  have HEP := Aside0.mk (show feedP ⟨0, u, mk, ps, tx, wi⟩ c = rr from by rw [hrr]; exact (rfl))
  rw [show pval rr.1 (.slice A5 n5 cp5) = .agg #[.int .i64 rr.1.st, .int .u8 (rr.1.u[0]?.getD 0), .int .u8 (rr.1.u[1]?.getD 0), .int .u8 (rr.1.u[2]?.getD 0), .int .i64 rr.1.u.length, .string rr.1.mr, .slice A5 n5 cp5, .string rr.1.tx, .int .i64 rr.1.wi] from rfl]
  have HV5 := Aside0.mk (HVW.out.on hb5)
  have HP5 := Aside0.mk hp5
  have HR5 := Aside0.mk (Kd.R_lower (Kd.R_mono (ok' := fun k => k ≠ g ∧ k ≠ gr) (Kd.R_bound hr5) (fun k hk => by have a1 := hk.2.1; have a2 := blk_lt HVW.out.1; have a3 := blk_lt HVW.out.2.1; exact ⟨by omega, by omega⟩)) HVW.out.2.2.2.2.2.size)
  clear hp5 hr5 hb5 hrr
  clear p0 p1 p2 p3 p4 p5 p6 p7 p8
  obtain ⟨z0, z1, z2, z3, z4, z5, z6, z7, z8⟩ := HV5.out.zero
  obtain ⟨y0, y1, y2, y3, y4, y5, y6, y7, y8⟩ := HV5.out.thaw
  go_wp2
  try simp only [Exit.jump]
  have hf := HV5.out.ret (.int .i64 rr.1.st) (.int .u8 (rr.1.u[0]?.getD 0)) (.int .u8 (rr.1.u[1]?.getD 0)) (.int .u8 (rr.1.u[2]?.getD 0)) (.int .i64 rr.1.u.length) (.string rr.1.mr) (.slice A5 n5 cp5) (.string rr.1.tx) (.int .i64 rr.1.wi)
  refine bodyPost_ret (results_ct Tryd.results14 _ _ gr 28 (pcells rr.1 (.slice A5 n5 cp5)) (0, 0) _ rfl hf.2.1 hup rfl (by kernel_rfl)) rfl ⟨u5, A5, n5, cp5, ?_, by rw [HEP.out]; exact (c_far HPS.out HP5.out HCL.out (blk_lt HVW.out.2.1) HVW.out.2.2.2.1 (keep9 _ _ _ _ _ _ _ _ _ _ _)), ?_, hf.2.2.2.2.2, fun ad h => (HCL.out ad h).elim (fun e => .inl e) (fun h2 => .inr (Nat.le_trans HVW.out.2.2.2.2.2.size h2))⟩
  · rw [HEP.out]; rfl
  · rw [HEP.out]; exact Kd.R_mono (Kd.R_keep HR5.out (keep9 _ _ _ _ _ _ _ _ _ _ _) (fun k h => h.2)) (fun _ _ => trivial)
set_option maxHeartbeats 6400000 in
set_option maxRecDepth 100000 in
theorem feed_5 (A : Option Addr) (n cp : Nat) (u : List Int) (mk tx : ByteArray) (ps : List Int) (wi : Int) (c : Int) (w : World) (hc : 0 ≤ c ∧ c < 256) (hps : Kd.C (Kd.int .i64) w A n ps) (htx : tx.size ≤ 40) :
    Calls Tryd.prog 14 #[pval ⟨5, u, mk, ps, tx, wi⟩ (.slice A n cp), .int .u8 c] w (PT w A n (feedP ⟨5, u, mk, ps, tx, wi⟩ c)) := by
  have hup := Tryd.underlying28
  have hua := Tryd.underlying37
  have hc1 := hc.1
  have hc2 : c ≤ 255 := by omega
  have HC := Aside0.mk hc
  have HPS := Aside0.mk hps
  clear hc hps
  have HTX := Aside0.mk htx
  clear htx
  obtain ⟨pc, hpc⟩ : ∃ pc, pc = pcells ⟨5, u, mk, ps, tx, wi⟩ (.slice A n cp) := ⟨_, rfl⟩
  show Calls Tryd.prog _ #[.agg (pcells ⟨5, u, mk, ps, tx, wi⟩ (.slice A n cp)), .int .u8 c] w _
  rw [← hpc]
  have HPC := Aside0.mk hpc
  clear hpc
  go_enter Tryd.func14, Tryd.ntmps14
  go_wp2_with fail
  obtain ⟨g, hg⟩ : ∃ g, g = w.heap.size := ⟨_, rfl⟩
  obtain ⟨gr, hgr⟩ : ∃ gr, gr = w.heap.size + 1 := ⟨_, rfl⟩
  have HGG := Aside0.mk hg
  have HGR := Aside0.mk hgr
  clear hg hgr
  refine wp_scope_jumps 0 (fun a' w' => False) (fun _ _ => 0) rfl ?_ (fun _ _ h => h.elim)
  go_upto_region 0 with fail
  rw [← HGR.out, ← HGG.out]
  obtain ⟨wc, hwc⟩ : ∃ wc, wc = (w.alloc (.cells pc 28)).alloc (.cells zcells 28) := ⟨_, rfl⟩
  have HV := Aside0.mk (show V2 w wc g gr pc zcells from by rw [hwc, HGG.out, HGR.out]; exact V2.enter w pc zcells)
  rw [show (w.alloc (.cells pc 28)).alloc (.cells #[.int .i64 0, .int .u8 0, .int .u8 0, .int .u8 0, .int .i64 0, .string ⟨#[]⟩, .slice none 0 0, .string ⟨#[]⟩, .int .i64 0] 28) = wc from hwc.symm]
  clear hwc
  go_step3
  have HVW := Aside0.mk (show V2 w wc g gr (pcells ⟨5, u, mk, ps, tx, wi⟩ (.slice A n cp)) zcells from by have h := HV.out; rw [HPC.out] at h; exact h)
  obtain ⟨p0, p1, p2, p3, p4, p5, p6, p7, p8⟩ := HVW.out.cells rfl
  simp only at p0 p1 p2 p3 p4 p5 p6 p7 p8
  go_wp2_with fail
  refine (string_c ⟨5, u, mk, ps, tx, wi⟩ A n cp c wc HC.out (Kd.C_below HPS.out HVW.out.2.2.2.2.2) HTX.out).mono ?_
  rintro e w5 h5
  obtain ⟨u5, A5, n5, cp5, rfl, hp5, hr5, hb5, hcl⟩ := h5
  have HCL := Aside0.mk hcl
  clear hcl
  obtain ⟨rr, hrr⟩ : ∃ rr, rr = stringP ⟨5, u, mk, ps, tx, wi⟩ c := ⟨_, rfl⟩
  rw [← hrr] at hp5 hr5
  rw [← hrr]
  have HEP := Aside0.mk (show feedP ⟨5, u, mk, ps, tx, wi⟩ c = rr from by rw [hrr]; exact (rfl))
  rw [show pval rr.1 (.slice A5 n5 cp5) = .agg #[.int .i64 rr.1.st, .int .u8 (rr.1.u[0]?.getD 0), .int .u8 (rr.1.u[1]?.getD 0), .int .u8 (rr.1.u[2]?.getD 0), .int .i64 rr.1.u.length, .string rr.1.mr, .slice A5 n5 cp5, .string rr.1.tx, .int .i64 rr.1.wi] from rfl]
  have HV5 := Aside0.mk (HVW.out.on hb5)
  have HP5 := Aside0.mk hp5
  have HR5 := Aside0.mk (Kd.R_lower (Kd.R_mono (ok' := fun k => k ≠ g ∧ k ≠ gr) (Kd.R_bound hr5) (fun k hk => by have a1 := hk.2.1; have a2 := blk_lt HVW.out.1; have a3 := blk_lt HVW.out.2.1; exact ⟨by omega, by omega⟩)) HVW.out.2.2.2.2.2.size)
  clear hp5 hr5 hb5 hrr
  clear p0 p1 p2 p3 p4 p5 p6 p7 p8
  obtain ⟨z0, z1, z2, z3, z4, z5, z6, z7, z8⟩ := HV5.out.zero
  obtain ⟨y0, y1, y2, y3, y4, y5, y6, y7, y8⟩ := HV5.out.thaw
  go_wp2
  try simp only [Exit.jump]
  have hf := HV5.out.ret (.int .i64 rr.1.st) (.int .u8 (rr.1.u[0]?.getD 0)) (.int .u8 (rr.1.u[1]?.getD 0)) (.int .u8 (rr.1.u[2]?.getD 0)) (.int .i64 rr.1.u.length) (.string rr.1.mr) (.slice A5 n5 cp5) (.string rr.1.tx) (.int .i64 rr.1.wi)
  refine bodyPost_ret (results_ct Tryd.results14 _ _ gr 28 (pcells rr.1 (.slice A5 n5 cp5)) (0, 0) _ rfl hf.2.1 hup rfl (by kernel_rfl)) rfl ⟨u5, A5, n5, cp5, ?_, by rw [HEP.out]; exact (c_far HPS.out HP5.out HCL.out (blk_lt HVW.out.2.1) HVW.out.2.2.2.1 (keep9 _ _ _ _ _ _ _ _ _ _ _)), ?_, hf.2.2.2.2.2, fun ad h => (HCL.out ad h).elim (fun e => .inl e) (fun h2 => .inr (Nat.le_trans HVW.out.2.2.2.2.2.size h2))⟩
  · rw [HEP.out]; rfl
  · rw [HEP.out]; exact Kd.R_mono (Kd.R_keep HR5.out (keep9 _ _ _ _ _ _ _ _ _ _ _) (fun k h => h.2)) (fun _ _ => trivial)
set_option maxHeartbeats 6400000 in
set_option maxRecDepth 100000 in
theorem feed_6 (A : Option Addr) (n cp : Nat) (u : List Int) (mk tx : ByteArray) (ps : List Int) (wi : Int) (c : Int) (w : World) (hc : 0 ≤ c ∧ c < 256) (hps : Kd.C (Kd.int .i64) w A n ps) (htx : tx.size ≤ 40) :
    Calls Tryd.prog 14 #[pval ⟨6, u, mk, ps, tx, wi⟩ (.slice A n cp), .int .u8 c] w (PT w A n (feedP ⟨6, u, mk, ps, tx, wi⟩ c)) := by
  have hup := Tryd.underlying28
  have hua := Tryd.underlying37
  have hc1 := hc.1
  have hc2 : c ≤ 255 := by omega
  have HC := Aside0.mk hc
  have HPS := Aside0.mk hps
  clear hc hps
  have HTX := Aside0.mk htx
  clear htx
  obtain ⟨pc, hpc⟩ : ∃ pc, pc = pcells ⟨6, u, mk, ps, tx, wi⟩ (.slice A n cp) := ⟨_, rfl⟩
  show Calls Tryd.prog _ #[.agg (pcells ⟨6, u, mk, ps, tx, wi⟩ (.slice A n cp)), .int .u8 c] w _
  rw [← hpc]
  have HPC := Aside0.mk hpc
  clear hpc
  go_enter Tryd.func14, Tryd.ntmps14
  go_wp2_with fail
  obtain ⟨g, hg⟩ : ∃ g, g = w.heap.size := ⟨_, rfl⟩
  obtain ⟨gr, hgr⟩ : ∃ gr, gr = w.heap.size + 1 := ⟨_, rfl⟩
  have HGG := Aside0.mk hg
  have HGR := Aside0.mk hgr
  clear hg hgr
  refine wp_scope_jumps 0 (fun a' w' => False) (fun _ _ => 0) rfl ?_ (fun _ _ h => h.elim)
  go_upto_region 0 with fail
  rw [← HGR.out, ← HGG.out]
  obtain ⟨wc, hwc⟩ : ∃ wc, wc = (w.alloc (.cells pc 28)).alloc (.cells zcells 28) := ⟨_, rfl⟩
  have HV := Aside0.mk (show V2 w wc g gr pc zcells from by rw [hwc, HGG.out, HGR.out]; exact V2.enter w pc zcells)
  rw [show (w.alloc (.cells pc 28)).alloc (.cells #[.int .i64 0, .int .u8 0, .int .u8 0, .int .u8 0, .int .i64 0, .string ⟨#[]⟩, .slice none 0 0, .string ⟨#[]⟩, .int .i64 0] 28) = wc from hwc.symm]
  clear hwc
  go_step3
  have HVW := Aside0.mk (show V2 w wc g gr (pcells ⟨6, u, mk, ps, tx, wi⟩ (.slice A n cp)) zcells from by have h := HV.out; rw [HPC.out] at h; exact h)
  obtain ⟨p0, p1, p2, p3, p4, p5, p6, p7, p8⟩ := HVW.out.cells rfl
  simp only at p0 p1 p2 p3 p4 p5 p6 p7 p8
  go_wp2_with fail
  refine (string_c ⟨6, u, mk, ps, tx, wi⟩ A n cp c wc HC.out (Kd.C_below HPS.out HVW.out.2.2.2.2.2) HTX.out).mono ?_
  rintro e w5 h5
  obtain ⟨u5, A5, n5, cp5, rfl, hp5, hr5, hb5, hcl⟩ := h5
  have HCL := Aside0.mk hcl
  clear hcl
  obtain ⟨rr, hrr⟩ : ∃ rr, rr = stringP ⟨6, u, mk, ps, tx, wi⟩ c := ⟨_, rfl⟩
  rw [← hrr] at hp5 hr5
  rw [← hrr]
  have HEP := Aside0.mk (show feedP ⟨6, u, mk, ps, tx, wi⟩ c = rr from by rw [hrr]; exact (rfl))
  rw [show pval rr.1 (.slice A5 n5 cp5) = .agg #[.int .i64 rr.1.st, .int .u8 (rr.1.u[0]?.getD 0), .int .u8 (rr.1.u[1]?.getD 0), .int .u8 (rr.1.u[2]?.getD 0), .int .i64 rr.1.u.length, .string rr.1.mr, .slice A5 n5 cp5, .string rr.1.tx, .int .i64 rr.1.wi] from rfl]
  have HV5 := Aside0.mk (HVW.out.on hb5)
  have HP5 := Aside0.mk hp5
  have HR5 := Aside0.mk (Kd.R_lower (Kd.R_mono (ok' := fun k => k ≠ g ∧ k ≠ gr) (Kd.R_bound hr5) (fun k hk => by have a1 := hk.2.1; have a2 := blk_lt HVW.out.1; have a3 := blk_lt HVW.out.2.1; exact ⟨by omega, by omega⟩)) HVW.out.2.2.2.2.2.size)
  clear hp5 hr5 hb5 hrr
  clear p0 p1 p2 p3 p4 p5 p6 p7 p8
  obtain ⟨z0, z1, z2, z3, z4, z5, z6, z7, z8⟩ := HV5.out.zero
  obtain ⟨y0, y1, y2, y3, y4, y5, y6, y7, y8⟩ := HV5.out.thaw
  go_wp2
  try simp only [Exit.jump]
  have hf := HV5.out.ret (.int .i64 rr.1.st) (.int .u8 (rr.1.u[0]?.getD 0)) (.int .u8 (rr.1.u[1]?.getD 0)) (.int .u8 (rr.1.u[2]?.getD 0)) (.int .i64 rr.1.u.length) (.string rr.1.mr) (.slice A5 n5 cp5) (.string rr.1.tx) (.int .i64 rr.1.wi)
  refine bodyPost_ret (results_ct Tryd.results14 _ _ gr 28 (pcells rr.1 (.slice A5 n5 cp5)) (0, 0) _ rfl hf.2.1 hup rfl (by kernel_rfl)) rfl ⟨u5, A5, n5, cp5, ?_, by rw [HEP.out]; exact (c_far HPS.out HP5.out HCL.out (blk_lt HVW.out.2.1) HVW.out.2.2.2.1 (keep9 _ _ _ _ _ _ _ _ _ _ _)), ?_, hf.2.2.2.2.2, fun ad h => (HCL.out ad h).elim (fun e => .inl e) (fun h2 => .inr (Nat.le_trans HVW.out.2.2.2.2.2.size h2))⟩
  · rw [HEP.out]; rfl
  · rw [HEP.out]; exact Kd.R_mono (Kd.R_keep HR5.out (keep9 _ _ _ _ _ _ _ _ _ _ _) (fun k h => h.2)) (fun _ _ => trivial)
end Go.Proofs.YtkdkajcokoggiaaDoor.VtFeedB
