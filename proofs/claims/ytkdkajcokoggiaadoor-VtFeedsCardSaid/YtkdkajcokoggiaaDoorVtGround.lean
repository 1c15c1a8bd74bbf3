/- The parser's ground as a contract. -/
import Derived.Test.YtkdkajcokoggiaaDoorVtCsi
namespace Go.Proofs.YtkdkajcokoggiaaDoor.VtGround
open Go.RowKit Go.Lib Go.Proofs.YtkdkajcokoggiaaDoor.Kit Go.Proofs.YtkdkajcokoggiaaDoor.Plain Go.Proofs.YtkdkajcokoggiaaDoor.Mine Go.Proofs.YtkdkajcokoggiaaDoor.UtfPure Go.Proofs.YtkdkajcokoggiaaDoor.UtfFull Go.Proofs.YtkdkajcokoggiaaDoor.UtfFeed Go.Proofs.YtkdkajcokoggiaaDoor.VtPure Go.Proofs.YtkdkajcokoggiaaDoor.VtSmall Go.Proofs.YtkdkajcokoggiaaDoor.VtEsc Go.Proofs.YtkdkajcokoggiaaDoor.VtCsi Go.Proofs.YtkdkajcokoggiaaDoorW.PrintWords Go.Proofs.YtkdkajcokoggiaaDoorW.PrintLast Go.Proofs.YtkdkajcokoggiaaDoorW.PrintMore
open Go.Lib (Utf8Tabs)
open Go.Proofs.YtkdkajcokoggiaaDoor.PVtParts (S37 k37 k37_open k37_openM k37_mk k37_mkM)
set_option linter.unusedVariables false
set_option linter.unusedSimpArgs false
theorem V2.set4 {w W : World} {g gr : Nat} {v : PR} {pv : Value} {rc : Array Value} (h : V2 w W g gr (pcells v pv) rc) (x0 x1 x2 x3 : Value) :
    V2 w ((((W.setCell ⟨g, 1, none⟩ x0).setCell ⟨g, 2, none⟩ x1).setCell ⟨g, 3, none⟩ x2).setCell ⟨g, 4, none⟩ x3) g gr #[.int .i64 v.st, x0, x1, x2, x3, .string v.mr, pv, .string v.tx, .int .i64 v.wi] rc := by
  have h0 : V2 w (W.setCell ⟨g, 1, none⟩ x0) g gr #[.int .i64 v.st, x0, .int .u8 (v.u[1]?.getD 0), .int .u8 (v.u[2]?.getD 0), .int .i64 v.u.length, .string v.mr, pv, .string v.tx, .int .i64 v.wi] rc := h.set_p 1 x0 rfl
  have h1 : V2 w ((W.setCell ⟨g, 1, none⟩ x0).setCell ⟨g, 2, none⟩ x1) g gr #[.int .i64 v.st, x0, x1, .int .u8 (v.u[2]?.getD 0), .int .i64 v.u.length, .string v.mr, pv, .string v.tx, .int .i64 v.wi] rc := h0.set_p 2 x1 rfl
  have h2 : V2 w (((W.setCell ⟨g, 1, none⟩ x0).setCell ⟨g, 2, none⟩ x1).setCell ⟨g, 3, none⟩ x2) g gr #[.int .i64 v.st, x0, x1, x2, .int .i64 v.u.length, .string v.mr, pv, .string v.tx, .int .i64 v.wi] rc := h1.set_p 3 x2 rfl
  exact h2.set_p 4 x3 rfl
theorem keep4 (W : World) (g : Nat) (x0 x1 x2 x3 : Value) : KeepBut W ((((W.setCell ⟨g, 1, none⟩ x0).setCell ⟨g, 2, none⟩ x1).setCell ⟨g, 3, none⟩ x2).setCell ⟨g, 4, none⟩ x3) g none := by
  have h0 : KeepBut W (W.setCell ⟨g, 1, none⟩ x0) g none := (KeepBut.refl W g none).set_ 1 x0
  have h1 : KeepBut W ((W.setCell ⟨g, 1, none⟩ x0).setCell ⟨g, 2, none⟩ x1) g none := h0.set_ 2 x1
  have h2 : KeepBut W (((W.setCell ⟨g, 1, none⟩ x0).setCell ⟨g, 2, none⟩ x1).setCell ⟨g, 3, none⟩ x2) g none := h1.set_ 3 x2
  exact h2.set_ 4 x3
set_option maxHeartbeats 6400000 in
set_option maxRecDepth 100000 in
theorem ground_c (v : PR) (A : Option Addr) (n cp : Nat) (c : Int) (w : World) (hc : 0 ≤ c ∧ c < 256) (hps : Kd.C (Kd.int .i64) w A n v.ps) (hul : v.u.length ≤ 3) (hub : Bytes v.u) (hT : Utf8Tabs 0 1 w) :
    Calls Tryd.prog 20 #[pval v (.slice A n cp), .int .u8 c] w (PT w A n (groundP v c)) := by
  have hup := Tryd.underlying28
  have hua := Tryd.underlying37
  have hc1 := hc.1
  have hc2 : c ≤ 255 := by omega
  have HPS := Aside0.mk hps
  obtain ⟨st, u, mk, ps, tx, wi⟩ := v
  simp only at hul hub
  have HUL := Aside0.mk hul
  have HUB := Aside0.mk hub
  have HTB := Aside0.mk hT
  unfold pval
  obtain ⟨pc, hpc⟩ : ∃ pc, pc = pcells ⟨st, u, mk, ps, tx, wi⟩ (.slice A n cp) := ⟨_, rfl⟩
  rw [← hpc]
  have HPC := Aside0.mk hpc
  clear hps hc hpc hul hub hT
  go_enter Tryd.func20, Tryd.ntmps20
  go_upto_region 0 with fail
  go_cut [2, 4, 5] (fun v2 v4 v5 W => ∃ g gr : Nat, v2 = .pointer (some ⟨g, 0, none⟩) ∧ v4 = .pointer (some ⟨gr, 0, none⟩) ∧ v5 = .slice none 0 0 ∧ Aside0 (V2 w W g gr pc zcells))
  case first =>
    go_wp2_with fail
    go_meet
    case rel => exact ⟨_, _, rfl, rfl, rfl, ⟨V2.enter w pc zcells⟩⟩
  case rest =>
    obtain ⟨g, gr, rfl, rfl, rfl, HV⟩ := hcut
    have hb1 : (b1 c).size = 1 := rfl
    obtain ⟨p0, p1, p2, p3, p4, p5, p6, p7, p8⟩ := HV.out.cells HPC.out
    simp only at p0 p1 p2 p3 p4 p5 p6 p7 p8
    obtain ⟨fp0, fp1, fp2, fp3, fp4, fp5, fp6, fp7, fp8⟩ := HV.out.thawp
    have hlg := blk_lt HV.out.1
    have HVP := Aside0.mk (show V2 w wc g gr (pcells ⟨st, u, mk, ps, tx, wi⟩ (.slice A n cp)) zcells from by have h := HV.out; rw [HPC.out] at h; exact h)
    by_cases h128 : c < 128
    · have hd : decide (c < 128) = true := decide_eq_true h128
      go_wp2_with fail
      refine (flush_c u wc HUL.out).mono ?_
      rintro e w1 ⟨vl, rfl, hl, hb⟩
      obtain ⟨rl, hrl⟩ : ∃ rl : List Int, rl = List.replicate u.length 65533 := ⟨_, rfl⟩
      rw [← hrl] at hl
      have HRL := Aside0.mk hrl
      have HRN := Aside0.mk (show rl.length ≤ 3 from by rw [hrl, List.length_replicate]; exact HUL.out)
      obtain ⟨A1, c1, rfl⟩ := Kd.R_slice hl
      rw [show dval [] = .agg #[.int .u8 0, .int .u8 0, .int .u8 0, .int .i64 0] from rfl]
      have HV1 := Aside0.mk (HVP.out.on hb)
      have HL1 := Aside0.mk hl
      have HS1 := Aside0.mk hb.size
      clear p0 p1 p2 p3 p4 p5 p6 p7 p8 fp0 fp1 fp2 fp3 fp4 fp5 fp6 fp7 fp8 hlg hl hb hrl
      obtain ⟨p0, p1, p2, p3, p4, p5, p6, p7, p8⟩ := HV1.out.cells rfl
      simp only at p0 p1 p2 p3 p4 p5 p6 p7 p8
      obtain ⟨fp0, fp1, fp2, fp3, fp4, fp5, fp6, fp7, fp8⟩ := HV1.out.thawp
      go_upto_region 5 with fail
      obtain ⟨w3, hw3⟩ : ∃ w3, w3 = (((w1.setCell ⟨g, 1, none⟩ (.int .u8 0)).setCell ⟨g, 2, none⟩ (.int .u8 0)).setCell ⟨g, 3, none⟩ (.int .u8 0)).setCell ⟨g, 4, none⟩ (.int .i64 0) := ⟨_, rfl⟩
      have HV3 := Aside0.mk (show V2 w w3 g gr (pcells ⟨st, [], mk, ps, tx, wi⟩ (.slice A n cp)) zcells from by rw [hw3]; exact V2.set4 HV1.out _ _ _ _)
      have hk4 : KeepBut w1 w3 g none := by rw [hw3]; exact keep4 w1 g _ _ _ _
      have HL3 := Aside0.mk (Kd.R_mono (ok' := fun k => some k ≠ (Value.slice none 0 0).ownBlock) (Kd.R_keep (Kd.R_bound HL1.out) hk4 (fun k hk => by have a1 := hk.2.1; have a2 := blk_lt HV.out.1; omega)) (fun k hk => by simp [Value.ownBlock]))
      have HS3 := Aside0.mk (Nat.le_trans HS1.out hk4.1)
      rw [← hw3]
      clear hw3 hk4 p0 p1 p2 p3 p4 p5 p6 p7 p8 fp0 fp1 fp2 fp3 fp4 fp5 fp6 fp7 fp8
      go_wp2_with fail
      refine (printed_c wc.heap.size [] (.slice none 0 0) A1 c1 rl w3 (Kd.R_nil _ _ _ _ _) _ HL3.out HS3.out (by have := HRN.out; simp; omega)).mono ?_
      rintro e w4 ⟨vo, rfl, ho, hb⟩
      rw [List.nil_append] at ho
      have HV4 := Aside0.mk (V2.onB HV3.out hb (blk_lt HV.out.1) (blk_lt HV.out.2.1))
      have HO4 := Aside0.mk ho
      have HWZ := Aside0.mk (Nat.le_trans HS3.out hb.size)
      obtain ⟨ol, hol⟩ : ∃ ol, ol = printedP rl := ⟨_, rfl⟩
      rw [← hol] at HO4
      have HON := Aside0.mk (show ol.length ≤ 3 from by rw [hol]; unfold printedP; rw [List.length_map]; exact HRN.out)
      have HOL := Aside0.mk (show ol = printedP (List.replicate u.length 65533) from by rw [hol, HRL.out])
      clear ho hb hol
      by_cases h27 : c = 27
      · subst h27
        have HEP := Aside0.mk (show groundP ⟨st, u, mk, ps, tx, wi⟩ 27 = (atP 1, ol) from by rw [HOL.out]; rfl)
        go_wp2_with fail
        refine (at0_c 1 _).mono ?_
        rintro e w5 ⟨rfl, hb⟩
        have HV5 := Aside0.mk (HV4.out.on hb)
        have HO5 := Aside0.mk (Kd.R_below HO4.out hb)
        clear hb
        obtain ⟨z0, z1, z2, z3, z4, z5, z6, z7, z8⟩ := HV5.out.zero
        obtain ⟨y0, y1, y2, y3, y4, y5, y6, y7, y8⟩ := HV5.out.thaw
        go_wp2
        have hf := HV5.out.ret (.int .i64 1) (.int .u8 0) (.int .u8 0) (.int .u8 0) (.int .i64 0) (.string ⟨#[]⟩) (.slice none 0 0) (.string ⟨#[]⟩) (.int .i64 0)
        refine bodyPost_ret (results_ct Tryd.results20 _ _ gr 28 (pcells (atP 1) (.slice none 0 0)) (0, 0) _ rfl hf.2.1 hup rfl (by kernel_rfl)) rfl ⟨vo, none, 0, 0, ?_, by rw [HEP.out]; exact Kd.C_nil _ _, ?_, hf.2.2.2.2.2, fun _ h => nomatch h⟩
        · rw [HEP.out]; rfl
        · rw [HEP.out]; exact Kd.R_mono (Kd.R_lower (Kd.R_keep (Kd.R_mono (ok' := fun k => k ≠ gr) (Kd.R_bound HO5.out) (fun k hk => by have a1 := hk.2.1; have a2 := blk_lt HV.out.2.1; omega)) (keep9 _ _ _ _ _ _ _ _ _ _ _) (fun k h => h)) HV.out.2.2.2.2.2.size) (fun _ _ => trivial)
      · have e1 : (c == 27) = false := beq_eq_false_iff_ne.mpr h27
        by_cases h32 : c < 32 ∨ c = 127
        · have HEP := Aside0.mk (show groundP ⟨st, u, mk, ps, tx, wi⟩ c = (⟨st, [], mk, ps, tx, wi⟩, ol ++ [execA c]) from by rw [groundP, if_pos h128, if_pos h128, if_neg h27, if_pos h32, HOL.out])
          by_cases h32' : c < 32
          · have e2 : decide (c < 32) = true := decide_eq_true h32'
            clear h32'
            obtain ⟨p0, p1, p2, p3, p4, p5, p6, p7, p8⟩ := HV4.out.cells rfl
            simp only at p0 p1 p2 p3 p4 p5 p6 p7 p8
            have HOLN := Aside0.mk (show (ol.length + 1) * 72 ≤ 140737488355328 from by have := HON.out; omega)
            clear h27 h32
            go_upto_region 9 with fail
            have HVd := Aside0.mk HV4.out.drew
            have HSd := Aside0.mk (Nat.le_trans HWZ.out (below_drew (Below.refl w4.heap.size w4)).size)
            clear p0 p1 p2 p3 p4 p5 p6 p7 p8
            refine start_ (n := 8) (S := fun w' => w'.cell? ⟨g, 0, none⟩ = some (.int .i64 st) ∧ w'.cell? ⟨g, 1, none⟩ = some (.int .u8 0) ∧ w'.cell? ⟨g, 2, none⟩ = some (.int .u8 0) ∧ w'.cell? ⟨g, 3, none⟩ = some (.int .u8 0) ∧ w'.cell? ⟨g, 4, none⟩ = some (.int .i64 0) ∧ w'.cell? ⟨g, 5, none⟩ = some (.string mk) ∧ w'.cell? ⟨g, 6, none⟩ = some (.slice A n cp) ∧ w'.cell? ⟨g, 7, none⟩ = some (.string tx) ∧ w'.cell? ⟨g, 8, none⟩ = some (.int .i64 wi)) (ds := [6]) #[false, false, false, false, false, false, false, false] (by kernel_rfl) rfl rfl ⟨(HVd.out.cells rfl).1, (HVd.out.cells rfl).2.1, (HVd.out.cells rfl).2.2.1, (HVd.out.cells rfl).2.2.2.1, (HVd.out.cells rfl).2.2.2.2.1, (HVd.out.cells rfl).2.2.2.2.2.1, (HVd.out.cells rfl).2.2.2.2.2.2.1, (HVd.out.cells rfl).2.2.2.2.2.2.2.1, (HVd.out.cells rfl).2.2.2.2.2.2.2.2⟩ (fun hHeld => ?_)
            refine pure_ (i := 1) (N := some 33) (v := ?_) (a' := ?_) #[false, true, false, false, false, false, false, false] rfl rfl (by kernel_rfl) (fun _ _ _ h => h) (Or.inl ⟨by rfl, ?_⟩) ?_ ?_
            rotate_left
            · intro w'
              go_simp
              with_reducible rfl
            rotate_left
            · simp only [Act.put, List.setIfInBounds_toArray, List.set_cons_zero, List.set_cons_succ, i64_w, i32_w]
              rfl
            refine pure_ (i := 2) (N := some 34) (v := ?_) (a' := ?_) #[false, true, true, false, false, false, false, false] rfl rfl (by kernel_rfl) (fun _ _ _ h => h) (Or.inl ⟨by rfl, ?_⟩) ?_ ?_
            rotate_left
            · intro w'
              go_simp
              with_reducible rfl
            rotate_left
            · simp only [Act.put, List.setIfInBounds_toArray, List.set_cons_zero, List.set_cons_succ, i64_w, i32_w]
              rfl
            refine pure_ (i := 3) (N := some 35) (v := ?_) (a' := ?_) #[false, true, true, true, false, false, false, false] rfl rfl (by kernel_rfl) (fun _ _ _ h => h) (Or.inl ⟨by rfl, ?_⟩) ?_ ?_
            rotate_left
            · intro w'
              go_simp
              with_reducible rfl
            rotate_left
            · simp only [Act.put, List.setIfInBounds_toArray, List.set_cons_zero, List.set_cons_succ, i64_w, i32_w]
              rfl
            refine take_ (i := 0) (N := some 32) (v := ?_) (a' := ?_) #[true, true, true, true, false, false, false, false] rfl rfl (by kernel_rfl) (fun _ _ _ h => h) (Or.inl ⟨by rfl, ?_⟩) hHeld ?_ ?_
            rotate_left
            · rintro w' ⟨s0, s1, s2, s3, s4, s5, s6, s7, s8⟩
              go_simp
              with_reducible rfl
            rotate_left
            · simp only [Act.put, List.setIfInBounds_toArray, List.set_cons_zero, List.set_cons_succ, i64_w, i32_w]
              rfl
            refine one_ (i := 4) (N := some 36) #[true, true, true, true, true, false, false, false] rfl rfl (by kernel_rfl) (by decide) (fun K hK => ?_)
            refine value_ (w1 := ?_) (v := ?_) (by rfl) rfl ?_ ?_
            rotate_left 2
            · go_simp
              constructor
              · rfl
              · rfl
            refine hK.out _ _ ⟨((HVd.out.on (below_alloc (Below.refl _ _) _)).cells rfl).1, ((HVd.out.on (below_alloc (Below.refl _ _) _)).cells rfl).2.1, ((HVd.out.on (below_alloc (Below.refl _ _) _)).cells rfl).2.2.1, ((HVd.out.on (below_alloc (Below.refl _ _) _)).cells rfl).2.2.2.1, ((HVd.out.on (below_alloc (Below.refl _ _) _)).cells rfl).2.2.2.2.1, ((HVd.out.on (below_alloc (Below.refl _ _) _)).cells rfl).2.2.2.2.2.1, ((HVd.out.on (below_alloc (Below.refl _ _) _)).cells rfl).2.2.2.2.2.2.1, ((HVd.out.on (below_alloc (Below.refl _ _) _)).cells rfl).2.2.2.2.2.2.2.1, ((HVd.out.on (below_alloc (Below.refl _ _) _)).cells rfl).2.2.2.2.2.2.2.2⟩ (fun hHeld => ?_)
            clear hK K
            refine norm_ (a' := ?_) ?_ ?_
            rotate_left
            · show Act.put _ (some 36) _ = _
              simp only [Act.put, List.setIfInBounds_toArray, List.set_cons_zero, List.set_cons_succ, i64_w, i32_w]
              rfl
            refine one_ (i := 5) (N := some 37) #[true, true, true, true, true, true, false, false] rfl rfl (by kernel_rfl) (by decide) (fun K hK => ?_)
            refine Kd.R_append_step k37 (w0 := w4.drew) wc.heap.size (by rfl) (.tmp 33) (.tmp 36) 29 37 (.agg #[(.int .i64 0), (.int .i32 0), (.int .u8 0), (.string ⟨#[]⟩), (.slice none 0 0), (.string ⟨#[]⟩)]) 72 rfl Tryd.underlying29 info37 rfl (by decide) (by omega) vo ol (execA c) [.int .i64 1, .int .i32 0, .int .u8 c, .string ⟨#[]⟩, .slice none 0 0, .string ⟨#[]⟩] (fun _ => True) (fun _ => False) rfl rfl ?aP (fun _ hk => hk.elim) ?aF (Kd.R_drew HO4.out) (Below.refl _ _) HSd.out HOLN.out ?_; (case aP => exact k37_mkM _ _ _ (execA c) (Kd.R_nil _ _ _ _ _)); (case aF => exact fun _ _ => trivial)
            intro v8 w8 ho hb hg hat
            have HO8 := Aside0.mk ho
            have HV8 := Aside0.mk (V2.onB HVd.out hb (blk_lt HV.out.1) (blk_lt HV.out.2.1))
            clear ho hb hg hat
            refine hK.out _ _ ⟨(HV8.out.cells rfl).1, (HV8.out.cells rfl).2.1, (HV8.out.cells rfl).2.2.1, (HV8.out.cells rfl).2.2.2.1, (HV8.out.cells rfl).2.2.2.2.1, (HV8.out.cells rfl).2.2.2.2.2.1, (HV8.out.cells rfl).2.2.2.2.2.2.1, (HV8.out.cells rfl).2.2.2.2.2.2.2.1, (HV8.out.cells rfl).2.2.2.2.2.2.2.2⟩ (fun hHeld => ?_)
            clear hK K
            refine norm_ (a' := ?_) ?_ ?_
            rotate_left
            · show Act.put _ (some 37) _ = _
              simp only [Act.put, List.setIfInBounds_toArray, List.set_cons_zero, List.set_cons_succ, i64_w, i32_w]
              rfl
            refine last_ (i := 6) (N := none) #[true, true, true, true, true, true, true, false] rfl rfl (by kernel_rfl) (by decide) (fun K hK => ?_)
            obtain ⟨z0, z1, z2, z3, z4, z5, z6, z7, z8⟩ := HV8.out.zero
            obtain ⟨y0, y1, y2, y3, y4, y5, y6, y7, y8⟩ := HV8.out.thaw
            refine skip_ (w1 := ?_) (by rfl) rfl ?_ ?_
            rotate_left
            · go_simp
              rfl
            refine hK.out _ _ ?_
            clear hK K
            refine pure_ (i := 7) (N := some 5) (v := ?_) (a' := ?_) #[true, true, true, true, true, true, true, true] rfl rfl (by kernel_rfl) (fun _ _ _ h => h) (Or.inl ⟨by rfl, ?_⟩) ?_ ?_
            rotate_left
            · intro w'
              go_simp
              with_reducible rfl
            rotate_left
            · simp only [Act.put, List.setIfInBounds_toArray, List.set_cons_zero, List.set_cons_succ, i64_w, i32_w]
              rfl
            refine done_ (by kernel_rfl) ?_
            go_wp2
            have hf := HV8.out.ret (.int .i64 st) (.int .u8 0) (.int .u8 0) (.int .u8 0) (.int .i64 0) (.string mk) (.slice A n cp) (.string tx) (.int .i64 wi)
            refine bodyPost_ret (results_ct Tryd.results20 _ _ gr 28 (pcells ⟨st, [], mk, ps, tx, wi⟩ (.slice A n cp)) (0, 0) _ rfl hf.2.1 hup rfl (by kernel_rfl)) rfl ⟨v8, A, n, cp, ?_, by rw [HEP.out]; exact Kd.C_below HPS.out hf.2.2.2.2.2, ?_, hf.2.2.2.2.2, fun _ _ => .inl ⟨rfl, rfl⟩⟩
            · rw [HEP.out]; rfl
            · rw [HEP.out]; exact Kd.R_mono (Kd.R_lower (Kd.R_keep (Kd.R_mono (ok' := fun k => k ≠ gr) (Kd.R_bound HO8.out) (fun k hk => by have a1 := hk.2.1; have a2 := blk_lt HV.out.2.1; omega)) (keep9 _ _ _ _ _ _ _ _ _ _ _) (fun k h => h)) HV.out.2.2.2.2.2.size) (fun _ _ => trivial)
          · have e2 : decide (c < 32) = false := decide_eq_false h32'
            have e3 : (c == 127) = true := beq_iff_eq.mpr (by omega)
            clear h32'
            obtain ⟨p0, p1, p2, p3, p4, p5, p6, p7, p8⟩ := HV4.out.cells rfl
            simp only at p0 p1 p2 p3 p4 p5 p6 p7 p8
            have HOLN := Aside0.mk (show (ol.length + 1) * 72 ≤ 140737488355328 from by have := HON.out; omega)
            clear h27 h32
            go_upto_region 9 with fail
            have HVd := Aside0.mk HV4.out.drew
            have HSd := Aside0.mk (Nat.le_trans HWZ.out (below_drew (Below.refl w4.heap.size w4)).size)
            clear p0 p1 p2 p3 p4 p5 p6 p7 p8
            refine start_ (n := 8) (S := fun w' => w'.cell? ⟨g, 0, none⟩ = some (.int .i64 st) ∧ w'.cell? ⟨g, 1, none⟩ = some (.int .u8 0) ∧ w'.cell? ⟨g, 2, none⟩ = some (.int .u8 0) ∧ w'.cell? ⟨g, 3, none⟩ = some (.int .u8 0) ∧ w'.cell? ⟨g, 4, none⟩ = some (.int .i64 0) ∧ w'.cell? ⟨g, 5, none⟩ = some (.string mk) ∧ w'.cell? ⟨g, 6, none⟩ = some (.slice A n cp) ∧ w'.cell? ⟨g, 7, none⟩ = some (.string tx) ∧ w'.cell? ⟨g, 8, none⟩ = some (.int .i64 wi)) (ds := [6]) #[false, false, false, false, false, false, false, false] (by kernel_rfl) rfl rfl ⟨(HVd.out.cells rfl).1, (HVd.out.cells rfl).2.1, (HVd.out.cells rfl).2.2.1, (HVd.out.cells rfl).2.2.2.1, (HVd.out.cells rfl).2.2.2.2.1, (HVd.out.cells rfl).2.2.2.2.2.1, (HVd.out.cells rfl).2.2.2.2.2.2.1, (HVd.out.cells rfl).2.2.2.2.2.2.2.1, (HVd.out.cells rfl).2.2.2.2.2.2.2.2⟩ (fun hHeld => ?_)
            refine pure_ (i := 1) (N := some 33) (v := ?_) (a' := ?_) #[false, true, false, false, false, false, false, false] rfl rfl (by kernel_rfl) (fun _ _ _ h => h) (Or.inl ⟨by rfl, ?_⟩) ?_ ?_
            rotate_left
            · intro w'
              go_simp
              with_reducible rfl
            rotate_left
            · simp only [Act.put, List.setIfInBounds_toArray, List.set_cons_zero, List.set_cons_succ, i64_w, i32_w]
              rfl
            refine pure_ (i := 2) (N := some 34) (v := ?_) (a' := ?_) #[false, true, true, false, false, false, false, false] rfl rfl (by kernel_rfl) (fun _ _ _ h => h) (Or.inl ⟨by rfl, ?_⟩) ?_ ?_
            rotate_left
            · intro w'
              go_simp
              with_reducible rfl
            rotate_left
            · simp only [Act.put, List.setIfInBounds_toArray, List.set_cons_zero, List.set_cons_succ, i64_w, i32_w]
              rfl
            refine pure_ (i := 3) (N := some 35) (v := ?_) (a' := ?_) #[false, true, true, true, false, false, false, false] rfl rfl (by kernel_rfl) (fun _ _ _ h => h) (Or.inl ⟨by rfl, ?_⟩) ?_ ?_
            rotate_left
            · intro w'
              go_simp
              with_reducible rfl
            rotate_left
            · simp only [Act.put, List.setIfInBounds_toArray, List.set_cons_zero, List.set_cons_succ, i64_w, i32_w]
              rfl
            refine take_ (i := 0) (N := some 32) (v := ?_) (a' := ?_) #[true, true, true, true, false, false, false, false] rfl rfl (by kernel_rfl) (fun _ _ _ h => h) (Or.inl ⟨by rfl, ?_⟩) hHeld ?_ ?_
            rotate_left
            · rintro w' ⟨s0, s1, s2, s3, s4, s5, s6, s7, s8⟩
              go_simp
              with_reducible rfl
            rotate_left
            · simp only [Act.put, List.setIfInBounds_toArray, List.set_cons_zero, List.set_cons_succ, i64_w, i32_w]
              rfl
            refine one_ (i := 4) (N := some 36) #[true, true, true, true, true, false, false, false] rfl rfl (by kernel_rfl) (by decide) (fun K hK => ?_)
            refine value_ (w1 := ?_) (v := ?_) (by rfl) rfl ?_ ?_
            rotate_left 2
            · go_simp
              constructor
              · rfl
              · rfl
            refine hK.out _ _ ⟨((HVd.out.on (below_alloc (Below.refl _ _) _)).cells rfl).1, ((HVd.out.on (below_alloc (Below.refl _ _) _)).cells rfl).2.1, ((HVd.out.on (below_alloc (Below.refl _ _) _)).cells rfl).2.2.1, ((HVd.out.on (below_alloc (Below.refl _ _) _)).cells rfl).2.2.2.1, ((HVd.out.on (below_alloc (Below.refl _ _) _)).cells rfl).2.2.2.2.1, ((HVd.out.on (below_alloc (Below.refl _ _) _)).cells rfl).2.2.2.2.2.1, ((HVd.out.on (below_alloc (Below.refl _ _) _)).cells rfl).2.2.2.2.2.2.1, ((HVd.out.on (below_alloc (Below.refl _ _) _)).cells rfl).2.2.2.2.2.2.2.1, ((HVd.out.on (below_alloc (Below.refl _ _) _)).cells rfl).2.2.2.2.2.2.2.2⟩ (fun hHeld => ?_)
            clear hK K
            refine norm_ (a' := ?_) ?_ ?_
            rotate_left
            · show Act.put _ (some 36) _ = _
              simp only [Act.put, List.setIfInBounds_toArray, List.set_cons_zero, List.set_cons_succ, i64_w, i32_w]
              rfl
            refine one_ (i := 5) (N := some 37) #[true, true, true, true, true, true, false, false] rfl rfl (by kernel_rfl) (by decide) (fun K hK => ?_)
            refine Kd.R_append_step k37 (w0 := w4.drew) wc.heap.size (by rfl) (.tmp 33) (.tmp 36) 29 37 (.agg #[(.int .i64 0), (.int .i32 0), (.int .u8 0), (.string ⟨#[]⟩), (.slice none 0 0), (.string ⟨#[]⟩)]) 72 rfl Tryd.underlying29 info37 rfl (by decide) (by omega) vo ol (execA c) [.int .i64 1, .int .i32 0, .int .u8 c, .string ⟨#[]⟩, .slice none 0 0, .string ⟨#[]⟩] (fun _ => True) (fun _ => False) rfl rfl ?aP (fun _ hk => hk.elim) ?aF (Kd.R_drew HO4.out) (Below.refl _ _) HSd.out HOLN.out ?_; (case aP => exact k37_mkM _ _ _ (execA c) (Kd.R_nil _ _ _ _ _)); (case aF => exact fun _ _ => trivial)
            intro v8 w8 ho hb hg hat
            have HO8 := Aside0.mk ho
            have HV8 := Aside0.mk (V2.onB HVd.out hb (blk_lt HV.out.1) (blk_lt HV.out.2.1))
            clear ho hb hg hat
            refine hK.out _ _ ⟨(HV8.out.cells rfl).1, (HV8.out.cells rfl).2.1, (HV8.out.cells rfl).2.2.1, (HV8.out.cells rfl).2.2.2.1, (HV8.out.cells rfl).2.2.2.2.1, (HV8.out.cells rfl).2.2.2.2.2.1, (HV8.out.cells rfl).2.2.2.2.2.2.1, (HV8.out.cells rfl).2.2.2.2.2.2.2.1, (HV8.out.cells rfl).2.2.2.2.2.2.2.2⟩ (fun hHeld => ?_)
            clear hK K
            refine norm_ (a' := ?_) ?_ ?_
            rotate_left
            · show Act.put _ (some 37) _ = _
              simp only [Act.put, List.setIfInBounds_toArray, List.set_cons_zero, List.set_cons_succ, i64_w, i32_w]
              rfl
            refine last_ (i := 6) (N := none) #[true, true, true, true, true, true, true, false] rfl rfl (by kernel_rfl) (by decide) (fun K hK => ?_)
            obtain ⟨z0, z1, z2, z3, z4, z5, z6, z7, z8⟩ := HV8.out.zero
            obtain ⟨y0, y1, y2, y3, y4, y5, y6, y7, y8⟩ := HV8.out.thaw
            refine skip_ (w1 := ?_) (by rfl) rfl ?_ ?_
            rotate_left
            · go_simp
              rfl
            refine hK.out _ _ ?_
            clear hK K
            refine pure_ (i := 7) (N := some 5) (v := ?_) (a' := ?_) #[true, true, true, true, true, true, true, true] rfl rfl (by kernel_rfl) (fun _ _ _ h => h) (Or.inl ⟨by rfl, ?_⟩) ?_ ?_
            rotate_left
            · intro w'
              go_simp
              with_reducible rfl
            rotate_left
            · simp only [Act.put, List.setIfInBounds_toArray, List.set_cons_zero, List.set_cons_succ, i64_w, i32_w]
              rfl
            refine done_ (by kernel_rfl) ?_
            go_wp2
            have hf := HV8.out.ret (.int .i64 st) (.int .u8 0) (.int .u8 0) (.int .u8 0) (.int .i64 0) (.string mk) (.slice A n cp) (.string tx) (.int .i64 wi)
            refine bodyPost_ret (results_ct Tryd.results20 _ _ gr 28 (pcells ⟨st, [], mk, ps, tx, wi⟩ (.slice A n cp)) (0, 0) _ rfl hf.2.1 hup rfl (by kernel_rfl)) rfl ⟨v8, A, n, cp, ?_, by rw [HEP.out]; exact Kd.C_below HPS.out hf.2.2.2.2.2, ?_, hf.2.2.2.2.2, fun _ _ => .inl ⟨rfl, rfl⟩⟩
            · rw [HEP.out]; rfl
            · rw [HEP.out]; exact Kd.R_mono (Kd.R_lower (Kd.R_keep (Kd.R_mono (ok' := fun k => k ≠ gr) (Kd.R_bound HO8.out) (fun k hk => by have a1 := hk.2.1; have a2 := blk_lt HV.out.2.1; omega)) (keep9 _ _ _ _ _ _ _ _ _ _ _) (fun k h => h)) HV.out.2.2.2.2.2.size) (fun _ _ => trivial)
        · have HEP := Aside0.mk (show groundP ⟨st, u, mk, ps, tx, wi⟩ c = (⟨st, (UtfPure.drain (([] : List Int) ++ [c])).2, mk, ps, tx, wi⟩, ol ++ printedP (UtfPure.drain (([] : List Int) ++ [c])).1) from by rw [groundP, if_pos h128, if_pos h128, if_neg h27, if_neg h32, HOL.out])
          have e2 : decide (c < 32) = false := decide_eq_false (by omega)
          have e3 : (c == 127) = false := beq_eq_false_iff_ne.mpr (by omega)
          have HV4' := HV4
          obtain ⟨p0, p1, p2, p3, p4, p5, p6, p7, p8⟩ := HV4.out.cells rfl
          simp only at p0 p1 p2 p3 p4 p5 p6 p7 p8
          obtain ⟨fp0, fp1, fp2, fp3, fp4, fp5, fp6, fp7, fp8⟩ := HV4.out.thawp
          clear h27 h32
          have HTW := Aside0.mk (tabs_below HTB.out HV4.out.2.2.2.2.2)
          go_wp2_with fail
          refine (feed_c ([] : List Int) c w4 HTW.out (fun x hx => by simp at hx) (Nat.zero_le _) ⟨by omega, by omega⟩).mono ?_
          rintro e wx ⟨vx, rfl, hl, hb⟩
          obtain ⟨dr, hdr⟩ : ∃ dr : List Int, dr = (UtfPure.drain (([] : List Int) ++ [c])).1 := ⟨_, rfl⟩
          obtain ⟨du, hdu⟩ : ∃ du : List Int, du = (UtfPure.drain (([] : List Int) ++ [c])).2 := ⟨_, rfl⟩
          rw [← hdr] at hl
          rw [← hdu]
          have HDR := Aside0.mk hdr
          have HDU := Aside0.mk hdu
          have HDN := Aside0.mk (show dr.length ≤ 4 from by rw [hdr]; have h1 := UtfPure.drain_len (([] : List Int) ++ [c]); rw [List.length_append] at h1; have h2 : ([] : List Int).length ≤ 3 := (Nat.zero_le _); have h3 : ([c] : List Int).length = 1 := rfl; omega)
          obtain ⟨A1, c1, rfl⟩ := Kd.R_slice hl
          rw [show dval du = .agg #[.int .u8 (du[0]?.getD 0), .int .u8 (du[1]?.getD 0), .int .u8 (du[2]?.getD 0), .int .i64 du.length] from rfl]
          have HVx := Aside0.mk (HV4.out.on hb)
          have HLx := Aside0.mk hl
          have HOx := Aside0.mk (Kd.R_below HO4.out hb)
          have HFx := Aside0.mk (fun k (hk : w4.heap.size ≤ k) => Kd.fresh_ok HO4.out k hk)
          have HSx := Aside0.mk (Nat.le_trans (show wc.heap.size ≤ w4.heap.size from HWZ.out) hb.size)
          have HLB := Aside0.mk (show g < w4.heap.size from blk_lt HV4.out.1)
          clear hl hb hdr hdu p0 p1 p2 p3 p4 p5 p6 p7 p8 fp0 fp1 fp2 fp3 fp4 fp5 fp6 fp7 fp8
          obtain ⟨p0, p1, p2, p3, p4, p5, p6, p7, p8⟩ := HVx.out.cells rfl
          simp only at p0 p1 p2 p3 p4 p5 p6 p7 p8
          obtain ⟨fp0, fp1, fp2, fp3, fp4, fp5, fp6, fp7, fp8⟩ := HVx.out.thawp
          go_upto_region 11 with fail
          obtain ⟨wy, hwy⟩ : ∃ wy, wy = (((wx.setCell ⟨g, 1, none⟩ (.int .u8 (du[0]?.getD 0))).setCell ⟨g, 2, none⟩ (.int .u8 (du[1]?.getD 0))).setCell ⟨g, 3, none⟩ (.int .u8 (du[2]?.getD 0))).setCell ⟨g, 4, none⟩ (.int .i64 du.length) := ⟨_, rfl⟩
          have HVy := Aside0.mk (show V2 w wy g gr (pcells ⟨st, du, mk, ps, tx, wi⟩ (.slice A n cp)) zcells from by rw [hwy]; exact V2.set4 HVx.out _ _ _ _)
          have hk4 : KeepBut wx wy g none := by rw [hwy]; exact keep4 wx g _ _ _ _
          have HLy := Aside0.mk (Kd.R_drew (Kd.R_mono (ok' := fun k => some k ≠ (vo : Value).ownBlock) (Kd.R_keep (Kd.R_bound HLx.out) hk4 (fun k hk => by have a1 := hk.2.1; have a2 := HLB.out; omega)) (fun k hk => HFx.out k hk.2.1)))
          have HOy := Aside0.mk (Kd.R_drew (Kd.R_mono (ok' := fun _ => True) (Kd.R_keep (Kd.R_bound HOx.out) hk4 (fun k hk => by have a1 := hk.2.1; have a2 := blk_lt HV.out.1; omega)) (fun _ _ => trivial)))
          have HSy := Aside0.mk (Nat.le_trans (Nat.le_trans HSx.out hk4.1) (below_drew (Below.refl wy.heap.size wy)).size)
          rw [← hwy]
          have HVd := Aside0.mk HVy.out.drew
          clear hwy hk4 p0 p1 p2 p3 p4 p5 p6 p7 p8 fp0 fp1 fp2 fp3 fp4 fp5 fp6 fp7 fp8
          refine start_ (n := 6) (S := fun w' => w'.cell? ⟨g, 0, none⟩ = some (.int .i64 st) ∧ w'.cell? ⟨g, 1, none⟩ = some (.int .u8 (du[0]?.getD 0)) ∧ w'.cell? ⟨g, 2, none⟩ = some (.int .u8 (du[1]?.getD 0)) ∧ w'.cell? ⟨g, 3, none⟩ = some (.int .u8 (du[2]?.getD 0)) ∧ w'.cell? ⟨g, 4, none⟩ = some (.int .i64 du.length) ∧ w'.cell? ⟨g, 5, none⟩ = some (.string mk) ∧ w'.cell? ⟨g, 6, none⟩ = some (.slice A n cp) ∧ w'.cell? ⟨g, 7, none⟩ = some (.string tx) ∧ w'.cell? ⟨g, 8, none⟩ = some (.int .i64 wi)) (ds := [4]) #[false, false, false, false, false, false] (by kernel_rfl) rfl rfl ⟨(HVd.out.cells rfl).1, (HVd.out.cells rfl).2.1, (HVd.out.cells rfl).2.2.1, (HVd.out.cells rfl).2.2.2.1, (HVd.out.cells rfl).2.2.2.2.1, (HVd.out.cells rfl).2.2.2.2.2.1, (HVd.out.cells rfl).2.2.2.2.2.2.1, (HVd.out.cells rfl).2.2.2.2.2.2.2.1, (HVd.out.cells rfl).2.2.2.2.2.2.2.2⟩ (fun hHeld => ?_)
          refine pure_ (i := 1) (N := some 47) (v := ?_) (a' := ?_) #[false, true, false, false, false, false] rfl rfl (by kernel_rfl) (fun _ _ _ h => h) (Or.inl ⟨by rfl, ?_⟩) ?_ ?_
          rotate_left
          · intro w'
            go_simp
            with_reducible rfl
          rotate_left
          · simp only [Act.put, List.setIfInBounds_toArray, List.set_cons_zero, List.set_cons_succ, i64_w, i32_w]
            rfl
          refine pure_ (i := 2) (N := some 48) (v := ?_) (a' := ?_) #[false, true, true, false, false, false] rfl rfl (by kernel_rfl) (fun _ _ _ h => h) (Or.inl ⟨by rfl, ?_⟩) ?_ ?_
          rotate_left
          · intro w'
            go_simp
            with_reducible rfl
          rotate_left
          · simp only [Act.put, List.setIfInBounds_toArray, List.set_cons_zero, List.set_cons_succ, i64_w, i32_w]
            rfl
          refine take_ (i := 0) (N := some 46) (v := ?_) (a' := ?_) #[true, true, true, false, false, false] rfl rfl (by kernel_rfl) (fun _ _ _ h => h) (Or.inl ⟨by rfl, ?_⟩) hHeld ?_ ?_
          rotate_left
          · rintro w' ⟨s0, s1, s2, s3, s4, s5, s6, s7, s8⟩
            go_simp
            with_reducible rfl
          rotate_left
          · simp only [Act.put, List.setIfInBounds_toArray, List.set_cons_zero, List.set_cons_succ, i64_w, i32_w]
            rfl
          refine one_ (i := 3) (N := some 49) #[true, true, true, true, false, false] rfl rfl (by kernel_rfl) (by decide) (fun K hK => ?_)
          refine goes_ Tryd.func37 (by kernel_rfl) rfl #[vo, .slice A1 dr.length c1] (by rfl) rfl rfl (by simp only [List.map_toArray, List.map_cons, List.map_nil]; rfl) ?_
          with_reducible refine ((printed_c wc.heap.size ol vo A1 c1 dr wy.drew HOy.out _ HLy.out HSy.out (by have := HDN.out; have := HON.out; omega))).mono ?_
          rintro e wz ⟨vz, rfl, hz, hbz⟩
          refine ⟨_, rfl, ?_⟩
          have HVz := Aside0.mk (V2.onB HVd.out hbz (blk_lt HV.out.1) (blk_lt HV.out.2.1))
          have HRz := Aside0.mk hz
          clear hz hbz
          refine hK.out _ _ ⟨(HVz.out.cells rfl).1, (HVz.out.cells rfl).2.1, (HVz.out.cells rfl).2.2.1, (HVz.out.cells rfl).2.2.2.1, (HVz.out.cells rfl).2.2.2.2.1, (HVz.out.cells rfl).2.2.2.2.2.1, (HVz.out.cells rfl).2.2.2.2.2.2.1, (HVz.out.cells rfl).2.2.2.2.2.2.2.1, (HVz.out.cells rfl).2.2.2.2.2.2.2.2⟩ (fun hHeld => ?_)
          clear hK K
          refine norm_ (a' := ?_) ?_ ?_
          rotate_left
          · show Act.put _ (some 49) _ = _
            simp only [Act.put, List.setIfInBounds_toArray, List.set_cons_zero, List.set_cons_succ, i64_w, i32_w]
            rfl
          refine last_ (i := 4) (N := none) #[true, true, true, true, true, false] rfl rfl (by kernel_rfl) (by decide) (fun K hK => ?_)
          obtain ⟨z0, z1, z2, z3, z4, z5, z6, z7, z8⟩ := HVz.out.zero
          obtain ⟨y0, y1, y2, y3, y4, y5, y6, y7, y8⟩ := HVz.out.thaw
          refine skip_ (w1 := ?_) (by rfl) rfl ?_ ?_
          rotate_left
          · go_simp
            rfl
          refine hK.out _ _ ?_
          clear hK K
          refine pure_ (i := 5) (N := some 5) (v := ?_) (a' := ?_) #[true, true, true, true, true, true] rfl rfl (by kernel_rfl) (fun _ _ _ h => h) (Or.inl ⟨by rfl, ?_⟩) ?_ ?_
          rotate_left
          · intro w'
            go_simp
            with_reducible rfl
          rotate_left
          · simp only [Act.put, List.setIfInBounds_toArray, List.set_cons_zero, List.set_cons_succ, i64_w, i32_w]
            rfl
          refine done_ (by kernel_rfl) ?_
          go_wp2
          have hf := HVz.out.ret (.int .i64 st) (.int .u8 (du[0]?.getD 0)) (.int .u8 (du[1]?.getD 0)) (.int .u8 (du[2]?.getD 0)) (.int .i64 du.length) (.string mk) (.slice A n cp) (.string tx) (.int .i64 wi)
          refine bodyPost_ret (results_ct Tryd.results20 _ _ gr 28 (pcells ⟨st, du, mk, ps, tx, wi⟩ (.slice A n cp)) (0, 0) _ rfl hf.2.1 hup rfl (by kernel_rfl)) rfl ⟨vz, A, n, cp, ?_, by rw [HEP.out]; exact Kd.C_below HPS.out hf.2.2.2.2.2, ?_, hf.2.2.2.2.2, fun _ _ => .inl ⟨rfl, rfl⟩⟩
          · rw [HEP.out, ← HDU.out]; rfl
          · rw [HEP.out, ← HDR.out]; exact Kd.R_mono (Kd.R_lower (Kd.R_keep (Kd.R_mono (ok' := fun k => k ≠ gr) (Kd.R_bound HRz.out) (fun k hk => by have a1 := hk.2.1; have a2 := blk_lt HV.out.2.1; omega)) (keep9 _ _ _ _ _ _ _ _ _ _ _) (fun k h => h)) HV.out.2.2.2.2.2.size) (fun _ _ => trivial)
    · have hd : decide (c < 128) = false := decide_eq_false h128
      have HEP := Aside0.mk (show groundP ⟨st, u, mk, ps, tx, wi⟩ c = (⟨st, (UtfPure.drain (u ++ [c])).2, mk, ps, tx, wi⟩, [] ++ printedP (UtfPure.drain (u ++ [c])).1) from by rw [groundP, if_neg h128, if_neg h128, if_neg (by omega), if_neg (by omega)])
      have e1 : (c == 27) = false := beq_eq_false_iff_ne.mpr (by omega)
      have e2 : decide (c < 32) = false := decide_eq_false (by omega)
      have e3 : (c == 127) = false := beq_eq_false_iff_ne.mpr (by omega)
      have HO0 := Aside0.mk (Kd.R_nil k37 37 wc wc.heap.size (fun _ => True))
      have HWZ := Aside0.mk (Nat.le_refl wc.heap.size)
      have HON := Aside0.mk (show ([] : List S37).length ≤ 3 from Nat.zero_le _)
      have HTW := Aside0.mk (tabs_below HTB.out HVP.out.2.2.2.2.2)
      go_wp2_with fail
      refine (feed_c u c wc HTW.out HUB.out HUL.out ⟨by omega, by omega⟩).mono ?_
      rintro e wx ⟨vx, rfl, hl, hb⟩
      obtain ⟨dr, hdr⟩ : ∃ dr : List Int, dr = (UtfPure.drain (u ++ [c])).1 := ⟨_, rfl⟩
      obtain ⟨du, hdu⟩ : ∃ du : List Int, du = (UtfPure.drain (u ++ [c])).2 := ⟨_, rfl⟩
      rw [← hdr] at hl
      rw [← hdu]
      have HDR := Aside0.mk hdr
      have HDU := Aside0.mk hdu
      have HDN := Aside0.mk (show dr.length ≤ 4 from by rw [hdr]; have h1 := UtfPure.drain_len (u ++ [c]); rw [List.length_append] at h1; have h2 : u.length ≤ 3 := HUL.out; have h3 : ([c] : List Int).length = 1 := rfl; omega)
      obtain ⟨A1, c1, rfl⟩ := Kd.R_slice hl
      rw [show dval du = .agg #[.int .u8 (du[0]?.getD 0), .int .u8 (du[1]?.getD 0), .int .u8 (du[2]?.getD 0), .int .i64 du.length] from rfl]
      have HVx := Aside0.mk (HVP.out.on hb)
      have HLx := Aside0.mk hl
      have HOx := Aside0.mk (Kd.R_below HO0.out hb)
      have HFx := Aside0.mk (fun k (hk : wc.heap.size ≤ k) => Kd.fresh_ok HO0.out k hk)
      have HSx := Aside0.mk (Nat.le_trans (show wc.heap.size ≤ wc.heap.size from HWZ.out) hb.size)
      have HLB := Aside0.mk (show g < wc.heap.size from blk_lt HVP.out.1)
      clear hl hb hdr hdu p0 p1 p2 p3 p4 p5 p6 p7 p8 fp0 fp1 fp2 fp3 fp4 fp5 fp6 fp7 fp8
      obtain ⟨p0, p1, p2, p3, p4, p5, p6, p7, p8⟩ := HVx.out.cells rfl
      simp only at p0 p1 p2 p3 p4 p5 p6 p7 p8
      obtain ⟨fp0, fp1, fp2, fp3, fp4, fp5, fp6, fp7, fp8⟩ := HVx.out.thawp
      go_upto_region 11 with fail
      obtain ⟨wy, hwy⟩ : ∃ wy, wy = (((wx.setCell ⟨g, 1, none⟩ (.int .u8 (du[0]?.getD 0))).setCell ⟨g, 2, none⟩ (.int .u8 (du[1]?.getD 0))).setCell ⟨g, 3, none⟩ (.int .u8 (du[2]?.getD 0))).setCell ⟨g, 4, none⟩ (.int .i64 du.length) := ⟨_, rfl⟩
      have HVy := Aside0.mk (show V2 w wy g gr (pcells ⟨st, du, mk, ps, tx, wi⟩ (.slice A n cp)) zcells from by rw [hwy]; exact V2.set4 HVx.out _ _ _ _)
      have hk4 : KeepBut wx wy g none := by rw [hwy]; exact keep4 wx g _ _ _ _
      have HLy := Aside0.mk (Kd.R_drew (Kd.R_mono (ok' := fun k => some k ≠ ((.slice none 0 0) : Value).ownBlock) (Kd.R_keep (Kd.R_bound HLx.out) hk4 (fun k hk => by have a1 := hk.2.1; have a2 := HLB.out; omega)) (fun k hk => HFx.out k hk.2.1)))
      have HOy := Aside0.mk (Kd.R_drew (Kd.R_mono (ok' := fun _ => True) (Kd.R_keep (Kd.R_bound HOx.out) hk4 (fun k hk => by have a1 := hk.2.1; have a2 := blk_lt HV.out.1; omega)) (fun _ _ => trivial)))
      have HSy := Aside0.mk (Nat.le_trans (Nat.le_trans HSx.out hk4.1) (below_drew (Below.refl wy.heap.size wy)).size)
      rw [← hwy]
      have HVd := Aside0.mk HVy.out.drew
      clear hwy hk4 p0 p1 p2 p3 p4 p5 p6 p7 p8 fp0 fp1 fp2 fp3 fp4 fp5 fp6 fp7 fp8
      refine start_ (n := 6) (S := fun w' => w'.cell? ⟨g, 0, none⟩ = some (.int .i64 st) ∧ w'.cell? ⟨g, 1, none⟩ = some (.int .u8 (du[0]?.getD 0)) ∧ w'.cell? ⟨g, 2, none⟩ = some (.int .u8 (du[1]?.getD 0)) ∧ w'.cell? ⟨g, 3, none⟩ = some (.int .u8 (du[2]?.getD 0)) ∧ w'.cell? ⟨g, 4, none⟩ = some (.int .i64 du.length) ∧ w'.cell? ⟨g, 5, none⟩ = some (.string mk) ∧ w'.cell? ⟨g, 6, none⟩ = some (.slice A n cp) ∧ w'.cell? ⟨g, 7, none⟩ = some (.string tx) ∧ w'.cell? ⟨g, 8, none⟩ = some (.int .i64 wi)) (ds := [4]) #[false, false, false, false, false, false] (by kernel_rfl) rfl rfl ⟨(HVd.out.cells rfl).1, (HVd.out.cells rfl).2.1, (HVd.out.cells rfl).2.2.1, (HVd.out.cells rfl).2.2.2.1, (HVd.out.cells rfl).2.2.2.2.1, (HVd.out.cells rfl).2.2.2.2.2.1, (HVd.out.cells rfl).2.2.2.2.2.2.1, (HVd.out.cells rfl).2.2.2.2.2.2.2.1, (HVd.out.cells rfl).2.2.2.2.2.2.2.2⟩ (fun hHeld => ?_)
      refine pure_ (i := 1) (N := some 47) (v := ?_) (a' := ?_) #[false, true, false, false, false, false] rfl rfl (by kernel_rfl) (fun _ _ _ h => h) (Or.inl ⟨by rfl, ?_⟩) ?_ ?_
      rotate_left
      · intro w'
        go_simp
        with_reducible rfl
      rotate_left
      · simp only [Act.put, List.setIfInBounds_toArray, List.set_cons_zero, List.set_cons_succ, i64_w, i32_w]
        rfl
      refine pure_ (i := 2) (N := some 48) (v := ?_) (a' := ?_) #[false, true, true, false, false, false] rfl rfl (by kernel_rfl) (fun _ _ _ h => h) (Or.inl ⟨by rfl, ?_⟩) ?_ ?_
      rotate_left
      · intro w'
        go_simp
        with_reducible rfl
      rotate_left
      · simp only [Act.put, List.setIfInBounds_toArray, List.set_cons_zero, List.set_cons_succ, i64_w, i32_w]
        rfl
      refine take_ (i := 0) (N := some 46) (v := ?_) (a' := ?_) #[true, true, true, false, false, false] rfl rfl (by kernel_rfl) (fun _ _ _ h => h) (Or.inl ⟨by rfl, ?_⟩) hHeld ?_ ?_
      rotate_left
      · rintro w' ⟨s0, s1, s2, s3, s4, s5, s6, s7, s8⟩
        go_simp
        with_reducible rfl
      rotate_left
      · simp only [Act.put, List.setIfInBounds_toArray, List.set_cons_zero, List.set_cons_succ, i64_w, i32_w]
        rfl
      refine one_ (i := 3) (N := some 49) #[true, true, true, true, false, false] rfl rfl (by kernel_rfl) (by decide) (fun K hK => ?_)
      refine goes_ Tryd.func37 (by kernel_rfl) rfl #[(.slice none 0 0), .slice A1 dr.length c1] (by rfl) rfl rfl (by simp only [List.map_toArray, List.map_cons, List.map_nil]; rfl) ?_
      with_reducible refine ((printed_c wc.heap.size ([] : List S37) (.slice none 0 0) A1 c1 dr wy.drew HOy.out _ HLy.out HSy.out (by have := HDN.out; have := HON.out; omega))).mono ?_
      rintro e wz ⟨vz, rfl, hz, hbz⟩
      refine ⟨_, rfl, ?_⟩
      have HVz := Aside0.mk (V2.onB HVd.out hbz (blk_lt HV.out.1) (blk_lt HV.out.2.1))
      have HRz := Aside0.mk hz
      clear hz hbz
      refine hK.out _ _ ⟨(HVz.out.cells rfl).1, (HVz.out.cells rfl).2.1, (HVz.out.cells rfl).2.2.1, (HVz.out.cells rfl).2.2.2.1, (HVz.out.cells rfl).2.2.2.2.1, (HVz.out.cells rfl).2.2.2.2.2.1, (HVz.out.cells rfl).2.2.2.2.2.2.1, (HVz.out.cells rfl).2.2.2.2.2.2.2.1, (HVz.out.cells rfl).2.2.2.2.2.2.2.2⟩ (fun hHeld => ?_)
      clear hK K
      refine norm_ (a' := ?_) ?_ ?_
      rotate_left
      · show Act.put _ (some 49) _ = _
        simp only [Act.put, List.setIfInBounds_toArray, List.set_cons_zero, List.set_cons_succ, i64_w, i32_w]
        rfl
      refine last_ (i := 4) (N := none) #[true, true, true, true, true, false] rfl rfl (by kernel_rfl) (by decide) (fun K hK => ?_)
      obtain ⟨z0, z1, z2, z3, z4, z5, z6, z7, z8⟩ := HVz.out.zero
      obtain ⟨y0, y1, y2, y3, y4, y5, y6, y7, y8⟩ := HVz.out.thaw
      refine skip_ (w1 := ?_) (by rfl) rfl ?_ ?_
      rotate_left
      · go_simp
        rfl
      refine hK.out _ _ ?_
      clear hK K
      refine pure_ (i := 5) (N := some 5) (v := ?_) (a' := ?_) #[true, true, true, true, true, true] rfl rfl (by kernel_rfl) (fun _ _ _ h => h) (Or.inl ⟨by rfl, ?_⟩) ?_ ?_
      rotate_left
      · intro w'
        go_simp
        with_reducible rfl
      rotate_left
      · simp only [Act.put, List.setIfInBounds_toArray, List.set_cons_zero, List.set_cons_succ, i64_w, i32_w]
        rfl
      refine done_ (by kernel_rfl) ?_
      go_wp2
      have hf := HVz.out.ret (.int .i64 st) (.int .u8 (du[0]?.getD 0)) (.int .u8 (du[1]?.getD 0)) (.int .u8 (du[2]?.getD 0)) (.int .i64 du.length) (.string mk) (.slice A n cp) (.string tx) (.int .i64 wi)
      refine bodyPost_ret (results_ct Tryd.results20 _ _ gr 28 (pcells ⟨st, du, mk, ps, tx, wi⟩ (.slice A n cp)) (0, 0) _ rfl hf.2.1 hup rfl (by kernel_rfl)) rfl ⟨vz, A, n, cp, ?_, by rw [HEP.out]; exact Kd.C_below HPS.out hf.2.2.2.2.2, ?_, hf.2.2.2.2.2, fun _ _ => .inl ⟨rfl, rfl⟩⟩
      · rw [HEP.out, ← HDU.out]; rfl
      · rw [HEP.out, ← HDR.out]; exact Kd.R_mono (Kd.R_lower (Kd.R_keep (Kd.R_mono (ok' := fun k => k ≠ gr) (Kd.R_bound HRz.out) (fun k hk => by have a1 := hk.2.1; have a2 := blk_lt HV.out.2.1; omega)) (keep9 _ _ _ _ _ _ _ _ _ _ _) (fun k h => h)) HV.out.2.2.2.2.2.size) (fun _ _ => trivial)
end Go.Proofs.YtkdkajcokoggiaaDoor.VtGround
