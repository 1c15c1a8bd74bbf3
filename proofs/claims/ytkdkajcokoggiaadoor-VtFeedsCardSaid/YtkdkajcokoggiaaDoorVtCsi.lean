/- The parser's some and csi as contracts. -/
import Derived.Test.YtkdkajcokoggiaaDoorVtStr
namespace Go.Proofs.YtkdkajcokoggiaaDoor.VtCsi
open Go.RowKit Go.Lib Go.Proofs.YtkdkajcokoggiaaDoor.Kit Go.Proofs.YtkdkajcokoggiaaDoor.Plain Go.Proofs.YtkdkajcokoggiaaDoor.Mine Go.Proofs.YtkdkajcokoggiaaDoor.UtfPure Go.Proofs.YtkdkajcokoggiaaDoor.VtPure Go.Proofs.YtkdkajcokoggiaaDoor.VtSmall Go.Proofs.YtkdkajcokoggiaaDoor.VtEsc Go.Proofs.YtkdkajcokoggiaaDoorW.PrintWords Go.Proofs.YtkdkajcokoggiaaDoorW.PrintLast Go.Proofs.YtkdkajcokoggiaaDoorW.PrintMore
open Go.Proofs.YtkdkajcokoggiaaDoor.PVtParts (S37 k37 k37_open k37_openM k37_mk k37_mkM)
set_option linter.unusedVariables false
set_option linter.unusedSimpArgs false
theorem info_int : (Tryd.prog.info? 3).map (fun i => (i.zero, i.size, i.bytes)) = some (some (.int .i64 0), 1, 8) := by kernel_rfl
theorem lit_int (W : World) (base : Nat) (x : Int) (hb : base ≤ W.heap.size) : Kd.R (Kd.int .i64) 3 (W.alloc (.cells #[.int .i64 x] 3)) base (fun _ => True) (.slice (some ⟨W.heap.size, 0, none⟩) 1 1) [x] :=
  ⟨fun _ _ => trivial, OwnRow.lit (ps := [x]) (inner := [.int .i64 x]) W base (reps_one rfl rfl) hb (by simp)⟩
set_option maxHeartbeats 1600000 in
set_option maxRecDepth 100000 in
theorem some_c (v : PR) (A : Option Addr) (n cp : Nat) (w : World) (hps : Kd.C (Kd.int .i64) w A n v.ps) (h8 : v.ps.length ≤ 8) :
    Calls Tryd.prog 39 #[pval v (.slice A n cp)] w fun e w' => ∃ u, e = .returned u ∧ Kd.R (Kd.int .i64) 3 w' w.heap.size (fun _ => True) u (someP v.ps) ∧ Below w.heap.size w w' := by
  have hup := Tryd.underlying28
  obtain ⟨st, u, mk, ps, tx, wi⟩ := v
  simp only at hps h8
  obtain rfl : ps.length = n := hps.1
  unfold pval
  obtain ⟨pc, hpc⟩ : ∃ pc, pc = pcells ⟨st, u, mk, ps, tx, wi⟩ (.slice A ps.length cp) := ⟨_, rfl⟩
  rw [← hpc]
  have HPC := Aside0.mk hpc
  have HPS := Aside0.mk hps
  have hlI : (ps.length : Int) ≤ 8 := by omega
  clear hpc hps h8
  go_enter Tryd.func39, Tryd.ntmps39
  go_upto_region 1 with fail
  obtain ⟨w2, hw2⟩ : ∃ w2, w2 = w.alloc (.cells pc 28) := ⟨_, rfl⟩
  have hb := below_alloc (Below.refl w.heap.size w) (.cells pc 28)
  have hk : (w.alloc (.cells pc 28)).heap[w.heap.size]? = some (.cells (pcells ⟨st, u, mk, ps, tx, wi⟩ (.slice A ps.length cp)) 28 (0, 0)) := by rw [← HPC.out]; exact blk_new w _
  rw [← hw2] at hb hk
  rw [← hw2]
  have HB := Aside0.mk hb
  have p6 : w2.cell? ⟨w.heap.size, 6, none⟩ = some (.slice A ps.length cp) := (blk_cell hk 6).trans rfl
  have HC2 := Aside0.mk (Kd.C_below HPS.out hb)
  clear hw2 hb hk
  by_cases hz : ps = []
  · subst hz
    go_wp2
    go_ret
    exact ⟨_, rfl, lit_int w2 _ 0 HB.out.size, below_alloc HB.out _⟩
  · have hln : ps.length ≠ 0 := fun h => hz (List.length_eq_zero_iff.1 h)
    have HE := Aside0.mk (show someP ps = ps from if_neg hz)
    obtain ⟨ln, hl⟩ : ∃ ln, ln = ps.length := ⟨_, rfl⟩
    rw [← hl] at hln p6 hlI
    have he : ((ln : Int) == 0) = false := beq_eq_false_iff_ne.mpr (by omega)
    have HL8 := Aside0.mk (show (0 + ln) * 8 ≤ 140737488355328 by omega)
    have HC3 := HC2
    rw [← hl] at HC3
    clear hz hl
    go_wp2_with (first
      | ((with_reducible refine gate_builtin (b := .append) (xs := #[.const (.slice none 0 0), .tmp 9]) rfl ?_); at_builtin; go_must ((refine Kd.R_append_rows (Kd.int .i64) (w0 := w2) w2.heap.size rfl (.const (.slice none 0 0)) (.tmp 9) 26 3 (.int .i64 0) 8 rfl Tryd.underlying26 info_int rfl (by decide) (by omega) (.slice none 0 0) [] ps A ln cp (fun _ => True) (fun _ => False) rfl rfl (Kd.R_nil _ _ _ _ _) HC3.out ?aK (fun _ hk => hk.elim) ?aF (Below.refl _ _) (Nat.le_refl _) HL8.out ?_; (case aK => exact fun x cs h => h); (case aF => exact fun _ _ => trivial); intro v4 w4 ho hb hg hat; rw [List.nil_append] at ho; have HO4 := Aside0.mk ho; have HB4 := Aside0.mk hb; clear ho hb hg hat)))
      | fail)
    go_ret
    exact ⟨v4, rfl, by rw [HE.out]; exact Kd.R_lower HO4.out HB.out.size, below_then HB.out HB.out.size HB4.out⟩
theorem V2.far {w W : World} {g gr q : Nat} {pc rc : Array Value} (h : V2 w W g gr pc rc) (h1 : g ≠ q) (h2 : gr ≠ q) (h3 : w.heap.size ≤ q) (i : Nat) (u : Value) : V2 w (W.setCell ⟨q, i, none⟩ u) g gr pc rc :=
  ⟨((KeepBut.refl W q none).set_ i u).blk h.1 h1 (by simp), ((KeepBut.refl W q none).set_ i u).blk h.2.1 h2 (by simp), h.2.2.1, h.2.2.2.1, h.2.2.2.2.1, h.2.2.2.2.2.setCell h3 _⟩
theorem V2.onB {w W W' : World} {g gr B : Nat} {pc rc : Array Value} (h : V2 w W g gr pc rc) (hb : Below B W W') (h1 : g < B) (h2 : gr < B) : V2 w W' g gr pc rc :=
  ⟨(hb.block g h1).trans h.1, (hb.block gr h2).trans h.2.1, h.2.2.1, h.2.2.2.1, h.2.2.2.2.1, h.2.2.2.2.2.trans (hb.mono (Nat.le_of_lt (Nat.lt_of_le_of_lt h.2.2.1 h1)))⟩
theorem some_facts {ps : List Int} (h8 : ps.length ≤ 8) (hb : ∀ x ∈ ps, 0 ≤ x ∧ x ≤ 9999) : (∃ i, (someP ps).length = i + 1 ∧ i ≤ 7) ∧ ∀ x ∈ someP ps, 0 ≤ x ∧ x ≤ 9999 := by
  unfold someP
  split
  · exact ⟨⟨0, rfl, by omega⟩, fun x hx => by simp at hx; omega⟩
  · rename_i h
    have : ps.length ≠ 0 := fun e => h (List.length_eq_zero_iff.1 e)
    exact ⟨⟨ps.length - 1, by omega, by omega⟩, hb⟩
set_option maxHeartbeats 6400000 in
set_option maxRecDepth 100000 in
theorem csi_c (v : PR) (A : Option Addr) (n cp : Nat) (c : Int) (w : World) (hc : 0 ≤ c ∧ c < 256) (hps : Kd.C (Kd.int .i64) w A n v.ps) (h8 : v.ps.length ≤ 8) (hb9 : ∀ x ∈ v.ps, 0 ≤ x ∧ x ≤ 9999) (hm2 : v.mr.size ≤ 2) :
    Calls Tryd.prog 24 #[pval v (.slice A n cp), .int .u8 c] w (PT w A n (csiP v c)) := by
  have hup := Tryd.underlying28
  have hua := Tryd.underlying37
  have hCV := conv1 c hc
  have hc1 := hc.1
  have hc2 : c ≤ 255 := by omega
  have HPS := Aside0.mk hps
  obtain ⟨st, u, mk, ps, tx, wi⟩ := v
  simp only at h8 hb9 hm2
  have H8 := Aside0.mk h8
  have HB9 := Aside0.mk hb9
  have HM2 := Aside0.mk hm2
  unfold pval
  obtain ⟨pc, hpc⟩ : ∃ pc, pc = pcells ⟨st, u, mk, ps, tx, wi⟩ (.slice A n cp) := ⟨_, rfl⟩
  rw [← hpc]
  have HPC := Aside0.mk hpc
  clear hps hc hpc h8 hb9 hm2
  go_enter Tryd.func24, Tryd.ntmps24
  go_upto_region 0 with fail
  go_cut [2, 4, 5] (fun v2 v4 v5 W => ∃ g gr : Nat, v2 = .pointer (some ⟨g, 0, none⟩) ∧ v4 = .pointer (some ⟨gr, 0, none⟩) ∧ v5 = .slice none 0 0 ∧ Aside0 (V2 w W g gr pc zcells))
  case first =>
    go_wp2_with fail
    go_meet
    case rel => exact ⟨_, _, rfl, rfl, rfl, ⟨V2.enter w pc zcells⟩⟩
  case rest =>
    obtain ⟨g, gr, rfl, rfl, rfl, HV⟩ := hcut
    have hb1 : (b1 c).size = 1 := rfl
    obtain ⟨p0, p1, p2, p3, p4, p5, p6, p7, p8⟩ := HV.out.cells HPC.out
    simp only at p0 p1 p2 p3 p4 p5 p6 p7 p8
    obtain ⟨fp0, fp1, fp2, fp3, fp4, fp5, fp6, fp7, fp8⟩ := HV.out.thawp
    have hlg := blk_lt HV.out.1
    have HVP := Aside0.mk (show V2 w wc g gr (pcells ⟨st, u, mk, ps, tx, wi⟩ (.slice A n cp)) zcells from by have h := HV.out; rw [HPC.out] at h; exact h)
    by_cases k1 : 48 ≤ c ∧ c ≤ 57
    · have e1 : decide (48 ≤ c) = true := decide_eq_true k1.1
      have e2 : decide (c ≤ 57) = true := decide_eq_true k1.2
      have c1 := k1.1
      have c2 := k1.2
      have HEP := Aside0.mk (show csiP ⟨st, u, mk, ps, tx, wi⟩ c = (⟨st, u, mk, lastP (someP ps) c, tx, wi⟩, []) from by rw [csiP, if_pos k1])
      obtain ⟨⟨i, hi, hi7⟩, hbd⟩ := some_facts H8.out HB9.out
      clear k1
      go_wp2_with fail
      refine (some_c ⟨st, u, mk, ps, tx, wi⟩ A n cp wc (Kd.C_below HPS.out HV.out.2.2.2.2.2) H8.out).mono ?_
      rintro e w1 ⟨uq, rfl, hq, hb⟩
      simp only at hq
      obtain ⟨xs, hxs⟩ : ∃ xs, xs = someP ps := ⟨_, rfl⟩
      rw [← hxs] at hq hi hbd HEP
      obtain ⟨gq, cap, rfl, hq1, hq2, _⟩ := Kd.R_form hq (by omega)
      have hcell := Kd.R_cell (0 : Int) hq (i : Int) (by omega) (by omega)
      rw [Int.toNat_natCast] at hcell
      obtain ⟨y, hy⟩ : ∃ y : Int, y = rdOf 0 xs (i : Int) := ⟨_, rfl⟩
      have hyb : 0 ≤ y ∧ y ≤ 9999 := by
        rw [hy, rdOf, Int.toNat_natCast, List.getD_eq_getElem?_getD, List.getElem?_eq_getElem (by omega : i < xs.length)]
        exact hbd _ (List.getElem_mem _)
      rw [← hy] at hcell
      obtain ⟨z, hz⟩ : ∃ z : Int, z = min (10 * y + (c - 48)) 9999 := ⟨_, rfl⟩
      have HPUT := Aside0.mk (Kd.R_put hq (i : Int) z)
      have HLP := Aside0.mk (show lastP xs c = xs.set i z from by
        unfold lastP
        rw [show xs.length - 1 = i by omega, hz, hy, rdOf, Int.toNat_natCast])
      have HV1 := Aside0.mk (HV.out.on hb)
      have hgq1 : g ≠ gq := by have := blk_lt HV.out.1; omega
      have hgq2 : gr ≠ gq := by have := blk_lt HV.out.2.1; omega
      have HQW := Aside0.mk (Nat.le_trans HV.out.2.2.2.2.2.size hq1)
      have HGQ := HQW
      have hwq : w.heap.size ≤ gq := HQW.out
      rw [hi] at HPUT
      rw [hi]
      have hmz : min (10 * y + (c - 48)) 9999 = z := hz.symm
      have hmz2 : (if (9999 : Int) < 10 * y + (c - 48) then 9999 else 10 * y + (c - 48)) = z := by rw [hz]; split <;> omega
      have hy1 := hyb.1
      have hy2 := hyb.2
      obtain ⟨q1, q2⟩ := hcell
      have hi7I : (i : Int) ≤ 7 := by omega
      clear p0 p1 p2 p3 p4 p5 p6 p7 p8 fp0 fp1 fp2 fp3 fp4 fp5 fp6 fp7 fp8 hlg HVP hb hq hq1 hq2 hxs hi hbd hy hyb hz hi7
      obtain ⟨p0, p1, p2, p3, p4, p5, p6, p7, p8⟩ := HV1.out.cells HPC.out
      simp only at p0 p1 p2 p3 p4 p5 p6 p7 p8
      obtain ⟨fp0, fp1, fp2, fp3, fp4, fp5, fp6, fp7, fp8⟩ := HV1.out.thawp
      go_upto_region 17 with fail
      obtain ⟨w3, hw3⟩ : ∃ w3, w3 = (w1.setCell ⟨gq, i, none⟩ (.int .i64 z)).setCell ⟨g, 6, none⟩ (.slice (some ⟨gq, 0, none⟩) (i + 1) cap) := ⟨_, rfl⟩
      have HV2 := Aside0.mk (show V2 w w3 g gr (pcells ⟨st, u, mk, lastP xs c, tx, wi⟩ (.slice (some ⟨gq, 0, none⟩) (i + 1) cap)) zcells from by
        rw [hw3]
        have h := HV1.out
        rw [HPC.out] at h
        exact (V2.far h hgq1 hgq2 hwq i (.int .i64 z)).set_p 6 _ rfl)
      have HQC := Aside0.mk (show ∀ W', KeepBut w3 W' gr none → Kd.C (Kd.int .i64) W' (some ⟨gq, 0, none⟩) (i + 1) (lastP xs c) from by
        intro W' hk
        rw [HLP.out]
        have h1 := HPUT.out.1
        rw [Int.toNat_natCast] at h1
        have h2 := Kd.R_keep (Kd.R_mono (ok' := fun k => k ≠ g ∧ k ≠ gr) (Kd.R_bound h1) (fun k hk => by have a1 := hk.2.1; have a2 := blk_lt HV.out.1; have a3 := blk_lt HV.out.2.1; exact ⟨by omega, by omega⟩)) ((KeepBut.refl _ g none).set_ 6 (.slice (some ⟨gq, 0, none⟩) (i + 1) cap)) (fun k h => h.1)
        rw [← hw3] at h2
        have h3 := (Kd.R_reads' (Kd.R_keep h2 hk (fun k h => h.2)))
        have h4 := h3.2.2
        rw [← h3.1] at h4
        exact h4)
      rw [← hw3]
      clear hw3
      clear p0 p1 p2 p3 p4 p5 p6 p7 p8 fp0 fp1 fp2 fp3 fp4 fp5 fp6 fp7 fp8 hCV
      obtain ⟨p0, p1, p2, p3, p4, p5, p6, p7, p8⟩ := HV2.out.cells rfl
      simp only at p0 p1 p2 p3 p4 p5 p6 p7 p8
      obtain ⟨z0, z1, z2, z3, z4, z5, z6, z7, z8⟩ := HV2.out.zero
      obtain ⟨y0, y1, y2, y3, y4, y5, y6, y7, y8⟩ := HV2.out.thaw
      have hgg := HV2.out.2.2.2.2.1
      go_wp2
      have hf := HV2.out.ret (.int .i64 st) (.int .u8 (u[0]?.getD 0)) (.int .u8 (u[1]?.getD 0)) (.int .u8 (u[2]?.getD 0)) (.int .i64 u.length) (.string mk) (.slice (some ⟨gq, 0, none⟩) (i + 1) cap) (.string tx) (.int .i64 wi)
      refine bodyPost_ret (results_ct Tryd.results24 _ _ gr 28 (pcells ⟨st, u, mk, (lastP xs c), tx, wi⟩ (.slice (some ⟨gq, 0, none⟩) (i + 1) cap)) (0, 0) _ rfl hf.2.1 hup rfl (by kernel_rfl)) rfl ⟨.slice none 0 0, some ⟨gq, 0, none⟩, i + 1, cap, ?_, by rw [HEP.out]; exact HQC.out _ (keep9 _ _ _ _ _ _ _ _ _ _ _), ?_, hf.2.2.2.2.2, fun _ h => .inr (by cases h; exact HGQ.out)⟩
      · rw [HEP.out]; rfl
      · rw [HEP.out]; exact Kd.R_nil _ _ _ _ _
    · have hk1 : c < 48 ∨ (48 ≤ c ∧ 57 < c) := by omega
      have HK1 := Aside0.mk k1
      by_cases k2 : c = 59
      · subst k2
        have hi0 := some_facts H8.out HB9.out
        obtain ⟨⟨i, hi, hi7⟩, hbd⟩ := hi0
        clear k1 hk1 hbd
        go_wp2_with fail
        refine (some_c ⟨st, u, mk, ps, tx, wi⟩ A n cp wc (Kd.C_below HPS.out HV.out.2.2.2.2.2) H8.out).mono ?_
        rintro e w1 ⟨uq, rfl, hq, hb⟩
        simp only at hq
        obtain ⟨xs, hxs⟩ : ∃ xs, xs = someP ps := ⟨_, rfl⟩
        have HEP0 := Aside0.mk (show csiP ⟨st, u, mk, ps, tx, wi⟩ 59 = (⟨st, u, mk, if xs.length < 8 then xs ++ [0] else xs, tx, wi⟩, []) from by rw [hxs]; rfl)
        rw [← hxs] at hq hi
        obtain ⟨gq, cap, rfl, hq1, hq2, _⟩ := Kd.R_form hq (by omega)
        have HVX := Aside0.mk (HV.out.on hb)
        have HGQ := Aside0.mk (Nat.le_trans HV.out.2.2.2.2.2.size hq1)
        have HQ := Aside0.mk hq
        have HI := Aside0.mk hi
        have HWS := Aside0.mk hb.size
        have hi7I : (i : Int) ≤ 7 := by omega
        rw [hi]
        rw [hi] at HQ
        clear p0 p1 p2 p3 p4 p5 p6 p7 p8 fp0 fp1 fp2 fp3 fp4 fp5 fp6 fp7 fp8 hlg HVP hb hq hq1 hq2 hxs hi
        obtain ⟨p0, p1, p2, p3, p4, p5, p6, p7, p8⟩ := HVX.out.cells HPC.out
        simp only at p0 p1 p2 p3 p4 p5 p6 p7 p8
        obtain ⟨fp0, fp1, fp2, fp3, fp4, fp5, fp6, fp7, fp8⟩ := HVX.out.thawp
        by_cases h7 : i < 7
        · have HEP := Aside0.mk (show csiP ⟨st, u, mk, ps, tx, wi⟩ 59 = (⟨st, u, mk, xs ++ [0], tx, wi⟩, []) from by rw [HEP0.out, if_pos (by have := HI.out; omega)])
          have h7I : (i : Int) < 7 := by omega
          have HL8 := Aside0.mk (show (xs.length + 1) * 8 ≤ 140737488355328 by have := HI.out; omega)
          have HXL := Aside0.mk (show (xs ++ [(0 : Int)]).length = i + 2 by rw [List.length_append, HI.out]; rfl)
          have HQL : Aside0 (Kd.R (Kd.int .i64) 3 w1 wc.heap.size (fun _ => True) (.slice (some ⟨gq, 0, none⟩) (i + 1) cap) xs) := HQ
          clear p0 p1 p2 p3 p4 p5 p6 p7 p8 fp0 fp1 fp2 fp3 fp4 fp5 fp6 fp7 fp8
          go_upto_region 9 with fail
          go_upto_region 17 with (first
            | ((with_reducible refine gate_builtin (b := .append) (xs := #[.tmp 51, .tmp 52]) rfl ?_); at_builtin; go_must ((refine Kd.R_append (Kd.int .i64) (w0 := w1) wc.heap.size rfl (.tmp 51) (.tmp 52) 26 3 (.int .i64 0) 8 rfl Tryd.underlying26 info_int rfl (by decide) (by omega) (.slice (some ⟨gq, 0, none⟩) (i + 1) cap) xs (0 : Int) [.int .i64 0] (fun _ => True) (fun _ => False) rfl (by first | rfl | (go_simp; done) | (go_simp; rfl)) ?aP (fun _ hk => hk.elim) ?aF HQL.out (Below.refl _ _) HWS.out HL8.out ?_; (case aP => rfl); (case aF => exact fun _ _ => trivial); intro v4 w4 ho hb hg hat; obtain ⟨A4, c4, rfl⟩ := Kd.R_slice ho; have HG4 := Aside0.mk (show ∀ ad, A4 = some ad → w.heap.size ≤ ad.block from (fun ad had => by obtain ⟨g9, cap9, e9, hb9', _⟩ := Kd.R_form ho (by rw [HXL.out]; omega); rw [had] at e9; injection e9 with e9; cases e9; exact Nat.le_trans HV.out.2.2.2.2.2.size hb9')); rw [HXL.out] at ho; rw [HXL.out]; have HO4 := Aside0.mk ho; have HB4 := Aside0.mk hb; clear ho hb hg hat; have HVY := Aside0.mk (V2.onB HVX.out HB4.out (blk_lt HV.out.1) (blk_lt HV.out.2.1)); obtain ⟨p0, p1, p2, p3, p4, p5, p6, p7, p8⟩ := HVY.out.cells HPC.out; simp only at p0 p1 p2 p3 p4 p5 p6 p7 p8; obtain ⟨fp0, fp1, fp2, fp3, fp4, fp5, fp6, fp7, fp8⟩ := HVY.out.thawp)))
            | fail)
          obtain ⟨w3, hw3⟩ : ∃ w3, w3 = w4.setCell ⟨g, 6, none⟩ (.slice A4 (i + 2) c4) := ⟨_, rfl⟩
          have HV2 := Aside0.mk (show V2 w w3 g gr (pcells ⟨st, u, mk, (xs ++ [0]), tx, wi⟩ (.slice A4 (i + 2) c4)) zcells from by
            rw [hw3]
            have h := HVY.out
            rw [HPC.out] at h
            exact h.set_p 6 _ rfl)
          have HQC := Aside0.mk (show ∀ W', KeepBut w3 W' gr none → Kd.C (Kd.int .i64) W' A4 (i + 2) (xs ++ [0]) from by
            intro W' hk
            have h2 := Kd.R_keep (Kd.R_mono (ok' := fun k => k ≠ g ∧ k ≠ gr) (Kd.R_bound HO4.out) (fun k hk => by have a1 := hk.2.1; have a2 := blk_lt HV.out.1; have a3 := blk_lt HV.out.2.1; exact ⟨by omega, by omega⟩)) ((KeepBut.refl _ g none).set_ 6 (.slice A4 (i + 2) c4)) (fun k h => h.1)
            rw [← hw3] at h2
            have h3 := (Kd.R_reads' (Kd.R_keep h2 hk (fun k h => h.2)))
            have h4 := h3.2.2
            rw [← h3.1] at h4
            exact h4)
          rw [← hw3]
          clear hw3
          clear p0 p1 p2 p3 p4 p5 p6 p7 p8 fp0 fp1 fp2 fp3 fp4 fp5 fp6 fp7 fp8 hCV
          obtain ⟨p0, p1, p2, p3, p4, p5, p6, p7, p8⟩ := HV2.out.cells rfl
          simp only at p0 p1 p2 p3 p4 p5 p6 p7 p8
          obtain ⟨z0, z1, z2, z3, z4, z5, z6, z7, z8⟩ := HV2.out.zero
          obtain ⟨y0, y1, y2, y3, y4, y5, y6, y7, y8⟩ := HV2.out.thaw
          have hgg := HV2.out.2.2.2.2.1
          go_wp2
          have hf := HV2.out.ret (.int .i64 st) (.int .u8 (u[0]?.getD 0)) (.int .u8 (u[1]?.getD 0)) (.int .u8 (u[2]?.getD 0)) (.int .i64 u.length) (.string mk) (.slice A4 (i + 2) c4) (.string tx) (.int .i64 wi)
          refine bodyPost_ret (results_ct Tryd.results24 _ _ gr 28 (pcells ⟨st, u, mk, (xs ++ [0]), tx, wi⟩ (.slice A4 (i + 2) c4)) (0, 0) _ rfl hf.2.1 hup rfl (by kernel_rfl)) rfl ⟨.slice none 0 0, A4, i + 2, c4, ?_, by rw [HEP.out]; exact HQC.out _ (keep9 _ _ _ _ _ _ _ _ _ _ _), ?_, hf.2.2.2.2.2, fun _ h => .inr (HG4.out _ h)⟩
          · rw [HEP.out]; rfl
          · rw [HEP.out]; exact Kd.R_nil _ _ _ _ _
        · have HEP := Aside0.mk (show csiP ⟨st, u, mk, ps, tx, wi⟩ 59 = (⟨st, u, mk, xs, tx, wi⟩, []) from by rw [HEP0.out, if_neg (by have := HI.out; omega)])
          obtain rfl : i = 7 := by omega
          go_upto_region 17 with fail
          obtain ⟨w3, hw3⟩ : ∃ w3, w3 = w1.setCell ⟨g, 6, none⟩ (.slice (some ⟨gq, 0, none⟩) 8 cap) := ⟨_, rfl⟩
          have HV2 := Aside0.mk (show V2 w w3 g gr (pcells ⟨st, u, mk, xs, tx, wi⟩ (.slice (some ⟨gq, 0, none⟩) 8 cap)) zcells from by
            rw [hw3]
            have h := HVX.out
            rw [HPC.out] at h
            exact h.set_p 6 _ rfl)
          have HQC := Aside0.mk (show ∀ W', KeepBut w3 W' gr none → Kd.C (Kd.int .i64) W' (some ⟨gq, 0, none⟩) 8 xs from by
            intro W' hk
            have h2 := Kd.R_keep (Kd.R_mono (ok' := fun k => k ≠ g ∧ k ≠ gr) (Kd.R_bound HQ.out) (fun k hk => by have a1 := hk.2.1; have a2 := blk_lt HV.out.1; have a3 := blk_lt HV.out.2.1; exact ⟨by omega, by omega⟩)) ((KeepBut.refl _ g none).set_ 6 (.slice (some ⟨gq, 0, none⟩) 8 cap)) (fun k h => h.1)
            rw [← hw3] at h2
            have h3 := (Kd.R_reads' (Kd.R_keep h2 hk (fun k h => h.2)))
            have h4 := h3.2.2
            rw [← h3.1] at h4
            exact h4)
          rw [← hw3]
          clear hw3
          clear p0 p1 p2 p3 p4 p5 p6 p7 p8 fp0 fp1 fp2 fp3 fp4 fp5 fp6 fp7 fp8 hCV
          obtain ⟨p0, p1, p2, p3, p4, p5, p6, p7, p8⟩ := HV2.out.cells rfl
          simp only at p0 p1 p2 p3 p4 p5 p6 p7 p8
          obtain ⟨z0, z1, z2, z3, z4, z5, z6, z7, z8⟩ := HV2.out.zero
          obtain ⟨y0, y1, y2, y3, y4, y5, y6, y7, y8⟩ := HV2.out.thaw
          have hgg := HV2.out.2.2.2.2.1
          go_wp2
          have hf := HV2.out.ret (.int .i64 st) (.int .u8 (u[0]?.getD 0)) (.int .u8 (u[1]?.getD 0)) (.int .u8 (u[2]?.getD 0)) (.int .i64 u.length) (.string mk) (.slice (some ⟨gq, 0, none⟩) 8 cap) (.string tx) (.int .i64 wi)
          refine bodyPost_ret (results_ct Tryd.results24 _ _ gr 28 (pcells ⟨st, u, mk, xs, tx, wi⟩ (.slice (some ⟨gq, 0, none⟩) 8 cap)) (0, 0) _ rfl hf.2.1 hup rfl (by kernel_rfl)) rfl ⟨.slice none 0 0, some ⟨gq, 0, none⟩, 8, cap, ?_, by rw [HEP.out]; exact HQC.out _ (keep9 _ _ _ _ _ _ _ _ _ _ _), ?_, hf.2.2.2.2.2, fun _ h => .inr (by cases h; exact HGQ.out)⟩
          · rw [HEP.out]; rfl
          · rw [HEP.out]; exact Kd.R_nil _ _ _ _ _
      · have f2 : (c == 59) = false := beq_eq_false_iff_ne.mpr k2
        have hd1 : (c < 48 ∨ 57 < c) := by omega
        by_cases k3 : 64 ≤ c
        · have e3 : decide (48 ≤ c) = true := decide_eq_true (by omega)
          have e4 : decide (c ≤ 57) = false := decide_eq_false (by omega)
          have e5 : decide (64 ≤ c) = true := decide_eq_true k3
          clear hk1 hd1
          by_cases k4 : st = 4
          · subst k4
            have HEP := Aside0.mk (show csiP ⟨4, u, mk, ps, tx, wi⟩ c = (atP 0, []) from by rw [csiP, if_neg k1, if_neg k2, if_pos k3, if_pos rfl])
            clear k1 k2 k3
            go_wp2_with fail
            refine (at0_c 0 _).mono ?_
            rintro e w1 ⟨rfl, hb⟩
            have HV1 := Aside0.mk (HV.out.on hb)
            clear hb p0 p1 p2 p3 p4 p5 p6 p7 p8 fp0 fp1 fp2 fp3 fp4 fp5 fp6 fp7 fp8 hlg hCV
            obtain ⟨z0, z1, z2, z3, z4, z5, z6, z7, z8⟩ := HV1.out.zero
            obtain ⟨y0, y1, y2, y3, y4, y5, y6, y7, y8⟩ := HV1.out.thaw
            go_wp2
            have hf := HV1.out.ret0
            refine bodyPost_ret (results_ct Tryd.results24 _ _ gr 28 zcells (0, 0) _ rfl hf.2.1 hup rfl (by kernel_rfl)) rfl ⟨.slice none 0 0, none, 0, 0, ?_, by rw [HEP.out]; exact Kd.C_nil _ _, ?_, hf.2.2.2.2.2, fun _ h => nomatch h⟩
            · rw [HEP.out]; rfl
            · rw [HEP.out]; exact Kd.R_nil _ _ _ _ _
          · have HEP := Aside0.mk (show csiP ⟨st, u, mk, ps, tx, wi⟩ c = (atP 0, [csiA c mk ps]) from by rw [csiP, if_neg k1, if_neg k2, if_pos k3, if_neg k4])
            have e6 : (st == 4) = false := beq_eq_false_iff_ne.mpr k4
            clear k1 k2 k3 k4
            go_upto_region 14 with fail
            have HVd := Aside0.mk HV.out.drew
            have HCd := Aside0.mk (Kd.C_below HPS.out HVd.out.2.2.2.2.2)
            obtain rfl : n = ps.length := HCd.out.1.symm
            have HLN := Aside0.mk (show (([] : List Int).length + ps.length) * 8 ≤ 140737488355328 from by have := H8.out; simp; omega)
            clear p0 p1 p2 p3 p4 p5 p6 p7 p8 fp0 fp1 fp2 fp3 fp4 fp5 fp6 fp7 fp8 hlg hCV HVP
            refine start_ (n := 11) (S := fun w' => w'.cell? ⟨g, 5, none⟩ = some (.string mk) ∧ w'.cell? ⟨g, 6, none⟩ = some (.slice A ps.length cp)) (ds := []) #[false, false, false, false, false, false, false, false, false, false, false] (by kernel_rfl) rfl rfl ⟨(V2.mr HVd.out HPC.out), (V2.cells HVd.out HPC.out).2.2.2.2.2.2.1⟩ (fun hHeld => ?_)
            refine pure_ (i := 1) (N := some 64) (v := ?_) (a' := ?_) #[false, true, false, false, false, false, false, false, false, false, false] rfl rfl (by kernel_rfl) (fun _ _ _ h => h) (Or.inl ⟨by rfl, ?_⟩) ?_ ?_
            rotate_left
            · intro w'
              go_simp
              with_reducible rfl
            rotate_left
            · simp only [Act.put, List.setIfInBounds_toArray, List.set_cons_zero, List.set_cons_succ, i64_w, i32_w]
              rfl
            refine pure_ (i := 2) (N := some 65) (v := ?_) (a' := ?_) #[false, true, true, false, false, false, false, false, false, false, false] rfl rfl (by kernel_rfl) (fun _ _ _ h => h) (Or.inl ⟨by rfl, ?_⟩) ?_ ?_
            rotate_left
            · intro w'
              go_simp
              with_reducible rfl
            rotate_left
            · simp only [Act.put, List.setIfInBounds_toArray, List.set_cons_zero, List.set_cons_succ, i64_w, i32_w]
              rfl
            refine pure_ (i := 4) (N := some 67) (v := ?_) (a' := ?_) #[false, true, true, false, true, false, false, false, false, false, false] rfl rfl (by kernel_rfl) (fun _ _ _ h => h) (Or.inl ⟨by rfl, ?_⟩) ?_ ?_
            rotate_left
            · intro w'
              go_simp
              with_reducible rfl
            rotate_left
            · simp only [Act.put, List.setIfInBounds_toArray, List.set_cons_zero, List.set_cons_succ, i64_w, i32_w]
              rfl
            refine take_ (i := 3) (N := some 66) (v := ?_) (a' := ?_) #[false, true, true, true, true, false, false, false, false, false, false] rfl rfl (by kernel_rfl) (fun _ _ _ h => h) (Or.inl ⟨by rfl, ?_⟩) hHeld ?_ ?_
            rotate_left
            · rintro w' ⟨s0, s1⟩
              go_simp
              with_reducible rfl
            rotate_left
            · simp only [Act.put, List.setIfInBounds_toArray, List.set_cons_zero, List.set_cons_succ, i64_w, i32_w]
              rfl
            refine take_ (i := 5) (N := some 68) (v := ?_) (a' := ?_) #[false, true, true, true, true, true, false, false, false, false, false] rfl rfl (by kernel_rfl) (fun _ _ _ h => h) (Or.inl ⟨by rfl, ?_⟩) hHeld ?_ ?_
            rotate_left
            · rintro w' ⟨s0, s1⟩
              go_simp
              with_reducible rfl
            rotate_left
            · simp only [Act.put, List.setIfInBounds_toArray, List.set_cons_zero, List.set_cons_succ, i64_w, i32_w]
              rfl
            refine one_ (i := 0) (N := some 63) #[true, true, true, true, true, true, false, false, false, false, false] rfl rfl (by kernel_rfl) (by decide) (fun K hK => ?_)
            refine goes_ Tryd.func22 (by kernel_rfl) rfl #[.int .i64 0] (by rfl) rfl rfl (by simp only [List.map_toArray, List.map_cons, List.map_nil]; rfl) ?_
            with_reducible refine ((at0_c 0 _)).mono ?_
            rintro e wa ⟨rfl, hb⟩
            refine ⟨_, rfl, ?_⟩
            have HVa := Aside0.mk (HVd.out.on hb)
            have HCa := Aside0.mk (Kd.C_below HCd.out hb)
            clear hb
            refine hK.out _ _ ⟨(V2.mr HVa.out HPC.out), (V2.cells HVa.out HPC.out).2.2.2.2.2.2.1⟩ (fun hHeld => ?_)
            clear hK K
            refine norm_ (a' := ?_) ?_ ?_
            rotate_left
            · show Act.put _ (some 63) _ = _
              simp only [Act.put, List.setIfInBounds_toArray, List.set_cons_zero, List.set_cons_succ, i64_w, i32_w]
              rfl
            refine one_ (i := 6) (N := some 69) #[true, true, true, true, true, true, true, false, false, false, false] rfl rfl (by kernel_rfl) (by decide) (fun K hK => ?_)
            refine Kd.R_append_rows_step (Kd.int .i64) (w0 := wa) wa.heap.size (by rfl) (.const (.slice none 0 0)) (.tmp 68) 26 3 (.int .i64 0) 8 rfl Tryd.underlying26 info_int rfl (by decide) (by omega) (.slice none 0 0) [] ps A ps.length cp (fun _ => True) (fun _ => False) rfl rfl (Kd.R_nil _ _ _ _ _) HCa.out ?aK (fun _ hk => hk.elim) ?aF (Below.refl _ _) (Nat.le_refl _) HLN.out ?_; (case aK => exact fun x cs h => h); (case aF => exact fun _ _ => trivial)
            intro v6 w6 ho hb hg hat
            rw [List.nil_append] at ho
            obtain ⟨A6, c6, rfl⟩ := Kd.R_slice ho
            have HV6 := Aside0.mk (V2.onB HVa.out hb (blk_lt HVa.out.1) (blk_lt HVa.out.2.1))
            have HO6 := Aside0.mk (Kd.R_lower (Kd.R_mono (ok' := fun k => k ≠ g ∧ k ≠ gr) (Kd.R_bound ho) (fun k hk => by have a1 := hk.2.1; have a2 := blk_lt HVa.out.1; have a3 := blk_lt HVa.out.2.1; exact ⟨by omega, by omega⟩)) HVa.out.2.2.2.2.2.size)
            clear ho hb hg hat
            refine hK.out _ _ ⟨(V2.mr HV6.out HPC.out), (V2.cells HV6.out HPC.out).2.2.2.2.2.2.1⟩ (fun hHeld => ?_)
            clear hK K
            refine norm_ (a' := ?_) ?_ ?_
            rotate_left
            · show Act.put _ (some 69) _ = _
              simp only [Act.put, List.setIfInBounds_toArray, List.set_cons_zero, List.set_cons_succ, i64_w, i32_w]
              rfl
            refine pure_ (i := 7) (N := some 70) (v := ?_) (a' := ?_) #[true, true, true, true, true, true, true, true, false, false, false] rfl rfl (by kernel_rfl) (fun _ _ _ h => h) (Or.inl ⟨by rfl, ?_⟩) ?_ ?_
            rotate_left
            · intro w'
              go_simp
              with_reducible rfl
            rotate_left
            · simp only [Act.put, List.setIfInBounds_toArray, List.set_cons_zero, List.set_cons_succ, i64_w, i32_w]
              rfl
            refine join_ (σ := Value) 1 #[true, true, true, true, true, true, true, true, true, true, false] (fun s => [(71, s)]) (fun s w' => V2 w w' g gr pc zcells ∧ Kd.R k37 37 w' w.heap.size (fun k => k ≠ g ∧ k ≠ gr) s [csiA c mk ps]) ?_ ?_
            rotate_left
            · intro hCont
              refine two_ (i := 8) (j := 9) (Ni := some 71) (Nj := none) #[true, true, true, true, true, true, true, true, true, false, false] #[true, true, true, true, true, true, true, true, false, true, false] rfl rfl rfl rfl (by kernel_rfl) (by decide) (by decide) (fun K hK => ?_) (fun K hK => ?_)
              · skip
                refine Kd.R_lit_step k37 (w0 := w) w.heap.size 37 (by rfl) rfl (xs := [csiA c mk ps]) (inner := [.int .i64 3, .int .i32 0, .int .u8 c, .string mk, .slice A6 ps.length c6, .string ⟨#[]⟩]) (ok := fun k => k ≠ g ∧ k ≠ gr) (okp := fun k => k ≠ g ∧ k ≠ gr) ?lr ?lp (fun _ h => h) ?lf HV6.out.2.2.2.2.2 HV6.out.2.2.2.2.2.size (by simp) ?_; (case lr => first | (go_simp; done) | (go_simp; rfl)); (case lp => exact reps_one rfl (k37_mkM _ _ _ (csiA c mk ps) HO6.out)); (case lf => exact ⟨Ne.symm (Nat.ne_of_lt (blk_lt HV6.out.1)), Ne.symm (Nat.ne_of_lt (blk_lt HV6.out.2.1))⟩)
                intro vl wl ho hb hg hw
                have HVl := Aside0.mk (HV6.out.grow hg hb)
                have HRl := Aside0.mk ho
                clear ho hb hg hw
                refine hK.out _ _ ⟨(V2.mr HVl.out HPC.out), (V2.cells HVl.out HPC.out).2.2.2.2.2.2.1⟩ (fun hHeld => ?_)
                clear hK K
                refine norm_ (a' := ?_) ?_ ?_
                rotate_left
                · show Act.put _ (some 71) _ = _
                  simp only [Act.put, List.setIfInBounds_toArray, List.set_cons_zero, List.set_cons_succ, i64_w, i32_w]
                  rfl
                refine one_ (i := 9) (N := none) #[true, true, true, true, true, true, true, true, true, true, false] rfl rfl (by kernel_rfl) (by decide) (fun K hK => ?_)
                obtain ⟨z0, z1, z2, z3, z4, z5, z6, z7, z8⟩ := HVl.out.zero
                obtain ⟨y0, y1, y2, y3, y4, y5, y6, y7, y8⟩ := HVl.out.thaw
                refine skip_ (w1 := ?_) (by rfl) rfl ?_ ?_
                rotate_left
                · go_simp
                  rfl
                have HVs := Aside0.mk HVl.out.ret0
                refine hK.out _ _ ⟨(V2.mr HVs.out HPC.out), (V2.cells HVs.out HPC.out).2.2.2.2.2.2.1⟩ (fun hHeld => ?_)
                clear hK K
                exact norm_ (by simp only [putAll, Act.put, List.setIfInBounds_toArray, List.set_cons_zero, List.set_cons_succ]) (hCont vl _ ⟨HVs.out, Kd.R_keep HRl.out (keep9 _ _ _ _ _ _ _ _ _ _ _) (fun k h => h.2)⟩)
              · skip
                obtain ⟨z0, z1, z2, z3, z4, z5, z6, z7, z8⟩ := HV6.out.zero
                obtain ⟨y0, y1, y2, y3, y4, y5, y6, y7, y8⟩ := HV6.out.thaw
                refine skip_ (w1 := ?_) (by rfl) rfl ?_ ?_
                rotate_left
                · go_simp
                  rfl
                have HVs := Aside0.mk HV6.out.ret0
                have HOs := Aside0.mk (Kd.R_keep HO6.out (keep9 w6 gr (.int .i64 0) (.int .u8 0) (.int .u8 0) (.int .u8 0) (.int .i64 0) (.string ⟨#[]⟩) (.slice none 0 0) (.string ⟨#[]⟩) (.int .i64 0)) (fun k h => h.2))
                refine hK.out _ _ ⟨(V2.mr HVs.out HPC.out), (V2.cells HVs.out HPC.out).2.2.2.2.2.2.1⟩ (fun hHeld => ?_)
                clear hK K
                refine one_ (i := 8) (N := some 71) #[true, true, true, true, true, true, true, true, true, true, false] rfl rfl (by kernel_rfl) (by decide) (fun K hK => ?_)
                refine Kd.R_lit_step k37 (w0 := w) w.heap.size 37 (by rfl) rfl (xs := [csiA c mk ps]) (inner := [.int .i64 3, .int .i32 0, .int .u8 c, .string mk, .slice A6 ps.length c6, .string ⟨#[]⟩]) (ok := fun k => k ≠ g ∧ k ≠ gr) (okp := fun k => k ≠ g ∧ k ≠ gr) ?lr ?lp (fun _ h => h) ?lf HVs.out.2.2.2.2.2 HVs.out.2.2.2.2.2.size (by simp) ?_; (case lr => first | (go_simp; done) | (go_simp; rfl)); (case lp => exact reps_one rfl (k37_mkM _ _ _ (csiA c mk ps) HOs.out)); (case lf => exact ⟨Ne.symm (Nat.ne_of_lt (blk_lt HVs.out.1)), Ne.symm (Nat.ne_of_lt (blk_lt HVs.out.2.1))⟩)
                intro vl wl ho hb hg hw
                have HVl := Aside0.mk (HVs.out.grow hg hb)
                have HRl := Aside0.mk ho
                clear ho hb hg hw
                refine hK.out _ _ ⟨(V2.mr HVl.out HPC.out), (V2.cells HVl.out HPC.out).2.2.2.2.2.2.1⟩ (fun hHeld => ?_)
                clear hK K
                refine norm_ (a' := ?_) ?_ ?_
                rotate_left
                · show Act.put _ (some 71) _ = _
                  simp only [Act.put, List.setIfInBounds_toArray, List.set_cons_zero, List.set_cons_succ, i64_w, i32_w]
                  rfl
                exact norm_ (by simp only [putAll, Act.put, List.setIfInBounds_toArray, List.set_cons_zero, List.set_cons_succ]) (hCont vl _ ⟨HVl.out, HRl.out⟩)
            rintro vs ws ⟨hvs, hrs⟩
            have HVz := Aside0.mk hvs
            have HRz := Aside0.mk hrs
            have hHeld : ws.cell? ⟨g, 5, none⟩ = some (.string mk) ∧ ws.cell? ⟨g, 6, none⟩ = some (.slice A ps.length cp) := ⟨(V2.mr HVz.out HPC.out), (V2.cells HVz.out HPC.out).2.2.2.2.2.2.1⟩
            clear hvs hrs
            refine norm_ (a' := ?_) ?_ ?_
            rotate_left
            · simp only [putAll, Act.put, List.setIfInBounds_toArray, List.set_cons_zero, List.set_cons_succ]
              rfl
            refine pure_ (i := 10) (N := some 5) (v := ?_) (a' := ?_) #[true, true, true, true, true, true, true, true, true, true, true] rfl rfl (by kernel_rfl) (fun _ _ _ h => h) (Or.inl ⟨by rfl, ?_⟩) ?_ ?_
            rotate_left
            · intro w'
              go_simp
              with_reducible rfl
            rotate_left
            · simp only [Act.put, List.setIfInBounds_toArray, List.set_cons_zero, List.set_cons_succ, i64_w, i32_w]
              rfl
            refine done_ (by kernel_rfl) ?_
            go_wp2
            refine bodyPost_ret (results_ct Tryd.results24 _ _ gr 28 zcells (0, 0) _ rfl HVz.out.2.1 hup rfl (by kernel_rfl)) rfl ⟨vs, none, 0, 0, ?_, by rw [HEP.out]; exact Kd.C_nil _ _, ?_, HVz.out.2.2.2.2.2, fun _ h => nomatch h⟩
            · rw [HEP.out]; rfl
            · rw [HEP.out]; exact Kd.R_mono HRz.out (fun _ _ => trivial)
        · have e5 : decide (64 ≤ c) = false := decide_eq_false (by omega)
          have hcc : (c < 48 ∧ decide (48 ≤ c) = false) ∨ (48 ≤ c ∧ 57 < c ∧ decide (48 ≤ c) = true ∧ decide (c ≤ 57) = false) := by
            rcases hd1 with h | h
            · exact .inl ⟨h, decide_eq_false (by omega)⟩
            · exact .inr ⟨by omega, h, decide_eq_true (by omega), decide_eq_false (by omega)⟩
          have HCC := Aside0.mk hcc
          have hmI : (mk.size : Int) ≤ 2 := by have := HM2.out; omega
          have hm9 : mk.size ≤ 2 := HM2.out
          clear hk1 hd1 hcc
          by_cases k4 : mk.size = 2 ∨ c = 58
          · have HEP := Aside0.mk (show csiP ⟨st, u, mk, ps, tx, wi⟩ c = (⟨4, u, mk, ps, tx, wi⟩, []) from by rw [csiP, if_neg k1, if_neg k2, if_neg k3, if_pos k4])
            by_cases h58 : c = 58
            · subst h58
              clear HCC k1 k2 k3 k4
              by_cases hm : mk.size = 2
              · have g1 : ((mk.size : Int) == 2) = true := beq_iff_eq.mpr (by omega)
                clear hm
                go_upto_region 17 with fail
                obtain ⟨w3, hw3⟩ : ∃ w3, w3 = wc.setCell ⟨g, 0, none⟩ (.int .i64 4) := ⟨_, rfl⟩
                have HV2 := Aside0.mk (show V2 w w3 g gr (pcells ⟨4, u, mk, ps, tx, wi⟩ (.slice A n cp)) zcells from by
                  rw [hw3]
                  exact HVP.out.set_p 0 (.int .i64 4) rfl)
                rw [← hw3]
                clear hw3
                clear p0 p1 p2 p3 p4 p5 p6 p7 p8 fp0 fp1 fp2 fp3 fp4 fp5 fp6 fp7 fp8 hlg HV hCV HVP
                obtain ⟨p0, p1, p2, p3, p4, p5, p6, p7, p8⟩ := HV2.out.cells rfl
                simp only at p0 p1 p2 p3 p4 p5 p6 p7 p8
                obtain ⟨z0, z1, z2, z3, z4, z5, z6, z7, z8⟩ := HV2.out.zero
                obtain ⟨y0, y1, y2, y3, y4, y5, y6, y7, y8⟩ := HV2.out.thaw
                have hgg := HV2.out.2.2.2.2.1
                go_wp2
                have hf := HV2.out.ret (.int .i64 4) (.int .u8 (u[0]?.getD 0)) (.int .u8 (u[1]?.getD 0)) (.int .u8 (u[2]?.getD 0)) (.int .i64 u.length) (.string mk) (.slice A n cp) (.string tx) (.int .i64 wi)
                refine bodyPost_ret (results_ct Tryd.results24 _ _ gr 28 (pcells ⟨4, u, mk, ps, tx, wi⟩ (.slice A n cp)) (0, 0) _ rfl hf.2.1 hup rfl (by kernel_rfl)) rfl ⟨.slice none 0 0, A, n, cp, ?_, by rw [HEP.out]; exact Kd.C_below HPS.out hf.2.2.2.2.2, ?_, hf.2.2.2.2.2, fun _ _ => .inl ⟨rfl, rfl⟩⟩
                · rw [HEP.out]; rfl
                · rw [HEP.out]; exact Kd.R_nil _ _ _ _ _
              · have g1 : ((mk.size : Int) == 2) = false := beq_eq_false_iff_ne.mpr (by omega)
                clear hm
                go_upto_region 17 with fail
                obtain ⟨w3, hw3⟩ : ∃ w3, w3 = wc.setCell ⟨g, 0, none⟩ (.int .i64 4) := ⟨_, rfl⟩
                have HV2 := Aside0.mk (show V2 w w3 g gr (pcells ⟨4, u, mk, ps, tx, wi⟩ (.slice A n cp)) zcells from by
                  rw [hw3]
                  exact HVP.out.set_p 0 (.int .i64 4) rfl)
                rw [← hw3]
                clear hw3
                clear p0 p1 p2 p3 p4 p5 p6 p7 p8 fp0 fp1 fp2 fp3 fp4 fp5 fp6 fp7 fp8 hlg HV hCV HVP
                obtain ⟨p0, p1, p2, p3, p4, p5, p6, p7, p8⟩ := HV2.out.cells rfl
                simp only at p0 p1 p2 p3 p4 p5 p6 p7 p8
                obtain ⟨z0, z1, z2, z3, z4, z5, z6, z7, z8⟩ := HV2.out.zero
                obtain ⟨y0, y1, y2, y3, y4, y5, y6, y7, y8⟩ := HV2.out.thaw
                have hgg := HV2.out.2.2.2.2.1
                go_wp2
                have hf := HV2.out.ret (.int .i64 4) (.int .u8 (u[0]?.getD 0)) (.int .u8 (u[1]?.getD 0)) (.int .u8 (u[2]?.getD 0)) (.int .i64 u.length) (.string mk) (.slice A n cp) (.string tx) (.int .i64 wi)
                refine bodyPost_ret (results_ct Tryd.results24 _ _ gr 28 (pcells ⟨4, u, mk, ps, tx, wi⟩ (.slice A n cp)) (0, 0) _ rfl hf.2.1 hup rfl (by kernel_rfl)) rfl ⟨.slice none 0 0, A, n, cp, ?_, by rw [HEP.out]; exact Kd.C_below HPS.out hf.2.2.2.2.2, ?_, hf.2.2.2.2.2, fun _ _ => .inl ⟨rfl, rfl⟩⟩
                · rw [HEP.out]; rfl
                · rw [HEP.out]; exact Kd.R_nil _ _ _ _ _
            · have g1 : ((mk.size : Int) == 2) = true := beq_iff_eq.mpr (by omega)
              clear k1 k2 k3 k4 h58
              rcases HCC.out with ⟨q1, q2⟩ | ⟨q1, q2, q3, q4⟩
              all_goals
                clear HCC
                go_upto_region 17 with fail
                obtain ⟨w3, hw3⟩ : ∃ w3, w3 = wc.setCell ⟨g, 0, none⟩ (.int .i64 4) := ⟨_, rfl⟩
                have HV2 := Aside0.mk (show V2 w w3 g gr (pcells ⟨4, u, mk, ps, tx, wi⟩ (.slice A n cp)) zcells from by
                  rw [hw3]
                  exact HVP.out.set_p 0 (.int .i64 4) rfl)
                rw [← hw3]
                clear hw3
                clear p0 p1 p2 p3 p4 p5 p6 p7 p8 fp0 fp1 fp2 fp3 fp4 fp5 fp6 fp7 fp8 hlg HV hCV HVP
                obtain ⟨p0, p1, p2, p3, p4, p5, p6, p7, p8⟩ := HV2.out.cells rfl
                simp only at p0 p1 p2 p3 p4 p5 p6 p7 p8
                obtain ⟨z0, z1, z2, z3, z4, z5, z6, z7, z8⟩ := HV2.out.zero
                obtain ⟨y0, y1, y2, y3, y4, y5, y6, y7, y8⟩ := HV2.out.thaw
                have hgg := HV2.out.2.2.2.2.1
                go_wp2
                have hf := HV2.out.ret (.int .i64 4) (.int .u8 (u[0]?.getD 0)) (.int .u8 (u[1]?.getD 0)) (.int .u8 (u[2]?.getD 0)) (.int .i64 u.length) (.string mk) (.slice A n cp) (.string tx) (.int .i64 wi)
                refine bodyPost_ret (results_ct Tryd.results24 _ _ gr 28 (pcells ⟨4, u, mk, ps, tx, wi⟩ (.slice A n cp)) (0, 0) _ rfl hf.2.1 hup rfl (by kernel_rfl)) rfl ⟨.slice none 0 0, A, n, cp, ?_, by rw [HEP.out]; exact Kd.C_below HPS.out hf.2.2.2.2.2, ?_, hf.2.2.2.2.2, fun _ _ => .inl ⟨rfl, rfl⟩⟩
                · rw [HEP.out]; rfl
                · rw [HEP.out]; exact Kd.R_nil _ _ _ _ _
          · have HEP := Aside0.mk (show csiP ⟨st, u, mk, ps, tx, wi⟩ c = (⟨st, u, mk ++ b1 c, ps, tx, wi⟩, []) from by rw [csiP, if_neg k1, if_neg k2, if_neg k3, if_neg k4])
            have g1 : ((mk.size : Int) == 2) = false := beq_eq_false_iff_ne.mpr (by omega)
            have g2 : (c == 58) = false := beq_eq_false_iff_ne.mpr (by omega)
            clear k1 k2 k3 k4
            rcases HCC.out with ⟨q1, q2⟩ | ⟨q1, q2, q3, q4⟩
            all_goals
              clear HCC
              go_upto_region 17 with fail
              obtain ⟨w3, hw3⟩ : ∃ w3, w3 = (wc.setCell ⟨g, 5, none⟩ (.string (mk ++ b1 c))).alloc (.cells #[.int .u8 c] 5) := ⟨_, rfl⟩
              have HV2 := Aside0.mk (show V2 w w3 g gr (pcells ⟨st, u, mk ++ b1 c, ps, tx, wi⟩ (.slice A n cp)) zcells from by
                rw [hw3]
                exact (HVP.out.set_p 5 (.string (mk ++ b1 c)) rfl).on (below_alloc (Below.refl _ _) _))
              rw [← hw3]
              clear hw3
              clear p0 p1 p2 p3 p4 p5 p6 p7 p8 fp0 fp1 fp2 fp3 fp4 fp5 fp6 fp7 fp8 hlg HV hCV HVP
              obtain ⟨p0, p1, p2, p3, p4, p5, p6, p7, p8⟩ := HV2.out.cells rfl
              simp only at p0 p1 p2 p3 p4 p5 p6 p7 p8
              obtain ⟨z0, z1, z2, z3, z4, z5, z6, z7, z8⟩ := HV2.out.zero
              obtain ⟨y0, y1, y2, y3, y4, y5, y6, y7, y8⟩ := HV2.out.thaw
              have hgg := HV2.out.2.2.2.2.1
              go_wp2
              have hf := HV2.out.ret (.int .i64 st) (.int .u8 (u[0]?.getD 0)) (.int .u8 (u[1]?.getD 0)) (.int .u8 (u[2]?.getD 0)) (.int .i64 u.length) (.string (mk ++ b1 c)) (.slice A n cp) (.string tx) (.int .i64 wi)
              refine bodyPost_ret (results_ct Tryd.results24 _ _ gr 28 (pcells ⟨st, u, (mk ++ b1 c), ps, tx, wi⟩ (.slice A n cp)) (0, 0) _ rfl hf.2.1 hup rfl (by kernel_rfl)) rfl ⟨.slice none 0 0, A, n, cp, ?_, by rw [HEP.out]; exact Kd.C_below HPS.out hf.2.2.2.2.2, ?_, hf.2.2.2.2.2, fun _ _ => .inl ⟨rfl, rfl⟩⟩
              · rw [HEP.out]; rfl
              · rw [HEP.out]; exact Kd.R_nil _ _ _ _ _
end Go.Proofs.YtkdkajcokoggiaaDoor.VtCsi
