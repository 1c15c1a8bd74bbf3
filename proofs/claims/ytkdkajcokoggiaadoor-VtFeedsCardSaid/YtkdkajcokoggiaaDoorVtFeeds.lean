/- Several texts as one: VtRefC, VtRefG, VtRefF, VtRefM, VtFeedsL. -/
import Derived.Test.YtkdkajcokoggiaaDoorVtRefOne
import Derived.Test.YtkdkajcokoggiaaDoorVtCsi
import Derived.Test.YtkdkajcokoggiaaDoorVtAll
import Derived.Test.YtkdkajcokoggiaaDoorVtFit
import Derived.Test.YtkdkajcokoggiaaDoorVtRightAll
/- The reference's csi, as a contract. -/
namespace Go.Proofs.YtkdkajcokoggiaaDoor.VtRefC
open Go.RowKit Go.Proofs.YtkdkajcokoggiaaDoor.Kit Go.Proofs.YtkdkajcokoggiaaDoor.Plain Go.Proofs.YtkdkajcokoggiaaDoor.Mine Go.Proofs.YtkdkajcokoggiaaDoor.UtfPure Go.Proofs.YtkdkajcokoggiaaDoor.UtfFeed Go.Proofs.YtkdkajcokoggiaaDoor.VtPure Go.Proofs.YtkdkajcokoggiaaDoor.VtSmall Go.Proofs.YtkdkajcokoggiaaDoor.VtEsc Go.Proofs.YtkdkajcokoggiaaDoor.VtRefK Go.Proofs.YtkdkajcokoggiaaDoor.VtRefD Go.Proofs.YtkdkajcokoggiaaDoor.VtCsi Go.Proofs.YtkdkajcokoggiaaDoorW.PrintWords Go.Proofs.YtkdkajcokoggiaaDoorW.PrintLast Go.Proofs.YtkdkajcokoggiaaDoorW.PrintMore
open Go.Proofs.YtkdkajcokoggiaaDoor.PVtParts (S37 k37 k37_open k37_openM k37_mk k37_mkM)
set_option linter.unusedVariables false
set_option linter.unusedSimpArgs false
theorem Q2.far {w W : World} {g gr q : Nat} {pc rc : Array Value} (h : Q2 w W g gr pc rc) (h1 : g ≠ q) (h2 : gr ≠ q) (h3 : w.heap.size ≤ q) (i : Nat) (u : Value) : Q2 w (W.setCell ⟨q, i, none⟩ u) g gr pc rc :=
  ⟨((KeepBut.refl W q none).set_ i u).blk h.1 h1 (by simp), ((KeepBut.refl W q none).set_ i u).blk h.2.1 h2 (by simp), h.2.2.1, h.2.2.2.1, h.2.2.2.2.1, h.2.2.2.2.2.setCell h3 _⟩
theorem Q2.onB {w W W' : World} {g gr B : Nat} {pc rc : Array Value} (h : Q2 w W g gr pc rc) (hb : Below B W W') (h1 : g < B) (h2 : gr < B) : Q2 w W' g gr pc rc :=
  ⟨(hb.block g h1).trans h.1, (hb.block gr h2).trans h.2.1, h.2.2.1, h.2.2.2.1, h.2.2.2.2.1, h.2.2.2.2.2.trans (hb.mono (Nat.le_of_lt (Nat.lt_of_le_of_lt h.2.2.1 h1)))⟩
def ksl : Kd (Option Addr × Nat × Nat) := Kd.scalar (fun p => Value.slice p.1 p.2.1 p.2.2) (fun _ => rfl)
/-- An act as cells, its parameters as a mere slice. -/
def k6 : Kd (Int × Int × Int × ByteArray × (Option Addr × Nat × Nat) × ByteArray) := Kd.pair (Kd.int .i64) (Kd.pair (Kd.int .i32) (Kd.pair (Kd.int .u8) (Kd.pair Kd.string (Kd.pair ksl Kd.string))))
theorem k6_mkM (w : World) (base : Nat) (ok : Nat → Prop) (x0 x1 x2 : Int) (x3 x5 : ByteArray) (A : Option Addr) (n c : Nat) : k6.M w base ok (x0, x1, x2, x3, (A, n, c), x5) [.int .i64 x0, .int .i32 x1, .int .u8 x2, .string x3, .slice A n c, .string x5] := ⟨[.int .i64 x0], [.int .i32 x1, .int .u8 x2, .string x3, .slice A n c, .string x5], rfl, rfl, ⟨[.int .i32 x1], [.int .u8 x2, .string x3, .slice A n c, .string x5], rfl, rfl, ⟨[.int .u8 x2], [.string x3, .slice A n c, .string x5], rfl, rfl, ⟨[.string x3], [.slice A n c, .string x5], rfl, rfl, ⟨[.slice A n c], [.string x5], rfl, rfl, rfl⟩⟩⟩⟩⟩
theorem k6_C {e : Nat} {w : World} {base : Nat} {ok : Nat → Prop} {u : Value} {x0 x1 x2 : Int} {x3 x5 : ByteArray} {A : Option Addr} {n c : Nat} {ps : List Int} (h : Kd.R k6 e w base ok u [(x0, x1, x2, x3, (A, n, c), x5)]) (hc : n ≤ c) (g : Kd.C (Kd.int .i64) w A n ps) : CA w u [⟨x0, x1, x2, x3, ps, x5⟩] := by
  obtain rfl : ps.length = n := g.1
  obtain ⟨B, d, rfl⟩ := Kd.R_slice h
  have hr := (Kd.R_reads' h).2.2
  refine ⟨B, d, rfl, rfl, hr.2.1, fun hn => ?_⟩
  obtain ⟨ad, e, hcell⟩ := hr.2.2 hn
  refine ⟨ad, e, fun j p hp => ?_⟩
  match j, hp with
  | 0, hp =>
    obtain ⟨cs, hl, hK, hcc⟩ := hcell 0 _ rfl
    cases hp
    obtain ⟨_, _, rfl, rfl, ⟨_, _, rfl, rfl, ⟨_, _, rfl, rfl, ⟨_, _, rfl, rfl, ⟨_, _, rfl, rfl, rfl⟩⟩⟩⟩⟩ := hK
    exact ⟨_, hl, k37_mk w ⟨x0, x1, x2, x3, ps, x5⟩ hc g, hcc⟩
  | j + 1, hp => cases hp
set_option maxHeartbeats 6400000 in
set_option maxRecDepth 100000 in
theorem csi_k (k : Int) (nk : ByteArray) (hk : (k = 3 ∧ nk = nm3) ∨ (k = 4 ∧ nk = nm4)) (u ps : List Int) (mk tx : ByteArray) (wi : Int) (A : Option Addr) (n cu : Nat) (B : Option Addr) (pl d : Nat) (c : Int) (w : World) (hc : 0 ≤ c ∧ c < 256) (hu : Kd.C (Kd.int .u8) w A n u) (hps : Kd.C (Kd.int .i64) w B pl ps) (hmd : pl ≤ d) (h8 : ps.length ≤ 8) (hb9 : ∀ x ∈ ps, 0 ≤ x ∧ x ≤ 9999) (hm2 : mk.size ≤ 2) :
    Calls Tryd.prog 29 #[.agg #[.string nk, .slice A n cu, .string mk, .slice B pl d, .string tx], .int .u8 c] w (QT w A n B pl (csiP ⟨k, u, mk, ps, tx, wi⟩ c)) := by
  have hup := Tryd.underlying44
  have hua := Tryd.underlying37
  have hCV := conv1 c hc
  have hc1 := hc.1
  have hc2 : c ≤ 255 := by omega
  have HU := Aside0.mk hu
  have HK := Aside0.mk hk
  have HNK := Aside0.mk (show nk = nm k wi from by rcases hk with ⟨rfl, rfl⟩ | ⟨rfl, rfl⟩ <;> rfl)
  clear hk
  have HPS := Aside0.mk hps
  have HMD := Aside0.mk hmd
  have HPL := Aside0.mk (show pl = ps.length from hps.1.symm)
  have H8 := Aside0.mk h8
  have HB9 := Aside0.mk hb9
  have hmI : (mk.size : Int) ≤ 2 := by omega
  have hpl8 : (pl : Int) ≤ 8 := by have := hps.1; omega
  clear hc hu hps hmd h8 hb9 hm2
  obtain ⟨pc, hpc⟩ : ∃ pc : Array Value, pc = #[.string nk, .slice A n cu, .string mk, .slice B pl d, .string tx] := ⟨_, rfl⟩
  rw [show (.agg #[.string nk, .slice A n cu, .string mk, .slice B pl d, .string tx] : Value) = .agg pc from by rw [hpc]]
  have HPC := Aside0.mk hpc
  clear hpc
  go_enter Tryd.func29, Tryd.ntmps29
  go_upto_region 0 with fail
  go_cut [2, 4, 5] (fun va vb vc W => ∃ g gr : Nat, va = .pointer (some ⟨g, 0, none⟩) ∧ vb = .pointer (some ⟨gr, 0, none⟩) ∧ vc = .slice none 0 0 ∧ Aside0 (Q2 w W g gr pc qzero))
  case first =>
    go_wp2_with fail
    go_meet
    case rel => exact ⟨_, _, rfl, rfl, rfl, ⟨Q2.enter w pc qzero⟩⟩
  case rest =>
    obtain ⟨g, gr, rfl, rfl, rfl, HV0⟩ := hcut
    have HV := Aside0.mk (show Q2 w wc g gr #[.string nk, .slice A n cu, .string mk, .slice B pl d, .string tx] qzero from by have h := HV0.out; rw [HPC.out] at h; exact h)
    clear HV0 HPC
    obtain ⟨wb, hwb⟩ : ∃ wb, wb = wc := ⟨_, rfl⟩
    subst hwb
    have p3 : wb.cell? ⟨g, 3, none⟩ = some (.slice B pl d) := (blk_cell HV.out.1 3).trans rfl
    have HCB := Aside0.mk (Kd.C_below HPS.out HV.out.2.2.2.2.2)
    have HL8 := Aside0.mk (show (([] : List Int).length + pl) * 8 ≤ 140737488355328 by rw [List.length_nil]; omega)
    have HGL := Aside0.mk (show g < wb.heap.size ∧ gr < wb.heap.size from ⟨blk_lt HV.out.1, blk_lt HV.out.2.1⟩)
    have HWB := Aside0.mk (show w.heap.size ≤ wb.heap.size from HV.out.2.2.2.2.2.size)
    go_upto_region 1 with fail
    go_cut [6] from 9000 to 9000 (fun v6 W => ∃ (B1 : Option Addr) (c1 : Nat), v6 = .slice B1 pl c1 ∧ Aside0 (Kd.R (Kd.int .i64) 3 W wb.heap.size (fun _ => True) (.slice B1 pl c1) ps) ∧ Aside0 (Below wb.heap.size wb W))
    case first =>
      go_wp2_with (first
        | ((with_reducible refine gate_builtin (b := .append) (xs := #[.const (.slice none 0 0), .tmp 9]) rfl ?_); at_builtin; go_must ((refine Kd.R_append_rows (Kd.int .i64) (w0 := wb) wb.heap.size rfl (.const (.slice none 0 0)) (.tmp 9) 26 3 (.int .i64 0) 8 rfl Tryd.underlying26 info_int rfl (by decide) (by omega) (.slice none 0 0) [] ps B pl d (fun _ => True) (fun _ => False) rfl rfl (Kd.R_nil _ _ _ _ _) HCB.out ?aK (fun _ hk => hk.elim) ?aF (Below.refl _ _) (Nat.le_refl _) HL8.out ?_; (case aK => exact fun x cs h => h); (case aF => exact fun _ _ => trivial); intro v4 w4 ho hb hg hat; rw [List.nil_append] at ho; have HO4 := Aside0.mk ho; have HB4 := Aside0.mk hb; clear ho hb hg hat)))
        | fail)
      go_meet
      case rel =>
        obtain ⟨B1, c1, e⟩ := Kd.R_slice HO4.out
        subst e
        exact ⟨B1, c1, by rw [HPL.out], ⟨by rw [HPL.out]; exact HO4.out⟩, HB4⟩
    case rest =>
      obtain ⟨B1, c1, rfl, HR1, HB1⟩ := hcut
      clear p3
      by_cases k1 : 48 ≤ c ∧ c ≤ 57
      · have e1 : decide (48 ≤ c) = true := decide_eq_true k1.1
        have e2 : decide (c ≤ 57) = true := decide_eq_true k1.2
        have c1' := k1.1
        have c2' := k1.2
        have HEP := Aside0.mk (show csiP ⟨k, u, mk, ps, tx, wi⟩ c = (⟨k, u, mk, lastP (someP ps) c, tx, wi⟩, []) from by rw [csiP, if_pos k1])
        have HBD := Aside0.mk (some_facts H8.out HB9.out).2
        clear k1 hCV
        go_upto_if 27 with fail
        go_cut [6] from 18 to 28 (fun v6 W => ∃ (gq cap i : Nat) (xs : List Int), v6 = .slice (some ⟨gq, 0, none⟩) (i + 1) cap ∧ Aside0 (xs = someP ps ∧ xs.length = i + 1 ∧ i ≤ 7) ∧ Aside0 (Kd.R (Kd.int .i64) 3 W wb.heap.size (fun _ => True) (.slice (some ⟨gq, 0, none⟩) (i + 1) cap) xs) ∧ Aside0 (wb.heap.size ≤ gq) ∧ Aside0 (Below wb.heap.size wb W))
        case first =>
          by_cases hz : pl = 0
          · subst hz
            have hnil : ps = [] := List.eq_nil_of_length_eq_zero HPL.out.symm
            have HSP := Aside0.mk (show ([0] : List Int) = someP ps from by rw [hnil]; rfl)
            have HWS := Aside0.mk HB1.out.size
            clear hnil
            go_wp2_with fail
            go_meet
            case rel => exact ⟨wc.heap.size, 1, 0, [0], rfl, ⟨HSP.out, rfl, by omega⟩, ⟨lit_int wc wb.heap.size 0 HWS.out⟩, HWS, ⟨HB1.out.trans ((below_alloc (Below.refl _ _) _).mono HWS.out)⟩⟩
          · have hzI : ((pl : Int) == 0) = false := beq_eq_false_iff_ne.mpr (by omega)
            have hzN : (pl == 0) = false := beq_eq_false_iff_ne.mpr hz
            obtain ⟨i, hi⟩ : ∃ i, pl = i + 1 := ⟨pl - 1, by omega⟩
            have hform := HR1.out
            obtain ⟨gq, cap, e, hq1, hq2, _⟩ := Kd.R_form hform (by rw [← HPL.out]; omega)
            have HF := Aside0.mk (show Value.slice B1 pl c1 = .slice (some ⟨gq, 0, none⟩) (i + 1) cap from by rw [e, ← HPL.out, hi])
            have HI := Aside0.mk (show ps = someP ps ∧ ps.length = i + 1 ∧ i ≤ 7 from ⟨by unfold someP; rw [if_neg (fun h => hz (by rw [HPL.out, h]; rfl))], by rw [← HPL.out, hi], by have := H8.out; have := HPL.out; omega⟩)
            have HQ1 := Aside0.mk hq1
            clear hz hi hform e hq1 hq2
            go_wp2_with fail
            go_meet
            case rel => exact ⟨gq, cap, i, ps, HF.out, HI, ⟨by rw [← HF.out]; exact HR1.out⟩, HQ1, HB1⟩
        case rest =>
          obtain ⟨gq, cap, i, xs, rfl, HXS, HQ, HGQ, HBW⟩ := hcut

          have hq := HQ.out
          have hxl := HXS.out.2.1
          have hxs := HXS.out.1
          have hq2 := hq
          rw [show i + 1 = xs.length from hxl.symm] at hq2
          have hcell := Kd.R_cell (0 : Int) hq2 (i : Int) (by omega) (by omega)
          rw [Int.toNat_natCast] at hcell
          obtain ⟨y, hy⟩ : ∃ y : Int, y = rdOf 0 xs (i : Int) := ⟨_, rfl⟩
          have hyb : 0 ≤ y ∧ y ≤ 9999 := by
            rw [hy, rdOf, Int.toNat_natCast, List.getD_eq_getElem?_getD, List.getElem?_eq_getElem (by omega : i < xs.length)]
            exact HBD.out _ (by rw [← hxs]; exact List.getElem_mem _)
          rw [← hy] at hcell
          obtain ⟨z, hz⟩ : ∃ z : Int, z = min (10 * y + (c - 48)) 9999 := ⟨_, rfl⟩
          have HPUT := Aside0.mk (Kd.R_put hq2 (i : Int) z)
          have HLP := Aside0.mk (show lastP (someP ps) c = xs.set i z from by
            rw [← hxs]
            unfold lastP
            rw [show xs.length - 1 = i by omega, hz, hy, rdOf, Int.toNat_natCast])
          have HZ := Aside0.mk hz
          have HXL := Aside0.mk hxl
          have hgq1 : g ≠ gq := by have := HGL.out.1; have := HGQ.out; omega
          have hgq2 : gr ≠ gq := by have := HGL.out.2; have := HGQ.out; omega
          have hwq : w.heap.size ≤ gq := Nat.le_trans HWB.out HGQ.out
          have HNE := Aside0.mk (And.intro hgq1 (And.intro hgq2 hwq))
          have HV1 := Aside0.mk (Q2.onB HV.out HBW.out HGL.out.1 HGL.out.2)
          have hy1 := hyb.1
          have hy2 := hyb.2
          have hi7I : (i : Int) ≤ 7 := by have := HXS.out.2.2; omega
          obtain ⟨q1, q2⟩ := hcell
          have HQ1 := Aside0.mk q2
          have HQS := Aside0.mk q1
          clear hq hq2 hxl hxs hy hyb hz
          go_upto_if 41 with fail
          go_cut [7] from 29 to 41 (fun v7 W => v7 = .int .i64 z ∧ W = wc)
          case first =>
            by_cases hbig : 9999 < 10 * y + (c - 48)
            · have HZ2 := Aside0.mk (show z = 9999 from by rw [HZ.out]; omega)
              go_wp2_with fail
              go_meet
              case rel => exact ⟨by rw [HZ2.out], rfl⟩
            · have hb2 : 10 * y + (c - 48) ≤ 9999 := by omega
              have HZ2 := Aside0.mk (show z = 10 * y + (c - 48) from by rw [HZ.out]; omega)
              clear hbig
              go_wp2_with fail
              go_meet
              case rel => exact ⟨by rw [HZ2.out], rfl⟩
          case rest =>
            obtain ⟨rfl, hW⟩ := hcut
            subst hW
            clear q1 q2 hy1 hy2
            have q1 := HQS.out
            have q2 := HQ1.out
            have p0 : wc.cell? ⟨g, 0, none⟩ = some (.string nk) := (blk_cell HV1.out.1 0).trans rfl
            have p1 : wc.cell? ⟨g, 1, none⟩ = some (.slice A n cu) := (blk_cell HV1.out.1 1).trans rfl
            have p2 : wc.cell? ⟨g, 2, none⟩ = some (.string (mk)) := (blk_cell HV1.out.1 2).trans rfl
            have p3 : wc.cell? ⟨g, 3, none⟩ = some (.slice B pl d) := (blk_cell HV1.out.1 3).trans rfl
            have p4 : wc.cell? ⟨g, 4, none⟩ = some (.string tx) := (blk_cell HV1.out.1 4).trans rfl
            obtain ⟨fp0, fp1, fp2, fp3, fp4⟩ := HV1.out.thawp
            have hgq1 := HNE.out.1
            have hgq2 := HNE.out.2.1
            go_upto_region 22 with fail
            obtain ⟨wq, hw3⟩ : ∃ w3, w3 = (wc.setCell ⟨gq, i, none⟩ (.int .i64 z)).setCell ⟨g, 3, none⟩ (.slice (some ⟨gq, 0, none⟩) (i + 1) cap) := ⟨_, rfl⟩
            have HV2 := Aside0.mk (show Q2 w wq g gr #[.string nk, .slice A n cu, .string mk, .slice (some ⟨gq, 0, none⟩) (i + 1) cap, .string tx] qzero from by
              rw [hw3]
              exact (Q2.far HV1.out HNE.out.1 HNE.out.2.1 HNE.out.2.2 i (.int .i64 z)).set_p 3 _ rfl)
            have HCAP := Aside0.mk (show i + 1 ≤ cap from (Kd.R_reads' HQ.out).2.1)
            have HQC := Aside0.mk (show ∀ W', KeepBut wq W' gr none → Kd.C (Kd.int .i64) W' (some ⟨gq, 0, none⟩) (i + 1) (lastP (someP ps) c) from by
              intro W' hk
              rw [HLP.out]
              have h1 := HPUT.out.1
              rw [Int.toNat_natCast, HXL.out] at h1
              have h2 := Kd.R_keep (Kd.R_mono (ok' := fun k => k ≠ g ∧ k ≠ gr) (Kd.R_bound h1) (fun k hk => by have a1 := hk.2.1; have a2 := HGL.out; exact ⟨by omega, by omega⟩)) ((KeepBut.refl _ g none).set_ 3 (.slice (some ⟨gq, 0, none⟩) (i + 1) cap)) (fun k h => h.1)
              rw [← hw3] at h2
              have h3 := (Kd.R_reads' (Kd.R_keep h2 hk (fun k h => h.2)))
              have h4 := h3.2.2
              rw [← h3.1] at h4
              exact h4)
            rw [← hw3]
            clear hw3 q1 q2 p0 p1 p2 p3 p4 fp0 fp1 fp2 fp3 fp4
            obtain ⟨z0, z1, z2, z3, z4⟩ := HV2.out.zero
            obtain ⟨y0, y1, y2, y3, y4⟩ := HV2.out.thaw
            have p0 : wq.cell? ⟨g, 0, none⟩ = some (.string (nk)) := (blk_cell HV2.out.1 0).trans rfl
            have p1 : wq.cell? ⟨g, 1, none⟩ = some (.slice A n cu) := (blk_cell HV2.out.1 1).trans rfl
            have p2 : wq.cell? ⟨g, 2, none⟩ = some (.string (mk)) := (blk_cell HV2.out.1 2).trans rfl
            have p3 : wq.cell? ⟨g, 3, none⟩ = some (.slice (some ⟨gq, 0, none⟩) (i + 1) cap) := (blk_cell HV2.out.1 3).trans rfl
            have p4 : wq.cell? ⟨g, 4, none⟩ = some (.string (tx)) := (blk_cell HV2.out.1 4).trans rfl
            go_wp2
            have hf := HV2.out.ret (.string (nk)) (.slice A n cu) (.string (mk)) (.slice (some ⟨gq, 0, none⟩) (i + 1) cap) (.string (tx))
            refine bodyPost_ret (results_ct Tryd.results29 _ _ gr 44 #[.string (nk), .slice A n cu, .string (mk), .slice (some ⟨gq, 0, none⟩) (i + 1) cap, .string (tx)] (0, 0) _ rfl hf.2.1 hup rfl (by kernel_rfl)) rfl ⟨.slice none 0 0, A, n, cu, (some ⟨gq, 0, none⟩), i + 1, cap, ?_, by rw [HEP.out]; exact Kd.C_below HU.out hf.2.2.2.2.2, by rw [HEP.out]; exact ⟨HQC.out _ (keep5 _ _ _ _ _ _ _), HCAP.out⟩, by rw [HEP.out]; exact CA.nil _, hf.2.2.2.2.2, (fun _ _ => .inl ⟨rfl, rfl⟩), (fun _ h => .inr (by cases h; exact HNE.out.2.2))⟩
            rw [HEP.out, HNK.out]; rfl
      · have HK1 := Aside0.mk k1
        by_cases k2 : c = 59
        · subst k2
          clear k1 hCV
          go_upto_if 55 with fail
          go_cut [6] from 18 to 55 (fun v6 W => ∃ (gq cap i : Nat) (xs : List Int), v6 = .slice (some ⟨gq, 0, none⟩) (i + 1) cap ∧ Aside0 (xs = someP ps ∧ xs.length = i + 1 ∧ i ≤ 7) ∧ Aside0 (Kd.R (Kd.int .i64) 3 W wb.heap.size (fun _ => True) (.slice (some ⟨gq, 0, none⟩) (i + 1) cap) xs) ∧ Aside0 (wb.heap.size ≤ gq) ∧ Aside0 (Below wb.heap.size wb W))
          case first =>
            by_cases hz : pl = 0
            · subst hz
              have hnil : ps = [] := List.eq_nil_of_length_eq_zero HPL.out.symm
              have HSP := Aside0.mk (show ([0] : List Int) = someP ps from by rw [hnil]; rfl)
              have HWS := Aside0.mk HB1.out.size
              clear hnil
              go_wp2_with fail
              go_meet
              case rel => exact ⟨wc.heap.size, 1, 0, [0], rfl, ⟨HSP.out, rfl, by omega⟩, ⟨lit_int wc wb.heap.size 0 HWS.out⟩, HWS, ⟨HB1.out.trans ((below_alloc (Below.refl _ _) _).mono HWS.out)⟩⟩
            · have hzI : ((pl : Int) == 0) = false := beq_eq_false_iff_ne.mpr (by omega)
              have hzN : (pl == 0) = false := beq_eq_false_iff_ne.mpr hz
              obtain ⟨i, hi⟩ : ∃ i, pl = i + 1 := ⟨pl - 1, by omega⟩
              have hform := HR1.out
              obtain ⟨gq, cap, e, hq1, hq2, _⟩ := Kd.R_form hform (by rw [← HPL.out]; omega)
              have HF := Aside0.mk (show Value.slice B1 pl c1 = .slice (some ⟨gq, 0, none⟩) (i + 1) cap from by rw [e, ← HPL.out, hi])
              have HI := Aside0.mk (show ps = someP ps ∧ ps.length = i + 1 ∧ i ≤ 7 from ⟨by unfold someP; rw [if_neg (fun h => hz (by rw [HPL.out, h]; rfl))], by rw [← HPL.out, hi], by have := H8.out; have := HPL.out; omega⟩)
              have HQ1 := Aside0.mk hq1
              clear hz hi hform e hq1 hq2
              go_wp2_with fail
              go_meet
              case rel => exact ⟨gq, cap, i, ps, HF.out, HI, ⟨by rw [← HF.out]; exact HR1.out⟩, HQ1, HB1⟩
          case rest =>
            obtain ⟨gq, cap, i, xs, rfl, HXS, HQ, HGQ, HBW⟩ := hcut

            have HEP0 := Aside0.mk (show csiP ⟨k, u, mk, ps, tx, wi⟩ 59 = (⟨k, u, mk, if xs.length < 8 then xs ++ [0] else xs, tx, wi⟩, []) from by rw [HXS.out.1]; rfl)
            have HV1 := Aside0.mk (Q2.onB HV.out HBW.out HGL.out.1 HGL.out.2)
            have hi7I : (i : Int) ≤ 7 := by have := HXS.out.2.2; omega
            by_cases h7 : i < 7
            · have HEP := Aside0.mk (show csiP ⟨k, u, mk, ps, tx, wi⟩ 59 = (⟨k, u, mk, xs ++ [0], tx, wi⟩, []) from by rw [HEP0.out, if_pos (by have := HXS.out.2.1; omega)])
              have h7I : (i : Int) < 7 := by omega
              have HL9 := Aside0.mk (show (xs.length + 1) * 8 ≤ 140737488355328 by have := HXS.out.2.1; omega)
              have HXL := Aside0.mk (show (xs ++ [(0 : Int)]).length = i + 2 by rw [List.length_append, HXS.out.2.1]; rfl)
              go_upto_region 22 with (first
                | ((with_reducible refine gate_builtin (b := .append) (xs := #[.tmp 60, .tmp 61]) rfl ?_); at_builtin; go_must ((refine Kd.R_append (Kd.int .i64) (w0 := wc) wb.heap.size rfl (.tmp 60) (.tmp 61) 26 3 (.int .i64 0) 8 rfl Tryd.underlying26 info_int rfl (by decide) (by omega) (.slice (some ⟨gq, 0, none⟩) (i + 1) cap) xs (0 : Int) [.int .i64 0] (fun _ => True) (fun _ => False) rfl (by first | rfl | (go_simp; done) | (go_simp; rfl)) ?aP (fun _ hk => hk.elim) ?aF HQ.out (Below.refl _ _) HBW.out.size HL9.out ?_; (case aP => rfl); (case aF => exact fun _ _ => trivial); intro v4 w4 ho hb hg hat; obtain ⟨A4, c4, rfl⟩ := Kd.R_slice ho; have HG4 := Aside0.mk (show ∀ ad, A4 = some ad → w.heap.size ≤ ad.block from (fun ad had => by obtain ⟨g9, cap9, e9, hb9', _⟩ := Kd.R_form ho (by rw [HXL.out]; omega); rw [had] at e9; injection e9 with e9; cases e9; exact Nat.le_trans HWB.out hb9')); rw [HXL.out] at ho; rw [HXL.out]; have HO4 := Aside0.mk ho; have HB4 := Aside0.mk hb; clear ho hb hg hat; have HVY := Aside0.mk (Q2.onB HV1.out HB4.out HGL.out.1 HGL.out.2); have p3 : w4.cell? ⟨g, 3, none⟩ = some (.slice B pl d) := (blk_cell HVY.out.1 3).trans rfl; have fp3 := HVY.out.thawp.2.2.2.1)))
                | fail)
              obtain ⟨wq, hw3⟩ : ∃ w3, w3 = w4.setCell ⟨g, 3, none⟩ (.slice A4 (i + 2) c4) := ⟨_, rfl⟩
              have HV2 := Aside0.mk (show Q2 w wq g gr #[.string nk, .slice A n cu, .string mk, .slice A4 (i + 2) c4, .string tx] qzero from by
                rw [hw3]
                exact HVY.out.set_p 3 _ rfl)
              have HCAP := Aside0.mk (show i + 2 ≤ c4 from (Kd.R_reads' HO4.out).2.1)
              have HQC := Aside0.mk (show ∀ W', KeepBut wq W' gr none → Kd.C (Kd.int .i64) W' A4 (i + 2) (xs ++ [0]) from by
                intro W' hk
                have h2 := Kd.R_keep (Kd.R_mono (ok' := fun k => k ≠ g ∧ k ≠ gr) (Kd.R_bound HO4.out) (fun k hk => by have a1 := hk.2.1; have a2 := HGL.out; exact ⟨by omega, by omega⟩)) ((KeepBut.refl _ g none).set_ 3 (.slice A4 (i + 2) c4)) (fun k h => h.1)
                rw [← hw3] at h2
                have h3 := (Kd.R_reads' (Kd.R_keep h2 hk (fun k h => h.2)))
                have h4 := h3.2.2
                rw [← h3.1] at h4
                exact h4)
              rw [← hw3]
              clear hw3 p3 fp3
              obtain ⟨z0, z1, z2, z3, z4⟩ := HV2.out.zero
              obtain ⟨y0, y1, y2, y3, y4⟩ := HV2.out.thaw
              have p0 : wq.cell? ⟨g, 0, none⟩ = some (.string (nk)) := (blk_cell HV2.out.1 0).trans rfl
              have p1 : wq.cell? ⟨g, 1, none⟩ = some (.slice A n cu) := (blk_cell HV2.out.1 1).trans rfl
              have p2 : wq.cell? ⟨g, 2, none⟩ = some (.string (mk)) := (blk_cell HV2.out.1 2).trans rfl
              have p3 : wq.cell? ⟨g, 3, none⟩ = some (.slice A4 (i + 2) c4) := (blk_cell HV2.out.1 3).trans rfl
              have p4 : wq.cell? ⟨g, 4, none⟩ = some (.string (tx)) := (blk_cell HV2.out.1 4).trans rfl
              go_wp2
              have hf := HV2.out.ret (.string (nk)) (.slice A n cu) (.string (mk)) (.slice A4 (i + 2) c4) (.string (tx))
              refine bodyPost_ret (results_ct Tryd.results29 _ _ gr 44 #[.string (nk), .slice A n cu, .string (mk), .slice A4 (i + 2) c4, .string (tx)] (0, 0) _ rfl hf.2.1 hup rfl (by kernel_rfl)) rfl ⟨.slice none 0 0, A, n, cu, A4, i + 2, c4, ?_, by rw [HEP.out]; exact Kd.C_below HU.out hf.2.2.2.2.2, by rw [HEP.out]; exact ⟨HQC.out _ (keep5 _ _ _ _ _ _ _), HCAP.out⟩, by rw [HEP.out]; exact CA.nil _, hf.2.2.2.2.2, (fun _ _ => .inl ⟨rfl, rfl⟩), (fun ad h => .inr (HG4.out ad h))⟩
              rw [HEP.out, HNK.out]; rfl
            · have hi8 : i = 7 := by omega
              subst hi8
              have HEP := Aside0.mk (show csiP ⟨k, u, mk, ps, tx, wi⟩ 59 = (⟨k, u, mk, ps, tx, wi⟩, []) from by
                have h1 := HXS.out.2.1
                rw [HEP0.out, if_neg (by omega), HXS.out.1]
                unfold someP
                rw [if_neg (fun h => by rw [HXS.out.1, h] at h1; simp [someP] at h1)])
              clear h7
              obtain ⟨wq, hwq⟩ : ∃ wq, wq = wc := ⟨_, rfl⟩
              subst hwq
              obtain ⟨z0, z1, z2, z3, z4⟩ := HV1.out.zero
              obtain ⟨y0, y1, y2, y3, y4⟩ := HV1.out.thaw
              have p0 : wq.cell? ⟨g, 0, none⟩ = some (.string (nk)) := (blk_cell HV1.out.1 0).trans rfl
              have p1 : wq.cell? ⟨g, 1, none⟩ = some (.slice A n cu) := (blk_cell HV1.out.1 1).trans rfl
              have p2 : wq.cell? ⟨g, 2, none⟩ = some (.string (mk)) := (blk_cell HV1.out.1 2).trans rfl
              have p3 : wq.cell? ⟨g, 3, none⟩ = some (.slice B (pl) d) := (blk_cell HV1.out.1 3).trans rfl
              have p4 : wq.cell? ⟨g, 4, none⟩ = some (.string (tx)) := (blk_cell HV1.out.1 4).trans rfl
              go_wp2
              have hf := HV1.out.ret (.string (nk)) (.slice A n cu) (.string (mk)) (.slice B (pl) d) (.string (tx))
              refine bodyPost_ret (results_ct Tryd.results29 _ _ gr 44 #[.string (nk), .slice A n cu, .string (mk), .slice B (pl) d, .string (tx)] (0, 0) _ rfl hf.2.1 hup rfl (by kernel_rfl)) rfl ⟨.slice none 0 0, A, n, cu, B, pl, d, ?_, by rw [HEP.out]; exact Kd.C_below HU.out hf.2.2.2.2.2, by rw [HEP.out]; exact ⟨Kd.C_below HPS.out hf.2.2.2.2.2, HMD.out⟩, by rw [HEP.out]; exact CA.nil _, hf.2.2.2.2.2, (fun _ _ => .inl ⟨rfl, rfl⟩), (fun _ _ => .inl ⟨rfl, rfl⟩)⟩
              rw [HEP.out, HNK.out]; rfl
        · have k2b : (c == 59) = false := beq_eq_false_iff_ne.mpr k2
          have HK2 := Aside0.mk k2
          have hnd : c < 48 ∨ (48 ≤ c ∧ 57 < c) := by omega
          clear k2
          by_cases k3 : 64 ≤ c
          · have k3' : (57 : Int) < c := by omega
            have k3'' : (48 : Int) ≤ c := by omega
            have k3b : decide (c ≤ 57) = false := decide_eq_false (by omega)
            have hc58 : (58 : Int) < c := by omega
            have HV1 := Aside0.mk (HV.out.on HB1.out)
            clear hnd k1 hCV
            rcases HK.out with ⟨rfl, rfl⟩ | ⟨rfl, rfl⟩
            · have HEP := Aside0.mk (show csiP ⟨3, u, mk, ps, tx, wi⟩ c = (atP 0, [csiA c mk ps]) from by rw [csiP, if_neg HK1.out, if_neg HK2.out, if_pos k3, if_neg (show ¬ (3 : Int) = 4 by decide)])
              have hn := nm3_l
              have p0 : wc.cell? ⟨g, 0, none⟩ = some (.string nm3) := (blk_cell HV1.out.1 0).trans rfl
              go_upto_region 19 with fail
              clear p0
              have HVd := Aside0.mk HV1.out.drew
              refine start_ (n := 10) (S := fun w' => w'.cell? ⟨g, 2, none⟩ = some (.string mk) ∧ w'.cell? ⟨g, 3, none⟩ = some (.slice B pl d)) (ds := []) #[false, false, false, false, false, false, false, false, false, false] (by kernel_rfl) rfl rfl ⟨((blk_cell HVd.out.1 2).trans rfl), ((blk_cell HVd.out.1 3).trans rfl)⟩ (fun hHeld => ?_)
              refine pure_ (i := 1) (N := some 72) (v := ?_) (a' := ?_) #[false, true, false, false, false, false, false, false, false, false] rfl rfl (by kernel_rfl) (fun _ _ _ h => h) (Or.inl ⟨by rfl, ?_⟩) ?_ ?_
              rotate_left
              · intro w'
                go_simp
                with_reducible rfl
              rotate_left
              · simp only [Act.put, List.setIfInBounds_toArray, List.set_cons_zero, List.set_cons_succ, i64_w, i32_w]
                rfl
              refine pure_ (i := 2) (N := some 73) (v := ?_) (a' := ?_) #[false, true, true, false, false, false, false, false, false, false] rfl rfl (by kernel_rfl) (fun _ _ _ h => h) (Or.inl ⟨by rfl, ?_⟩) ?_ ?_
              rotate_left
              · intro w'
                go_simp
                with_reducible rfl
              rotate_left
              · simp only [Act.put, List.setIfInBounds_toArray, List.set_cons_zero, List.set_cons_succ, i64_w, i32_w]
                rfl
              refine pure_ (i := 4) (N := some 75) (v := ?_) (a' := ?_) #[false, true, true, false, true, false, false, false, false, false] rfl rfl (by kernel_rfl) (fun _ _ _ h => h) (Or.inl ⟨by rfl, ?_⟩) ?_ ?_
              rotate_left
              · intro w'
                go_simp
                with_reducible rfl
              rotate_left
              · simp only [Act.put, List.setIfInBounds_toArray, List.set_cons_zero, List.set_cons_succ, i64_w, i32_w]
                rfl
              refine take_ (i := 3) (N := some 74) (v := ?_) (a' := ?_) #[false, true, true, true, true, false, false, false, false, false] rfl rfl (by kernel_rfl) (fun _ _ _ h => h) (Or.inl ⟨by rfl, ?_⟩) hHeld ?_ ?_
              rotate_left
              · rintro w' ⟨s0, s1⟩
                go_simp
                with_reducible rfl
              rotate_left
              · simp only [Act.put, List.setIfInBounds_toArray, List.set_cons_zero, List.set_cons_succ, i64_w, i32_w]
                rfl
              refine take_ (i := 5) (N := some 76) (v := ?_) (a' := ?_) #[false, true, true, true, true, true, false, false, false, false] rfl rfl (by kernel_rfl) (fun _ _ _ h => h) (Or.inl ⟨by rfl, ?_⟩) hHeld ?_ ?_
              rotate_left
              · rintro w' ⟨s0, s1⟩
                go_simp
                with_reducible rfl
              rotate_left
              · simp only [Act.put, List.setIfInBounds_toArray, List.set_cons_zero, List.set_cons_succ, i64_w, i32_w]
                rfl
              refine pure_ (i := 6) (N := some 77) (v := ?_) (a' := ?_) #[false, true, true, true, true, true, true, false, false, false] rfl rfl (by kernel_rfl) (fun _ _ _ h => h) (Or.inl ⟨by rfl, ?_⟩) ?_ ?_
              rotate_left
              · intro w'
                go_simp
                with_reducible rfl
              rotate_left
              · simp only [Act.put, List.setIfInBounds_toArray, List.set_cons_zero, List.set_cons_succ, i64_w, i32_w]
                rfl
              refine join_ (σ := Value) 1 #[true, true, true, true, true, true, true, true, true, false] (fun s => [(71, .agg #[.string nm0, .slice none 0 0, .string ⟨#[]⟩, .slice none 0 0, .string ⟨#[]⟩]), (78, s)]) (fun s w' => Q2 w w' g gr #[.string nm3, .slice A n cu, .string mk, .slice B pl d, .string tx] #[.string nm0, .slice none 0 0, .string ⟨#[]⟩, .slice none 0 0, .string ⟨#[]⟩] ∧ Kd.R k6 37 w' w.heap.size (fun k => k ≠ g ∧ k ≠ gr) s [(3, 0, c, mk, (B, pl, d), ⟨#[]⟩)]) ?_ ?_
              rotate_left
              · intro hCont
                refine two_ (i := 0) (j := 7) (Ni := some 71) (Nj := some 78) #[true, true, true, true, true, true, true, false, false, false] #[false, true, true, true, true, true, true, true, false, false] rfl rfl rfl rfl (by kernel_rfl) (by decide) (by decide) (fun K hK => ?_) (fun K hK => ?_)
                · skip
                  refine goes_ Tryd.func15 (by kernel_rfl) rfl #[] (by rfl) rfl rfl (by simp only [List.map_toArray, List.map_nil]) ?_
                  with_reducible refine ((new_c _)).mono ?_
                  rintro e wa ⟨rfl, hb⟩
                  refine ⟨_, rfl, ?_⟩
                  have HVa := Aside0.mk (HVd.out.on hb)
                  clear hb
                  refine hK.out _ _ ⟨((blk_cell HVa.out.1 2).trans rfl), ((blk_cell HVa.out.1 3).trans rfl)⟩ (fun hHeld => ?_)
                  clear hK K
                  refine norm_ (a' := ?_) ?_ ?_
                  rotate_left
                  · show Act.put _ (some 71) _ = _
                    simp only [Act.put, List.setIfInBounds_toArray, List.set_cons_zero, List.set_cons_succ, i64_w, i32_w]
                    rfl
                  refine two_ (i := 7) (j := 8) (Ni := some 78) (Nj := none) #[true, true, true, true, true, true, true, true, false, false] #[true, true, true, true, true, true, true, false, true, false] rfl rfl rfl rfl (by kernel_rfl) (by decide) (by decide) (fun K hK => ?_) (fun K hK => ?_)
                  · skip
                    refine Kd.R_lit_step k6 (w0 := w) w.heap.size 37 (by rfl) rfl (xs := [(3, 0, c, mk, (B, pl, d), ⟨#[]⟩)]) (inner := [.int .i64 3, .int .i32 0, .int .u8 c, .string mk, .slice B pl d, .string ⟨#[]⟩]) (ok := fun k => k ≠ g ∧ k ≠ gr) (okp := fun _ => False) ?lr ?lp (fun _ h => h.elim) ?lf HVa.out.2.2.2.2.2 HVa.out.2.2.2.2.2.size (by simp) ?_; (case lr => first | (go_simp; done) | (go_simp; rfl)); (case lp => exact reps_one rfl (k6_mkM _ _ _ 3 0 c mk ⟨#[]⟩ B pl d)); (case lf => exact ⟨Ne.symm (Nat.ne_of_lt (blk_lt HVa.out.1)), Ne.symm (Nat.ne_of_lt (blk_lt HVa.out.2.1))⟩)
                    intro vl wl ho hb hg hw
                    have HVl := Aside0.mk (HVa.out.grow hg hb)
                    have HRl := Aside0.mk ho
                    clear ho hb hg hw
                    refine hK.out _ _ ⟨((blk_cell HVl.out.1 2).trans rfl), ((blk_cell HVl.out.1 3).trans rfl)⟩ (fun hHeld => ?_)
                    clear hK K
                    refine norm_ (a' := ?_) ?_ ?_
                    rotate_left
                    · show Act.put _ (some 78) _ = _
                      simp only [Act.put, List.setIfInBounds_toArray, List.set_cons_zero, List.set_cons_succ, i64_w, i32_w]
                      rfl
                    refine one_ (i := 8) (N := none) #[true, true, true, true, true, true, true, true, true, false] rfl rfl (by kernel_rfl) (by decide) (fun K hK => ?_)
                    obtain ⟨z0, z1, z2, z3, z4⟩ := HVl.out.zero
                    obtain ⟨y0, y1, y2, y3, y4⟩ := HVl.out.thaw
                    refine skip_ (w1 := ?_) (by rfl) rfl ?_ ?_
                    rotate_left
                    · go_simp
                      rfl
                    have HVs := Aside0.mk (HVl.out.ret (.string nm0) (.slice none 0 0) (.string ⟨#[]⟩) (.slice none 0 0) (.string ⟨#[]⟩))
                    refine hK.out _ _ ⟨((blk_cell HVs.out.1 2).trans rfl), ((blk_cell HVs.out.1 3).trans rfl)⟩ (fun hHeld => ?_)
                    clear hK K
                    exact norm_ (by simp only [putAll, Act.put, List.setIfInBounds_toArray, List.set_cons_zero, List.set_cons_succ]) (hCont vl _ ⟨HVs.out, Kd.R_keep HRl.out (keep5 _ _ _ _ _ _ _) (fun k h => h.2)⟩)
                  · skip
                    obtain ⟨z0, z1, z2, z3, z4⟩ := HVa.out.zero
                    obtain ⟨y0, y1, y2, y3, y4⟩ := HVa.out.thaw
                    refine skip_ (w1 := ?_) (by rfl) rfl ?_ ?_
                    rotate_left
                    · go_simp
                      rfl
                    have HVs := Aside0.mk (HVa.out.ret (.string nm0) (.slice none 0 0) (.string ⟨#[]⟩) (.slice none 0 0) (.string ⟨#[]⟩))
                    refine hK.out _ _ ⟨((blk_cell HVs.out.1 2).trans rfl), ((blk_cell HVs.out.1 3).trans rfl)⟩ (fun hHeld => ?_)
                    clear hK K
                    refine one_ (i := 7) (N := some 78) #[true, true, true, true, true, true, true, true, true, false] rfl rfl (by kernel_rfl) (by decide) (fun K hK => ?_)
                    refine Kd.R_lit_step k6 (w0 := w) w.heap.size 37 (by rfl) rfl (xs := [(3, 0, c, mk, (B, pl, d), ⟨#[]⟩)]) (inner := [.int .i64 3, .int .i32 0, .int .u8 c, .string mk, .slice B pl d, .string ⟨#[]⟩]) (ok := fun k => k ≠ g ∧ k ≠ gr) (okp := fun _ => False) ?lr ?lp (fun _ h => h.elim) ?lf HVs.out.2.2.2.2.2 HVs.out.2.2.2.2.2.size (by simp) ?_; (case lr => first | (go_simp; done) | (go_simp; rfl)); (case lp => exact reps_one rfl (k6_mkM _ _ _ 3 0 c mk ⟨#[]⟩ B pl d)); (case lf => exact ⟨Ne.symm (Nat.ne_of_lt (blk_lt HVs.out.1)), Ne.symm (Nat.ne_of_lt (blk_lt HVs.out.2.1))⟩)
                    intro vl wl ho hb hg hw
                    have HVl := Aside0.mk (HVs.out.grow hg hb)
                    have HRl := Aside0.mk ho
                    clear ho hb hg hw
                    refine hK.out _ _ ⟨((blk_cell HVl.out.1 2).trans rfl), ((blk_cell HVl.out.1 3).trans rfl)⟩ (fun hHeld => ?_)
                    clear hK K
                    refine norm_ (a' := ?_) ?_ ?_
                    rotate_left
                    · show Act.put _ (some 78) _ = _
                      simp only [Act.put, List.setIfInBounds_toArray, List.set_cons_zero, List.set_cons_succ, i64_w, i32_w]
                      rfl
                    exact norm_ (by simp only [putAll, Act.put, List.setIfInBounds_toArray, List.set_cons_zero, List.set_cons_succ]) (hCont vl _ ⟨HVl.out, HRl.out⟩)
                · skip
                  refine Kd.R_lit_step k6 (w0 := w) w.heap.size 37 (by rfl) rfl (xs := [(3, 0, c, mk, (B, pl, d), ⟨#[]⟩)]) (inner := [.int .i64 3, .int .i32 0, .int .u8 c, .string mk, .slice B pl d, .string ⟨#[]⟩]) (ok := fun k => k ≠ g ∧ k ≠ gr) (okp := fun _ => False) ?lr ?lp (fun _ h => h.elim) ?lf HVd.out.2.2.2.2.2 HVd.out.2.2.2.2.2.size (by simp) ?_; (case lr => first | (go_simp; done) | (go_simp; rfl)); (case lp => exact reps_one rfl (k6_mkM _ _ _ 3 0 c mk ⟨#[]⟩ B pl d)); (case lf => exact ⟨Ne.symm (Nat.ne_of_lt (blk_lt HVd.out.1)), Ne.symm (Nat.ne_of_lt (blk_lt HVd.out.2.1))⟩)
                  intro vl wl ho hb hg hw
                  have HVl := Aside0.mk (HVd.out.grow hg hb)
                  have HRl := Aside0.mk ho
                  clear ho hb hg hw
                  refine hK.out _ _ ⟨((blk_cell HVl.out.1 2).trans rfl), ((blk_cell HVl.out.1 3).trans rfl)⟩ (fun hHeld => ?_)
                  clear hK K
                  refine norm_ (a' := ?_) ?_ ?_
                  rotate_left
                  · show Act.put _ (some 78) _ = _
                    simp only [Act.put, List.setIfInBounds_toArray, List.set_cons_zero, List.set_cons_succ, i64_w, i32_w]
                    rfl
                  refine one_ (i := 0) (N := some 71) #[true, true, true, true, true, true, true, true, false, false] rfl rfl (by kernel_rfl) (by decide) (fun K hK => ?_)
                  refine goes_ Tryd.func15 (by kernel_rfl) rfl #[] (by rfl) rfl rfl (by simp only [List.map_toArray, List.map_nil]) ?_
                  with_reducible refine ((new_c _)).mono ?_
                  rintro e wa ⟨rfl, hb⟩
                  refine ⟨_, rfl, ?_⟩
                  have HVa := Aside0.mk (HVl.out.on hb)
                  have HRa := Aside0.mk (Kd.R_below HRl.out hb)
                  clear hb
                  refine hK.out _ _ ⟨((blk_cell HVa.out.1 2).trans rfl), ((blk_cell HVa.out.1 3).trans rfl)⟩ (fun hHeld => ?_)
                  clear hK K
                  refine norm_ (a' := ?_) ?_ ?_
                  rotate_left
                  · show Act.put _ (some 71) _ = _
                    simp only [Act.put, List.setIfInBounds_toArray, List.set_cons_zero, List.set_cons_succ, i64_w, i32_w]
                    rfl
                  refine one_ (i := 8) (N := none) #[true, true, true, true, true, true, true, true, true, false] rfl rfl (by kernel_rfl) (by decide) (fun K hK => ?_)
                  obtain ⟨z0, z1, z2, z3, z4⟩ := HVa.out.zero
                  obtain ⟨y0, y1, y2, y3, y4⟩ := HVa.out.thaw
                  refine skip_ (w1 := ?_) (by rfl) rfl ?_ ?_
                  rotate_left
                  · go_simp
                    rfl
                  have HVs := Aside0.mk (HVa.out.ret (.string nm0) (.slice none 0 0) (.string ⟨#[]⟩) (.slice none 0 0) (.string ⟨#[]⟩))
                  refine hK.out _ _ ⟨((blk_cell HVs.out.1 2).trans rfl), ((blk_cell HVs.out.1 3).trans rfl)⟩ (fun hHeld => ?_)
                  clear hK K
                  exact norm_ (by simp only [putAll, Act.put, List.setIfInBounds_toArray, List.set_cons_zero, List.set_cons_succ]) (hCont vl _ ⟨HVs.out, Kd.R_keep HRa.out (keep5 _ _ _ _ _ _ _) (fun k h => h.2)⟩)
              rintro vs ws ⟨hvs, hrs⟩
              have HVz := Aside0.mk hvs
              have HRz := Aside0.mk hrs
              have hHeld : ws.cell? ⟨g, 2, none⟩ = some (.string mk) ∧ ws.cell? ⟨g, 3, none⟩ = some (.slice B pl d) := ⟨((blk_cell HVz.out.1 2).trans rfl), ((blk_cell HVz.out.1 3).trans rfl)⟩
              clear hvs hrs
              refine norm_ (a' := ?_) ?_ ?_
              rotate_left
              · simp only [putAll, Act.put, List.setIfInBounds_toArray, List.set_cons_zero, List.set_cons_succ]
                rfl
              refine pure_ (i := 9) (N := some 5) (v := ?_) (a' := ?_) #[true, true, true, true, true, true, true, true, true, true] rfl rfl (by kernel_rfl) (fun _ _ _ h => h) (Or.inl ⟨by rfl, ?_⟩) ?_ ?_
              rotate_left
              · intro w'
                go_simp
                with_reducible rfl
              rotate_left
              · simp only [Act.put, List.setIfInBounds_toArray, List.set_cons_zero, List.set_cons_succ, i64_w, i32_w]
                rfl
              refine done_ (by kernel_rfl) ?_
              go_wp2
              refine bodyPost_ret (results_ct Tryd.results29 _ _ gr 44 #[.string nm0, .slice none 0 0, .string ⟨#[]⟩, .slice none 0 0, .string ⟨#[]⟩] (0, 0) _ rfl HVz.out.2.1 hup rfl (by kernel_rfl)) rfl ⟨vs, none, 0, 0, none, 0, 0, by rw [HEP.out]; rfl, by rw [HEP.out]; exact Kd.C_nil _ _, by rw [HEP.out]; exact ⟨Kd.C_nil _ _, Nat.le_refl _⟩, by rw [HEP.out]; exact k6_C HRz.out HMD.out (Kd.C_below HPS.out HVz.out.2.2.2.2.2), HVz.out.2.2.2.2.2, (fun _ h => nomatch h), (fun _ h => nomatch h)⟩
            · have HEP := Aside0.mk (show csiP ⟨4, u, mk, ps, tx, wi⟩ c = (atP 0, []) from by rw [csiP, if_neg HK1.out, if_neg HK2.out, if_pos k3, if_pos rfl])
              have hn := nm4_l
              have p0 : wc.cell? ⟨g, 0, none⟩ = some (.string nm4) := (blk_cell HV1.out.1 0).trans rfl
              go_wp2_with fail
              refine (new_c wc).mono ?_
              rintro e w5 ⟨rfl, hb5⟩
              have HV5 := Aside0.mk (HV1.out.on hb5)
              clear hb5 p0
              obtain ⟨z0, z1, z2, z3, z4⟩ := HV5.out.zero
              obtain ⟨y0, y1, y2, y3, y4⟩ := HV5.out.thaw
              go_wp2
              have hf := HV5.out.ret (.string nm0) (.slice none 0 0) (.string ⟨#[]⟩) (.slice none 0 0) (.string ⟨#[]⟩)
              refine bodyPost_ret (results_ct Tryd.results29 _ _ gr 44 #[.string nm0, .slice none 0 0, .string ⟨#[]⟩, .slice none 0 0, .string ⟨#[]⟩] (0, 0) _ rfl hf.2.1 hup rfl (by kernel_rfl)) rfl ⟨.slice none 0 0, none, 0, 0, none, 0, 0, by rw [HEP.out]; rfl, by rw [HEP.out]; exact Kd.C_nil _ _, by rw [HEP.out]; exact ⟨Kd.C_nil _ _, Nat.le_refl _⟩, by rw [HEP.out]; exact CA.nil _, hf.2.2.2.2.2, (fun _ h => nomatch h), (fun _ h => nomatch h)⟩
          · have HK3 := Aside0.mk k3
            have k64 : decide (64 ≤ c) = false := decide_eq_false k3
            have k64b : c < 64 := by omega
            have HV1 := Aside0.mk (HV.out.on HB1.out)
            clear k1 k3
            go_upto_region 3 with fail
            go_cut [18] from 9000 to 9000 (fun v18 W => v18 = .bool false ∧ W = wc)
            case first =>
              rcases hnd with h | ⟨h, h2⟩
              · have hf : decide (48 ≤ c) = false := decide_eq_false (by omega)
                go_wp2_with fail
                go_meet
                case rel => exact ⟨rfl, rfl⟩
              · have hf : decide (c ≤ 57) = false := decide_eq_false (by omega)
                go_wp2_with fail
                go_meet
                case rel => exact ⟨rfl, rfl⟩
            case rest =>
              obtain ⟨rfl, hW⟩ := hcut
              subst hW
              clear hnd
              have p2 : wc.cell? ⟨g, 2, none⟩ = some (.string mk) := (blk_cell HV1.out.1 2).trans rfl
              by_cases k4 : mk.size = 2 ∨ c = 58
              · have HEP := Aside0.mk (show csiP ⟨k, u, mk, ps, tx, wi⟩ c = (⟨4, u, mk, ps, tx, wi⟩, []) from by rw [csiP, if_neg HK1.out, if_neg HK2.out, if_neg HK3.out, if_pos k4])
                clear hCV
                go_upto_region 20 with fail
                go_cut [79] from 9000 to 9000 (fun v79 W => v79 = .bool true ∧ W = wc)
                case first =>
                  by_cases h58 : c = 58
                  · subst h58
                    go_wp2_with fail
                    go_meet
                    case rel => exact ⟨rfl, rfl⟩
                  · have h58b : (c == 58) = false := beq_eq_false_iff_ne.mpr h58
                    have hm : mk.size = 2 := k4.resolve_right h58
                    have hm2 : (mk.size : Int) = 2 := by omega
                    have hm3 : ((mk.size : Int) == 2) = true := beq_iff_eq.mpr hm2
                    have hm4 : (mk.size == 2) = true := beq_iff_eq.mpr hm
                    clear h58 k4 hm hm2
                    go_wp2_with fail
                    go_meet
                    case rel => exact ⟨rfl, rfl⟩
                case rest =>
                  obtain ⟨rfl, hW⟩ := hcut
                  subst hW
                  have p0 : wc.cell? ⟨g, 0, none⟩ = some (.string nk) := (blk_cell HV1.out.1 0).trans rfl
                  have fp0 := HV1.out.thawp.1
                  clear k4 p2
                  go_upto_region 22 with fail
                  obtain ⟨wq, hw3⟩ : ∃ w3, w3 = wc.setCell ⟨g, 0, none⟩ (.string ⟨#[115, 116, 114, 97, 110, 103, 101]⟩) := ⟨_, rfl⟩
                  have HV2 := Aside0.mk (show Q2 w wq g gr #[.string nm4, .slice A n cu, .string mk, .slice B pl d, .string tx] qzero from by
                    rw [hw3]
                    exact HV1.out.set_p 0 _ rfl)
                  rw [← hw3]
                  clear hw3 p0 fp0
                  obtain ⟨z0, z1, z2, z3, z4⟩ := HV2.out.zero
                  obtain ⟨y0, y1, y2, y3, y4⟩ := HV2.out.thaw
                  have p0 : wq.cell? ⟨g, 0, none⟩ = some (.string (nm4)) := (blk_cell HV2.out.1 0).trans rfl
                  have p1 : wq.cell? ⟨g, 1, none⟩ = some (.slice A n cu) := (blk_cell HV2.out.1 1).trans rfl
                  have p2 : wq.cell? ⟨g, 2, none⟩ = some (.string (mk)) := (blk_cell HV2.out.1 2).trans rfl
                  have p3 : wq.cell? ⟨g, 3, none⟩ = some (.slice B pl d) := (blk_cell HV2.out.1 3).trans rfl
                  have p4 : wq.cell? ⟨g, 4, none⟩ = some (.string (tx)) := (blk_cell HV2.out.1 4).trans rfl
                  go_wp2
                  have hf := HV2.out.ret (.string (nm4)) (.slice A n cu) (.string (mk)) (.slice B pl d) (.string (tx))
                  refine bodyPost_ret (results_ct Tryd.results29 _ _ gr 44 #[.string (nm4), .slice A n cu, .string (mk), .slice B pl d, .string (tx)] (0, 0) _ rfl hf.2.1 hup rfl (by kernel_rfl)) rfl ⟨.slice none 0 0, A, n, cu, B, pl, d, by rw [HEP.out]; rfl, by rw [HEP.out]; exact Kd.C_below HU.out hf.2.2.2.2.2, by rw [HEP.out]; exact ⟨Kd.C_below HPS.out hf.2.2.2.2.2, HMD.out⟩, by rw [HEP.out]; exact CA.nil _, hf.2.2.2.2.2, (fun _ _ => .inl ⟨rfl, rfl⟩), (fun _ _ => .inl ⟨rfl, rfl⟩)⟩
              · have HEP := Aside0.mk (show csiP ⟨k, u, mk, ps, tx, wi⟩ c = (⟨k, u, mk ++ b1 c, ps, tx, wi⟩, []) from by rw [csiP, if_neg HK1.out, if_neg HK2.out, if_neg HK3.out, if_neg k4])
                have h58b : (c == 58) = false := beq_eq_false_iff_ne.mpr (fun h => k4 (.inr h))
                have hm3 : ((mk.size : Int) == 2) = false := beq_eq_false_iff_ne.mpr (fun h => k4 (.inl (by omega)))
                have hm4 : (mk.size == 2) = false := beq_eq_false_iff_ne.mpr (fun h => k4 (.inl h))
                have hb1 : (b1 c).size = 1 := rfl
                have fp2 := HV1.out.thawp.2.2.1
                have hlg := blk_lt HV1.out.1
                clear k4
                go_upto_region 22 with fail
                obtain ⟨wq, hw3⟩ : ∃ w3, w3 = (wc.setCell ⟨g, 2, none⟩ (.string (mk ++ b1 c))).alloc (.cells #[.int .u8 c] 5) := ⟨_, rfl⟩
                have HV2 := Aside0.mk (show Q2 w wq g gr #[.string nk, .slice A n cu, .string (mk ++ b1 c), .slice B pl d, .string tx] qzero from by
                  rw [hw3]
                  exact (HV1.out.set_p 2 _ rfl).on (below_alloc (Below.refl _ _) _))
                rw [← hw3]
                clear hw3 p2 fp2 hlg hCV
                obtain ⟨z0, z1, z2, z3, z4⟩ := HV2.out.zero
                obtain ⟨y0, y1, y2, y3, y4⟩ := HV2.out.thaw
                have p0 : wq.cell? ⟨g, 0, none⟩ = some (.string (nk)) := (blk_cell HV2.out.1 0).trans rfl
                have p1 : wq.cell? ⟨g, 1, none⟩ = some (.slice A n cu) := (blk_cell HV2.out.1 1).trans rfl
                have p2 : wq.cell? ⟨g, 2, none⟩ = some (.string (mk ++ b1 c)) := (blk_cell HV2.out.1 2).trans rfl
                have p3 : wq.cell? ⟨g, 3, none⟩ = some (.slice B pl d) := (blk_cell HV2.out.1 3).trans rfl
                have p4 : wq.cell? ⟨g, 4, none⟩ = some (.string (tx)) := (blk_cell HV2.out.1 4).trans rfl
                go_wp2
                have hf := HV2.out.ret (.string (nk)) (.slice A n cu) (.string (mk ++ b1 c)) (.slice B pl d) (.string (tx))
                refine bodyPost_ret (results_ct Tryd.results29 _ _ gr 44 #[.string (nk), .slice A n cu, .string (mk ++ b1 c), .slice B pl d, .string (tx)] (0, 0) _ rfl hf.2.1 hup rfl (by kernel_rfl)) rfl ⟨.slice none 0 0, A, n, cu, B, pl, d, ?_, by rw [HEP.out]; exact Kd.C_below HU.out hf.2.2.2.2.2, by rw [HEP.out]; exact ⟨Kd.C_below HPS.out hf.2.2.2.2.2, HMD.out⟩, by rw [HEP.out]; exact CA.nil _, hf.2.2.2.2.2, (fun _ _ => .inl ⟨rfl, rfl⟩), (fun _ _ => .inl ⟨rfl, rfl⟩)⟩
                rw [HEP.out, HNK.out]; rfl
theorem csi_3 (u ps : List Int) (mk tx : ByteArray) (wi : Int) (A : Option Addr) (n cu : Nat) (B : Option Addr) (pl d : Nat) (c : Int) (w : World) (hc : 0 ≤ c ∧ c < 256) (hu : Kd.C (Kd.int .u8) w A n u) (hps : Kd.C (Kd.int .i64) w B pl ps) (hmd : pl ≤ d) (h8 : ps.length ≤ 8) (hb9 : ∀ x ∈ ps, 0 ≤ x ∧ x ≤ 9999) (hm2 : mk.size ≤ 2) :
    Calls Tryd.prog 29 #[.agg #[.string nm3, .slice A n cu, .string mk, .slice B pl d, .string tx], .int .u8 c] w (QT w A n B pl (csiP ⟨3, u, mk, ps, tx, wi⟩ c)) := csi_k 3 nm3 (by simp) u ps mk tx wi A n cu B pl d c w hc hu hps hmd h8 hb9 hm2
theorem csi_4 (u ps : List Int) (mk tx : ByteArray) (wi : Int) (A : Option Addr) (n cu : Nat) (B : Option Addr) (pl d : Nat) (c : Int) (w : World) (hc : 0 ≤ c ∧ c < 256) (hu : Kd.C (Kd.int .u8) w A n u) (hps : Kd.C (Kd.int .i64) w B pl ps) (hmd : pl ≤ d) (h8 : ps.length ≤ 8) (hb9 : ∀ x ∈ ps, 0 ≤ x ∧ x ≤ 9999) (hm2 : mk.size ≤ 2) :
    Calls Tryd.prog 29 #[.agg #[.string nm4, .slice A n cu, .string mk, .slice B pl d, .string tx], .int .u8 c] w (QT w A n B pl (csiP ⟨4, u, mk, ps, tx, wi⟩ c)) := csi_k 4 nm4 (by simp) u ps mk tx wi A n cu B pl d c w hc hu hps hmd h8 hb9 hm2
end Go.Proofs.YtkdkajcokoggiaaDoor.VtRefC
/- The reference's ground, as a contract. -/
namespace Go.Proofs.YtkdkajcokoggiaaDoor.VtRefG
open Go.RowKit Go.Proofs.YtkdkajcokoggiaaDoor.Kit Go.Proofs.YtkdkajcokoggiaaDoor.Plain Go.Proofs.YtkdkajcokoggiaaDoor.Mine Go.Proofs.YtkdkajcokoggiaaDoor.UtfPure Go.Proofs.YtkdkajcokoggiaaDoor.UtfFeed Go.Proofs.YtkdkajcokoggiaaDoor.VtPure Go.Proofs.YtkdkajcokoggiaaDoor.VtSmall Go.Proofs.YtkdkajcokoggiaaDoor.VtEsc Go.Proofs.YtkdkajcokoggiaaDoor.VtRefK Go.Proofs.YtkdkajcokoggiaaDoor.VtRefD Go.Proofs.YtkdkajcokoggiaaDoor.VtRefU Go.Proofs.YtkdkajcokoggiaaDoor.VtRefR Go.Proofs.YtkdkajcokoggiaaDoor.VtInv Go.Proofs.YtkdkajcokoggiaaDoor.UtfPart Go.Proofs.YtkdkajcokoggiaaDoor.VtAll Go.Proofs.YtkdkajcokoggiaaDoorW.PrintWords Go.Proofs.YtkdkajcokoggiaaDoorW.PrintLast Go.Proofs.YtkdkajcokoggiaaDoorW.PrintMore
open Go.Proofs.YtkdkajcokoggiaaDoor.PVtParts (S37 k37 k37_open k37_openM k37_mk k37_mkM)
set_option linter.unusedVariables false
set_option linter.unusedSimpArgs false
theorem C_blk8 {w W : World} {A : Option Addr} {n : Nat} {xs : List Int} (h : Kd.C (Kd.int .u8) w A n xs) (hb : 0 < n → ∀ ad, A = some ad → W.heap[ad.block]? = w.heap[ad.block]?) : Kd.C (Kd.int .u8) W A n xs := by
  refine ⟨h.1, h.2.1, fun hn => ?_⟩
  obtain ⟨ad, e, hc⟩ := h.2.2 hn
  refine ⟨ad, e, fun j p hp => ?_⟩
  obtain ⟨cs, h1, h2, h3⟩ := hc j p hp
  refine ⟨cs, h1, h2, fun i u hu => ?_⟩
  have hbk : ∀ k, (ad.add k).block = ad.block := fun k => by unfold Addr.add; split <;> rfl
  exact (World.cell?_of_block (w := w) (by rw [hbk]; exact hb hn ad e)).trans (h3 i u hu)
theorem rep_succ (i : Nat) : printedP (List.replicate i 65533) ++ [printA 65533] = printedP (List.replicate (i + 1) 65533) := by
  unfold printedP
  rw [List.replicate_succ', List.map_append]
  rfl
set_option maxHeartbeats 6400000 in
set_option maxRecDepth 100000 in
theorem ground_c (u ps : List Int) (mk tx : ByteArray) (wi : Int) (A : Option Addr) (n cu : Nat) (B : Option Addr) (m d : Nat) (c : Int) (w : World) (hc : 0 ≤ c ∧ c < 256) (hu : Kd.C (Kd.int .u8) w A n u) (hp : Part u) (hps : Kd.C (Kd.int .i64) w B m ps) (hmd : m ≤ d) :
    Calls Tryd.prog 26 #[.agg #[.string nm0, .slice A n cu, .string mk, .slice B m d, .string tx], .int .u8 c] w (QT w A n B m (groundP ⟨0, u, mk, ps, tx, wi⟩ c)) := by
  have hup := Tryd.underlying44
  have hua := Tryd.underlying37
  have hc1 := hc.1
  have hc2 : c ≤ 255 := by omega
  have HCB := Aside0.mk hc
  have HU := Aside0.mk hu
  have HPT := Aside0.mk hp
  have HPS := Aside0.mk hps
  have HMD := Aside0.mk hmd
  have hn3 : (n : Int) ≤ 3 := by have := hp.2.2; have := hu.1; omega
  have HNL := Aside0.mk (show n = u.length from hu.1.symm)
  obtain ⟨u1, hu1⟩ : ∃ u1, u1 = if c < 128 then [] else u := ⟨_, rfl⟩
  obtain ⟨o0, ho0⟩ : ∃ o0, o0 = if c < 128 then printedP (List.replicate u.length 65533) else [] := ⟨_, rfl⟩
  have HU1 := Aside0.mk hu1
  have HO0 := Aside0.mk ho0
  have HPU1 := Aside0.mk (show Part u1 from by rw [hu1]; split; exact part_nil; exact hp)
  have HOL := Aside0.mk (show o0.length ≤ 3 from by rw [ho0]; split; (· unfold printedP; rw [List.length_map, List.length_replicate]; exact hp.2.2); (· exact Nat.zero_le _))
  have HEP := Aside0.mk (show groundP ⟨0, u, mk, ps, tx, wi⟩ c = (if c = 27 then (atP 1, o0) else if c < 32 ∨ c = 127 then (⟨0, u1, mk, ps, tx, wi⟩, o0 ++ [execA c]) else (⟨0, (UtfPure.drain (u1 ++ [c])).2, mk, ps, tx, wi⟩, o0 ++ printedP (UtfPure.drain (u1 ++ [c])).1)) from by rw [hu1, ho0]; rfl)
  clear hc hu hp hps hmd hu1 ho0
  obtain ⟨pc, hpc⟩ : ∃ pc : Array Value, pc = #[.string nm0, .slice A n cu, .string mk, .slice B m d, .string tx] := ⟨_, rfl⟩
  rw [show (.agg #[.string nm0, .slice A n cu, .string mk, .slice B m d, .string tx] : Value) = .agg pc from by rw [hpc]]
  have HPC := Aside0.mk hpc
  clear hpc
  go_enter Tryd.func26, Tryd.ntmps26
  go_upto_region 0 with fail
  go_cut [2, 4, 5] (fun va vb vc W => ∃ g gr : Nat, va = .pointer (some ⟨g, 0, none⟩) ∧ vb = .pointer (some ⟨gr, 0, none⟩) ∧ vc = .slice none 0 0 ∧ Aside0 (Q2 w W g gr pc qzero))
  case first =>
    go_wp2_with fail
    go_meet
    case rel => exact ⟨_, _, rfl, rfl, rfl, ⟨Q2.enter w pc qzero⟩⟩
  case rest =>
    obtain ⟨g, gr, rfl, rfl, rfl, HV0⟩ := hcut
    have HV := Aside0.mk (show Q2 w wc g gr #[.string nm0, .slice A n cu, .string mk, .slice B m d, .string tx] qzero from by have h := HV0.out; rw [HPC.out] at h; exact h)
    clear HV0 HPC
    have HB0 := Aside0.mk (HV.out.2.2.2.2.2)
    go_upto_if 11 with fail
    go_cut [6] from 10 to 23 (fun v6 W => ∃ (uo : Value) (A1 : Option Addr) (n1 cu1 : Nat), uo = v6 ∧ Aside0 (Kd.R k37 37 W w.heap.size (fun k => k ≠ g ∧ k ≠ gr) uo o0) ∧ Aside0 (Q2 w W g gr #[.string nm0, .slice A1 n1 cu1, .string mk, .slice B m d, .string tx] qzero) ∧ Aside0 (∀ W', Below w.heap.size w W' → Kd.C (Kd.int .u8) W' A1 n1 u1) ∧ Aside0 (∀ ad, A1 = some ad → (A1 = A ∧ n1 = n) ∨ w.heap.size ≤ ad.block))
    case first =>
      by_cases h128 : c < 128
      · have HN0 := Aside0.mk (show u1 = [] from by rw [HU1.out, if_pos h128])
        have HOO := Aside0.mk (show o0 = printedP (List.replicate n 65533) from by rw [HO0.out, if_pos h128, HNL.out])
        go_wp2_with fail
        rw [show decide (c < 128) = true from decide_eq_true h128]
        go_loopg [6, 7] n (fun gk v6 v7 W => ∃ (i : Nat) (uo : Value), v7 = .int .i64 (i : Int) ∧ uo = v6 ∧ Aside0 (gk + i = n) ∧ Aside0 (Kd.R k37 37 W w.heap.size (fun k => k ≠ g ∧ k ≠ gr) uo (printedP (List.replicate i 65533))) ∧ Aside0 (Q2 w W g gr #[.string nm0, .slice A n cu, .string mk, .slice B m d, .string tx] qzero))
        case atStart => exact ⟨0, _, rfl, rfl, ⟨by omega⟩, ⟨Kd.R_nil _ _ _ _ _⟩, HV⟩
        case round =>
          obtain ⟨i, uo, rfl, rfl, HGK, HO, HVW⟩ := hrel
          have hgi := HGK.out
          have p1 : wr.cell? ⟨g, 1, none⟩ = some (.slice A n cu) := (blk_cell HVW.out.1 1).trans rfl
          by_cases hi : i < n
          · obtain ⟨g0, rfl⟩ : ∃ g0, gk = g0 + 1 := ⟨gk - 1, by omega⟩
            have hil : (i : Int) < n := by omega
            have HXL := Aside0.mk (show ((printedP (List.replicate i 65533)).length + 1) * 72 ≤ 140737488355328 from by unfold printedP; rw [List.length_map, List.length_replicate]; omega)
            clear hi hgi
            go_wp2_with fail
            refine (printed_c 65533 wr).mono ?_
            rintro e w7 ⟨rfl, hb⟩
            have HO7 := Aside0.mk (Kd.R_below HO.out hb)
            have HV7 := Aside0.mk (HVW.out.on hb)
            have HFR := Aside0.mk (show ∀ k, w7.heap.size ≤ k → k ≠ g ∧ k ≠ gr from fun k hk => by have h1 := blk_lt HV7.out.1; have h2 := blk_lt HV7.out.2.1; exact ⟨by omega, by omega⟩)
            clear hb p1
            go_wp2_with (first
              | ((with_reducible refine gate_builtin (b := .append) (xs := #[.tmp 19, .tmp 21]) rfl ?_); at_builtin; go_must ((refine Kd.R_append k37 (w0 := w) w.heap.size rfl (.tmp 19) (.tmp 21) 29 37 (.agg #[(.int .i64 0), (.int .i32 0), (.int .u8 0), (.string ⟨#[]⟩), (.slice none 0 0), (.string ⟨#[]⟩)]) 72 rfl Tryd.underlying29 info37 rfl (by decide) (by omega) uo (printedP (List.replicate i 65533)) (printA 65533) [.int .i64 0, .int .i32 65533, .int .u8 0, .string ⟨#[]⟩, .slice none 0 0, .string ⟨#[]⟩] (fun k => k ≠ g ∧ k ≠ gr) (fun _ => False) rfl (by first | rfl | (go_simp; done) | (go_simp; rfl)) ?aP (fun _ hk => hk.elim) HFR.out HO7.out HV7.out.2.2.2.2.2 HV7.out.2.2.2.2.2.size HXL.out ?_; (case aP => exact k37_mkM _ _ _ (printA 65533) (Kd.R_nil _ _ _ _ _)); intro v1 w8 ho hb hg hat; rw [rep_succ] at ho; have HO8 := Aside0.mk ho; have HB8 := Aside0.mk hb; have HG8 := Aside0.mk hg; clear ho hb hg hat)))
              | fail)
            have HV8 := Aside0.mk (show Q2 w w8 g gr #[.string nm0, .slice A n cu, .string mk, .slice B m d, .string tx] qzero from ⟨blk_grown HV7.out.1 HG8.out (fun h => (HO7.out.1 g h.symm).1 rfl), blk_grown HV7.out.2.1 HG8.out (fun h => (HO7.out.1 gr h.symm).2 rfl), HV7.out.2.2.1, HV7.out.2.2.2.1, HV7.out.2.2.2.2.1, HB8.out⟩)
            go_roundg g0
            case measure => omega
            case rel => exact ⟨i + 1, _, by first | go_num | (congr 1; unfold wrap64; omega), rfl, ⟨by have := HGK.out; omega⟩, HO8, HV8⟩
          · have hil : (n : Int) ≤ i := by omega
            obtain rfl : i = n := by omega
            have fp1 := HVW.out.thawp.2.1
            clear hi hgi
            go_wp2_with fail
            go_meet
            case rel => exact ⟨_, none, 0, 0, rfl, ⟨by rw [HOO.out]; exact Kd.R_keep HO.out ((KeepBut.refl _ g none).set_ 1 _) (fun k h => h.1)⟩, ⟨HVW.out.set_p 1 _ rfl⟩, ⟨fun _ _ => by rw [HN0.out]; exact Kd.C_nil _ _⟩, ⟨fun _ h => nomatch h⟩⟩
      · have h128b : 128 ≤ c := by omega
        have HN0 := Aside0.mk (show u1 = u from by rw [HU1.out, if_neg h128])
        have HOO := Aside0.mk (show o0 = [] from by rw [HO0.out, if_neg h128])
        clear h128
        go_wp2_with fail
        go_meet
        case rel => exact ⟨_, A, n, cu, rfl, ⟨by rw [HOO.out]; exact Kd.R_nil _ _ _ _ _⟩, HV, ⟨fun _ hb => by rw [HN0.out]; exact Kd.C_below HU.out hb⟩, ⟨fun _ _ => .inl ⟨rfl, rfl⟩⟩⟩
    case rest =>
      obtain ⟨uo, A1, n1, cu1, rfl, HO, HVR, HC1, HA1⟩ := hcut
      clear HV HB0
      by_cases h27 : c = 27
      · subst h27
        have HE2 := Aside0.mk (show groundP ⟨0, u, mk, ps, tx, wi⟩ 27 = (atP 1, o0) from HEP.out)
        obtain ⟨z0, z1, z2, z3, z4⟩ := HVR.out.zero
        obtain ⟨y0, y1, y2, y3, y4⟩ := HVR.out.thaw
        go_wp2
        have hf := HVR.out.ret (.string nm1) (.slice none 0 0) (.string ⟨#[]⟩) (.slice none 0 0) (.string ⟨#[]⟩)
        refine bodyPost_ret (results_ct Tryd.results26 _ _ gr 44 #[.string nm1, .slice none 0 0, .string ⟨#[]⟩, .slice none 0 0, .string ⟨#[]⟩] (0, 0) _ rfl hf.2.1 hup rfl (by kernel_rfl)) rfl ⟨uo, none, 0, 0, none, 0, 0, by rw [HE2.out]; rfl, by rw [HE2.out]; exact Kd.C_nil _ _, by rw [HE2.out]; exact ⟨Kd.C_nil _ _, Nat.le_refl _⟩, by rw [HE2.out]; exact CA.of_R (Kd.R_keep HO.out (keep5 _ _ _ _ _ _ _) (fun k h => h.2)), hf.2.2.2.2.2, (fun _ h => nomatch h), (fun _ h => nomatch h)⟩
      · have h27b : (c == 27) = false := beq_eq_false_iff_ne.mpr h27
        by_cases hex : c < 32 ∨ c = 127
        · have HE2 := Aside0.mk (show groundP ⟨0, u, mk, ps, tx, wi⟩ c = (⟨0, u1, mk, ps, tx, wi⟩, o0 ++ [execA c]) from by rw [HEP.out, if_neg h27, if_pos hex])
          go_upto_region 10 with fail
          go_cut [33] from 9000 to 9000 (fun v33 W => v33 = .bool true ∧ W = wc)
          case first =>
            by_cases h32 : c < 32
            · go_wp2_with fail
              go_meet
              case rel => exact ⟨rfl, rfl⟩
            · have h127 : c = 127 := hex.resolve_left h32
              subst h127
              go_wp2_with fail
              go_meet
              case rel => exact ⟨rfl, rfl⟩
          case rest =>
            obtain ⟨rfl, hW⟩ := hcut
            subst hW
            clear hex h27
            have HVd := Aside0.mk HVR.out.drew
            have HOd := Aside0.mk (Kd.R_drew HO.out)
            have HXL := Aside0.mk (show (o0.length + 1) * 72 ≤ 140737488355328 from by have := HOL.out; omega)
            have HFR := Aside0.mk (show ∀ k, wc.drew.heap.size ≤ k → k ≠ g ∧ k ≠ gr from fun k hk => by have h1 := blk_lt HVd.out.1; have h2 := blk_lt HVd.out.2.1; exact ⟨by omega, by omega⟩)
            have p0 : wc.drew.cell? ⟨g, 0, none⟩ = some (.string nm0) := (blk_cell HVd.out.1 0).trans rfl
            have p1 : wc.drew.cell? ⟨g, 1, none⟩ = some (.slice A1 n1 cu1) := (blk_cell HVd.out.1 1).trans rfl
            have p2 : wc.drew.cell? ⟨g, 2, none⟩ = some (.string mk) := (blk_cell HVd.out.1 2).trans rfl
            have p3 : wc.drew.cell? ⟨g, 3, none⟩ = some (.slice B m d) := (blk_cell HVd.out.1 3).trans rfl
            have p4 : wc.drew.cell? ⟨g, 4, none⟩ = some (.string tx) := (blk_cell HVd.out.1 4).trans rfl
            go_upto_region 11 with fail
            refine start_ (n := 8) (S := fun w' => w'.cell? ⟨g, 0, none⟩ = some (.string nm0) ∧ w'.cell? ⟨g, 1, none⟩ = some (.slice A1 n1 cu1) ∧ w'.cell? ⟨g, 2, none⟩ = some (.string mk) ∧ w'.cell? ⟨g, 3, none⟩ = some (.slice B m d) ∧ w'.cell? ⟨g, 4, none⟩ = some (.string tx)) (ds := [6]) #[false, false, false, false, false, false, false, false] (by kernel_rfl) rfl rfl ⟨p0, p1, p2, p3, p4⟩ (fun hHeld => ?_)
            refine pure_ (i := 1) (N := some 35) (v := ?_) (a' := ?_) #[false, true, false, false, false, false, false, false] rfl rfl (by kernel_rfl) (fun _ _ _ h => h) (Or.inl ⟨by rfl, ?_⟩) ?_ ?_
            rotate_left
            · intro w'
              go_simp
              with_reducible rfl
            rotate_left
            · simp only [Act.put, List.setIfInBounds_toArray, List.set_cons_zero, List.set_cons_succ, i64_w, i32_w]
              rfl
            refine pure_ (i := 2) (N := some 36) (v := ?_) (a' := ?_) #[false, true, true, false, false, false, false, false] rfl rfl (by kernel_rfl) (fun _ _ _ h => h) (Or.inl ⟨by rfl, ?_⟩) ?_ ?_
            rotate_left
            · intro w'
              go_simp
              with_reducible rfl
            rotate_left
            · simp only [Act.put, List.setIfInBounds_toArray, List.set_cons_zero, List.set_cons_succ, i64_w, i32_w]
              rfl
            refine pure_ (i := 3) (N := some 37) (v := ?_) (a' := ?_) #[false, true, true, true, false, false, false, false] rfl rfl (by kernel_rfl) (fun _ _ _ h => h) (Or.inl ⟨by rfl, ?_⟩) ?_ ?_
            rotate_left
            · intro w'
              go_simp
              with_reducible rfl
            rotate_left
            · simp only [Act.put, List.setIfInBounds_toArray, List.set_cons_zero, List.set_cons_succ, i64_w, i32_w]
              rfl
            refine take_ (i := 0) (N := some 34) (v := ?_) (a' := ?_) #[true, true, true, true, false, false, false, false] rfl rfl (by kernel_rfl) (fun _ _ _ h => h) (Or.inl ⟨by rfl, ?_⟩) hHeld ?_ ?_
            rotate_left
            · rintro w' ⟨s0, s1, s2, s3, s4⟩
              go_simp
              with_reducible rfl
            rotate_left
            · simp only [Act.put, List.setIfInBounds_toArray, List.set_cons_zero, List.set_cons_succ, i64_w, i32_w]
              rfl
            refine one_ (i := 4) (N := some 38) #[true, true, true, true, true, false, false, false] rfl rfl (by kernel_rfl) (by decide) (fun K hK => ?_)
            refine value_ (w1 := ?_) (v := ?_) (by rfl) rfl ?_ ?_
            rotate_left 2
            · go_simp
              constructor
              · rfl
              · rfl
            have HV4 := Aside0.mk (HVd.out.on (below_alloc (Below.refl _ _) (.cells #[.int .i64 1, .int .i32 0, .int .u8 c, .string ⟨#[]⟩, .slice none 0 0, .string ⟨#[]⟩] 37)))
            refine hK.out _ _ ⟨((blk_cell HV4.out.1 0).trans rfl), ((blk_cell HV4.out.1 1).trans rfl), ((blk_cell HV4.out.1 2).trans rfl), ((blk_cell HV4.out.1 3).trans rfl), ((blk_cell HV4.out.1 4).trans rfl)⟩ (fun hHeld => ?_)
            clear hK K
            refine norm_ (a' := ?_) ?_ ?_
            rotate_left
            · show Act.put _ (some 38) _ = _
              simp only [Act.put, List.setIfInBounds_toArray, List.set_cons_zero, List.set_cons_succ, i64_w, i32_w]
              rfl
            refine one_ (i := 5) (N := some 39) #[true, true, true, true, true, true, false, false] rfl rfl (by kernel_rfl) (by decide) (fun K hK => ?_)
            refine Kd.R_append_step k37 (w0 := w) (W := wc.drew) w.heap.size (by rfl) (.tmp 35) (.tmp 38) 29 37 (.agg #[(.int .i64 0), (.int .i32 0), (.int .u8 0), (.string ⟨#[]⟩), (.slice none 0 0), (.string ⟨#[]⟩)]) 72 rfl Tryd.underlying29 info37 rfl (by decide) (by omega) uo o0 (execA c) [.int .i64 1, .int .i32 0, .int .u8 c, .string ⟨#[]⟩, .slice none 0 0, .string ⟨#[]⟩] (fun k => k ≠ g ∧ k ≠ gr) (fun _ => False) rfl (by first | rfl | (go_simp; done) | (go_simp; rfl)) ?aP (fun _ hk => hk.elim) HFR.out HOd.out HVd.out.2.2.2.2.2 HVd.out.2.2.2.2.2.size HXL.out ?_; (case aP => exact k37_mkM _ _ _ (execA c) (Kd.R_nil _ _ _ _ _))
            intro v5 w5 ho hb hg hat
            have HO5 := Aside0.mk ho
            have HV5 := Aside0.mk (show Q2 w w5 g gr #[.string nm0, .slice A1 n1 cu1, .string mk, .slice B m d, .string tx] qzero from ⟨blk_grown HVd.out.1 hg (fun h => (HOd.out.1 g h.symm).1 rfl), blk_grown HVd.out.2.1 hg (fun h => (HOd.out.1 gr h.symm).2 rfl), HVd.out.2.2.1, HVd.out.2.2.2.1, HVd.out.2.2.2.2.1, hb⟩)
            clear ho hb hg hat
            obtain ⟨z0, z1, z2, z3, z4⟩ := HV5.out.zero
            obtain ⟨y0, y1, y2, y3, y4⟩ := HV5.out.thaw
            refine hK.out _ _ ⟨((blk_cell HV5.out.1 0).trans rfl), ((blk_cell HV5.out.1 1).trans rfl), ((blk_cell HV5.out.1 2).trans rfl), ((blk_cell HV5.out.1 3).trans rfl), ((blk_cell HV5.out.1 4).trans rfl)⟩ (fun hHeld => ?_)
            clear hK K
            refine norm_ (a' := ?_) ?_ ?_
            rotate_left
            · show Act.put _ (some 39) _ = _
              simp only [Act.put, List.setIfInBounds_toArray, List.set_cons_zero, List.set_cons_succ, i64_w, i32_w]
              rfl
            refine last_ (i := 6) (N := none) #[true, true, true, true, true, true, true, false] rfl rfl (by kernel_rfl) (by decide) (fun K hK => ?_)
            refine skip_ (w1 := ?_) (by rfl) rfl ?_ ?_
            rotate_left
            · go_simp
              rfl
            refine hK.out _ _ ?_
            clear hK K
            refine pure_ (i := 7) (N := some 5) (v := ?_) (a' := ?_) #[true, true, true, true, true, true, true, true] rfl rfl (by kernel_rfl) (fun _ _ _ h => h) (Or.inl ⟨by rfl, ?_⟩) ?_ ?_
            rotate_left
            · intro w'
              go_simp
              with_reducible rfl
            rotate_left
            · simp only [Act.put, List.setIfInBounds_toArray, List.set_cons_zero, List.set_cons_succ, i64_w, i32_w]
              rfl
            refine done_ (by kernel_rfl) ?_
            clear p0 p1 p2 p3 p4 hHeld z0 z1 z2 z3 z4 y0 y1 y2 y3 y4
            go_wp2
            have hf := HV5.out.ret (.string nm0) (.slice A1 n1 cu1) (.string mk) (.slice B m d) (.string tx)
            refine bodyPost_ret (results_ct Tryd.results26 _ _ gr 44 #[.string nm0, .slice A1 n1 cu1, .string mk, .slice B m d, .string tx] (0, 0) _ rfl hf.2.1 hup rfl (by kernel_rfl)) rfl ⟨v5, A1, n1, cu1, B, m, d, by rw [HE2.out]; rfl, by rw [HE2.out]; exact HC1.out _ hf.2.2.2.2.2, by rw [HE2.out]; exact ⟨Kd.C_below HPS.out hf.2.2.2.2.2, HMD.out⟩, by rw [HE2.out]; exact CA.of_R (Kd.R_keep HO5.out (keep5 _ _ _ _ _ _ _) (fun k h => h.2)), hf.2.2.2.2.2, HA1.out, (fun _ _ => .inl ⟨rfl, rfl⟩)⟩
        · have HE2 := Aside0.mk (show groundP ⟨0, u, mk, ps, tx, wi⟩ c = (⟨0, (UtfPure.drain (u1 ++ [c])).2, mk, ps, tx, wi⟩, o0 ++ printedP (UtfPure.drain (u1 ++ [c])).1) from by rw [HEP.out, if_neg h27, if_neg hex])
          have hx1 : 32 ≤ c := by omega
          have hx2 : (c == 127) = false := beq_eq_false_iff_ne.mpr (by omega)
          have HC1w := Aside0.mk (HC1.out wc HVR.out.2.2.2.2.2)
          have hn1 := HC1w.out.1
          have hl3 := HPU1.out.2.2
          have hn13 : (n1 : Int) ≤ 3 := by omega
          have HLa := Aside0.mk (show (([] : List Int).length + n1) * 1 ≤ 140737488355328 by rw [List.length_nil]; omega)
          have HLb := Aside0.mk (show (u1.length + 1) * 1 ≤ 140737488355328 by omega)
          have HL4 := Aside0.mk (show (u1 ++ [c]).length ≤ 4 by rw [List.length_append, List.length_singleton]; omega)
          have HBY := Aside0.mk (show Bytes (u1 ++ [c]) from fun x hx => (List.mem_append.1 hx).elim (HPU1.out.1 x) (fun h => by simp at h; rw [h]; exact HCB.out))
          obtain ⟨D, hD⟩ : ∃ D, D = UtfPure.drain (u1 ++ [c]) := ⟨_, rfl⟩
          rw [← hD] at HE2
          have HDD := Aside0.mk hD
          obtain ⟨wg, hwg⟩ : ∃ wg, wg = wc := ⟨_, rfl⟩
          subst hwg
          have p1 : wg.cell? ⟨g, 1, none⟩ = some (.slice A1 n1 cu1) := (blk_cell HVR.out.1 1).trans rfl
          have HGL := Aside0.mk (show g < wg.heap.size ∧ gr < wg.heap.size from ⟨blk_lt HVR.out.1, blk_lt HVR.out.2.1⟩)
          have HWG := Aside0.mk (show w.heap.size ≤ wg.heap.size from HVR.out.2.2.2.2.2.size)
          clear h27 hex hn1 hl3 hD
          go_upto_region 12 with fail
          go_cut [8, 9] from 9000 to 9000 (fun v8 v9 W => ∃ (A8 : Option Addr) (c8 : Nat) (A9 : Option Addr) (n9 c9 : Nat), v8 = .slice A8 (printedP D.1).length c8 ∧ v9 = .slice A9 n9 c9 ∧ Aside0 (Kd.R k37 37 W wg.heap.size (fun k => wg.heap.size ≤ k ∧ k < W.heap.size) (.slice A8 (printedP D.1).length c8) (printedP D.1)) ∧ Aside0 (Kd.C (Kd.int .u8) W A9 n9 D.2 ∧ ∀ ad, A9 = some ad → wg.heap.size ≤ ad.block) ∧ Aside0 (Below wg.heap.size wg W))
          case first =>
            go_wp2_with (first
              | ((with_reducible refine gate_builtin (b := .append) (xs := #[.const (.slice none 0 0), .tmp 42]) rfl ?_); at_builtin; go_must ((refine Kd.R_append_rows (Kd.int .u8) (w0 := wg) wg.heap.size rfl (.const (.slice none 0 0)) (.tmp 42) 42 5 (.int .u8 0) 1 rfl Tryd.underlying42 info_u8 rfl (by decide) (by omega) (.slice none 0 0) [] u1 A1 n1 cu1 (fun _ => True) (fun _ => False) rfl rfl (Kd.R_nil _ _ _ _ _) HC1w.out ?aK (fun _ hk => hk.elim) ?aF (Below.refl _ _) (Nat.le_refl _) HLa.out ?_; (case aK => exact fun x cs h => h); (case aF => exact fun _ _ => trivial); intro v2 w2 ho hb hg hat; rw [List.nil_append] at ho; have HO2 := Aside0.mk ho; have HB2 := Aside0.mk hb; clear ho hb hg hat)))
              | ((with_reducible refine gate_builtin (b := .append) (xs := #[.tmp 43, .tmp 45]) rfl ?_); at_builtin; go_must ((refine Kd.R_append (Kd.int .u8) (w0 := wg) wg.heap.size rfl (.tmp 43) (.tmp 45) 42 5 (.int .u8 0) 1 rfl Tryd.underlying42 info_u8 rfl (by decide) (by omega) v2 u1 c [.int .u8 c] (fun _ => True) (fun _ => False) rfl (by first | rfl | (go_simp; done) | (go_simp; rfl)) ?aP (fun _ hk => hk.elim) ?aF HO2.out HB2.out HB2.out.size HLb.out ?_; (case aP => rfl); (case aF => exact fun _ _ => trivial); intro v3 w3 ho hb hg hat; have HO3 := Aside0.mk ho; have HB3 := Aside0.mk hb; clear ho hb hg hat)))
              | fail)
            obtain ⟨gq, cap, e, hq1, _, _⟩ := Kd.R_form HO3.out (by rw [List.length_append, List.length_singleton]; omega)
            subst e
            have HGQ := Aside0.mk hq1
            have hrc := runes_c (some ⟨gq, 0, none⟩) cap (u1 ++ [c]) w3 (Kd.R_reads' HO3.out).2.2 (Kd.R_reads' HO3.out).2.1 HBY.out HL4.out
            rw [← HDD.out] at hrc
            refine hrc.mono ?_
            rintro e w4 ⟨u8, A9, n9, c9, rfl, hr8, hc9, ha9, hb9⟩
            obtain ⟨A8, c8, rfl⟩ := Kd.R_slice hr8
            have HB4 := Aside0.mk (HB3.out.trans (hb9.mono HB3.out.size))
            have HR8 := Aside0.mk (Kd.R_lower (Kd.R_mono (ok' := fun k => wg.heap.size ≤ k ∧ k < w4.heap.size) (Kd.R_bound hr8) (fun k h => ⟨Nat.le_trans HB3.out.size h.2.1, h.2.2.1⟩)) HB3.out.size)
            have HC9 := Aside0.mk (show Kd.C (Kd.int .u8) w4 A9 n9 D.2 ∧ ∀ ad, A9 = some ad → wg.heap.size ≤ ad.block from ⟨hc9, fun ad e => by
              obtain ⟨ad2, e2, e3⟩ := ha9 ad e
              injection e2 with e2
              rw [e3, ← e2]
              exact HGQ.out⟩)
            clear hr8 hc9 ha9 hb9 hrc hq1 p1
            go_wp2
            go_meet
            case rel => exact ⟨A8, c8, A9, n9, c9, rfl, rfl, HR8, HC9, HB4⟩
          case rest =>
            obtain ⟨A8, c8, A9, n9, c9, rfl, rfl, HR8, HC9, HB9⟩ := hcut
            clear p1
            have HV9 := Aside0.mk (show Q2 w wc g gr #[.string nm0, .slice A1 n1 cu1, .string mk, .slice B m d, .string tx] qzero from ⟨(HB9.out.block g HGL.out.1).trans HVR.out.1, (HB9.out.block gr HGL.out.2).trans HVR.out.2.1, HVR.out.2.2.1, HVR.out.2.2.2.1, HVR.out.2.2.2.2.1, HVR.out.2.2.2.2.2.trans (HB9.out.mono HWG.out)⟩)
            have HO9 := Aside0.mk (Kd.R_step HO.out (w1 := wc) (fun k hk hlt => HB9.out.block k hlt))
            have HOLT := Aside0.mk (Kd.R_lt HO.out)
            have p1 : wc.cell? ⟨g, 1, none⟩ = some (.slice A1 n1 cu1) := (blk_cell HV9.out.1 1).trans rfl
            have fp1 := HV9.out.thawp.2.1
            go_upto_region 14 with fail
            obtain ⟨wh, hwh⟩ : ∃ wh, wh = wc.setCell ⟨g, 1, none⟩ (.slice A9 n9 c9) := ⟨_, rfl⟩
            have hk : KeepBut wc wh g none := by rw [hwh]; exact (KeepBut.refl _ g none).set_ 1 _
            have HVh := Aside0.mk (show Q2 w wh g gr #[.string nm0, .slice A9 n9 c9, .string mk, .slice B m d, .string tx] qzero from by rw [hwh]; exact HV9.out.set_p 1 _ rfl)
            have HVd := Aside0.mk HVh.out.drew
            have HOd := Aside0.mk (Kd.R_drew (Kd.R_keep HO9.out hk (fun k h => h.1)))
            have HC9h := Aside0.mk (show ∀ W', Below wh.heap.size wh W' → True from fun _ _ => trivial)
            have hc9' : Kd.C (Kd.int .u8) wh A9 n9 D.2 := by
              have h := HC9.out.1
              have hb := HC9.out.2
              refine C_blk8 h (fun hn ad e => hk.2 ad.block (by subst e; exact Kd.C_lt h hn (by decide)) (fun e2 => by have := hb ad e; have := HGL.out.1; omega) (by simp))
            have HC9d := Aside0.mk (show Kd.C (Kd.int .u8) wh.drew A9 n9 D.2 from Kd.C_drew hc9')
            have hr8 := Kd.R_drew (Kd.R_keep HR8.out hk (fun k h => by have := HGL.out.1; omega))
            have HM8 := Aside0.mk (rows_M hr8 (base' := w.heap.size) (okp := fun k => wg.heap.size ≤ k) HWG.out (fun _ h => h.1)).2
            have HOK := Aside0.mk (show ∀ k, wg.heap.size ≤ k → (k ≠ g ∧ k ≠ gr) ∧ some k ≠ uo.ownBlock from fun k h => ⟨⟨by have := HGL.out.1; omega, by have := HGL.out.2; omega⟩, fun e => by have := HOLT.out k e.symm; omega⟩)
            have HFR := Aside0.mk (show ∀ k, wh.drew.heap.size ≤ k → k ≠ g ∧ k ≠ gr from fun k hk => by have h1 := blk_lt HVd.out.1; have h2 := blk_lt HVd.out.2.1; exact ⟨by omega, by omega⟩)
            have HXL := Aside0.mk (show (o0.length + (printedP D.1).length) * 72 ≤ 140737488355328 from by
              have h1 := HOL.out
              have h2 := drain_len (u1 ++ [c])
              rw [← HDD.out] at h2
              have h3 := HL4.out
              unfold printedP
              rw [List.length_map]
              omega)
            rw [← hwh]
            clear hwh hk hc9' hr8 p1 fp1
            have p0 : wh.drew.cell? ⟨g, 0, none⟩ = some (.string nm0) := (blk_cell HVd.out.1 0).trans rfl
            have p1 : wh.drew.cell? ⟨g, 1, none⟩ = some (.slice A9 n9 c9) := (blk_cell HVd.out.1 1).trans rfl
            have p2 : wh.drew.cell? ⟨g, 2, none⟩ = some (.string mk) := (blk_cell HVd.out.1 2).trans rfl
            have p3 : wh.drew.cell? ⟨g, 3, none⟩ = some (.slice B m d) := (blk_cell HVd.out.1 3).trans rfl
            have p4 : wh.drew.cell? ⟨g, 4, none⟩ = some (.string tx) := (blk_cell HVd.out.1 4).trans rfl
            refine start_ (n := 6) (S := fun w' => w'.cell? ⟨g, 0, none⟩ = some (.string nm0) ∧ w'.cell? ⟨g, 1, none⟩ = some (.slice A9 n9 c9) ∧ w'.cell? ⟨g, 2, none⟩ = some (.string mk) ∧ w'.cell? ⟨g, 3, none⟩ = some (.slice B m d) ∧ w'.cell? ⟨g, 4, none⟩ = some (.string tx)) (ds := [4]) #[false, false, false, false, false, false] (by kernel_rfl) rfl rfl ⟨p0, p1, p2, p3, p4⟩ (fun hHeld => ?_)
            refine pure_ (i := 1) (N := some 53) (v := ?_) (a' := ?_) #[false, true, false, false, false, false] rfl rfl (by kernel_rfl) (fun _ _ _ h => h) (Or.inl ⟨by rfl, ?_⟩) ?_ ?_
            rotate_left
            · intro w'
              go_simp
              with_reducible rfl
            rotate_left
            · simp only [Act.put, List.setIfInBounds_toArray, List.set_cons_zero, List.set_cons_succ, i64_w, i32_w]
              rfl
            refine pure_ (i := 2) (N := some 54) (v := ?_) (a' := ?_) #[false, true, true, false, false, false] rfl rfl (by kernel_rfl) (fun _ _ _ h => h) (Or.inl ⟨by rfl, ?_⟩) ?_ ?_
            rotate_left
            · intro w'
              go_simp
              with_reducible rfl
            rotate_left
            · simp only [Act.put, List.setIfInBounds_toArray, List.set_cons_zero, List.set_cons_succ, i64_w, i32_w]
              rfl
            refine take_ (i := 0) (N := some 52) (v := ?_) (a' := ?_) #[true, true, true, false, false, false] rfl rfl (by kernel_rfl) (fun _ _ _ h => h) (Or.inl ⟨by rfl, ?_⟩) hHeld ?_ ?_
            rotate_left
            · rintro w' ⟨s0, s1, s2, s3, s4⟩
              go_simp
              with_reducible rfl
            rotate_left
            · simp only [Act.put, List.setIfInBounds_toArray, List.set_cons_zero, List.set_cons_succ, i64_w, i32_w]
              rfl
            refine one_ (i := 3) (N := some 55) #[true, true, true, true, false, false] rfl rfl (by kernel_rfl) (by decide) (fun K hK => ?_)
            refine Kd.R_append_rows_step k37 (w0 := w) (W := wh.drew) w.heap.size (by rfl) (.tmp 53) (.tmp 54) 29 37 (.agg #[(.int .i64 0), (.int .i32 0), (.int .u8 0), (.string ⟨#[]⟩), (.slice none 0 0), (.string ⟨#[]⟩)]) 72 rfl Tryd.underlying29 info37 rfl (by decide) (by omega) uo o0 (printedP D.1) A8 (printedP D.1).length c8 (fun k => k ≠ g ∧ k ≠ gr) (fun k => wg.heap.size ≤ k) rfl rfl HOd.out HM8.out ?aK HOK.out HFR.out HVd.out.2.2.2.2.2 HVd.out.2.2.2.2.2.size HXL.out ?_; (case aK => exact fun x cs h => h)
            intro v5 w5 ho hb hg hat
            have HO5 := Aside0.mk ho
            have HV5 := Aside0.mk (show Q2 w w5 g gr #[.string nm0, .slice A9 n9 c9, .string mk, .slice B m d, .string tx] qzero from ⟨blk_grown HVd.out.1 hg (fun h => (HOd.out.1 g h.symm).1 rfl), blk_grown HVd.out.2.1 hg (fun h => (HOd.out.1 gr h.symm).2 rfl), HVd.out.2.2.1, HVd.out.2.2.2.1, HVd.out.2.2.2.2.1, hb⟩)
            have HC5 := Aside0.mk (C_blk8 HC9d.out (W := w5) (fun hn ad e => hg.block ad.block (by have h := HC9d.out; subst e; exact Kd.C_lt h hn (by decide)) (fun h => (HOK.out ad.block (HC9.out.2 ad e)).2 h)))
            clear ho hb hg hat
            obtain ⟨z0, z1, z2, z3, z4⟩ := HV5.out.zero
            obtain ⟨y0, y1, y2, y3, y4⟩ := HV5.out.thaw
            refine hK.out _ _ ⟨((blk_cell HV5.out.1 0).trans rfl), ((blk_cell HV5.out.1 1).trans rfl), ((blk_cell HV5.out.1 2).trans rfl), ((blk_cell HV5.out.1 3).trans rfl), ((blk_cell HV5.out.1 4).trans rfl)⟩ (fun hHeld => ?_)
            clear hK K
            refine norm_ (a' := ?_) ?_ ?_
            rotate_left
            · show Act.put _ (some 55) _ = _
              simp only [Act.put, List.setIfInBounds_toArray, List.set_cons_zero, List.set_cons_succ, i64_w, i32_w]
              rfl
            refine last_ (i := 4) (N := none) #[true, true, true, true, true, false] rfl rfl (by kernel_rfl) (by decide) (fun K hK => ?_)
            refine skip_ (w1 := ?_) (by rfl) rfl ?_ ?_
            rotate_left
            · go_simp
              rfl
            refine hK.out _ _ ?_
            clear hK K
            refine pure_ (i := 5) (N := some 5) (v := ?_) (a' := ?_) #[true, true, true, true, true, true] rfl rfl (by kernel_rfl) (fun _ _ _ h => h) (Or.inl ⟨by rfl, ?_⟩) ?_ ?_
            rotate_left
            · intro w'
              go_simp
              with_reducible rfl
            rotate_left
            · simp only [Act.put, List.setIfInBounds_toArray, List.set_cons_zero, List.set_cons_succ, i64_w, i32_w]
              rfl
            refine done_ (by kernel_rfl) ?_
            clear p0 p1 p2 p3 p4 hHeld z0 z1 z2 z3 z4 y0 y1 y2 y3 y4
            go_wp2
            have hf := HV5.out.ret (.string nm0) (.slice A9 n9 c9) (.string mk) (.slice B m d) (.string tx)
            have hgr := HGL.out.2
            refine bodyPost_ret (results_ct Tryd.results26 _ _ gr 44 #[.string nm0, .slice A9 n9 c9, .string mk, .slice B m d, .string tx] (0, 0) _ rfl hf.2.1 hup rfl (by kernel_rfl)) rfl ⟨v5, A9, n9, c9, B, m, d, by rw [HE2.out]; rfl, by rw [HE2.out]; exact C_blk8 HC5.out (fun hn ad e => (keep5 _ _ _ _ _ _ _).2 ad.block (by have h := HC5.out; subst e; exact Kd.C_lt h hn (by decide)) (fun e2 => by have := HC9.out.2 ad e; omega) (by simp)), by rw [HE2.out]; exact ⟨Kd.C_below HPS.out hf.2.2.2.2.2, HMD.out⟩, by rw [HE2.out]; exact CA.of_R (Kd.R_keep HO5.out (keep5 _ _ _ _ _ _ _) (fun k h => h.2)), hf.2.2.2.2.2, (fun ad e => .inr (Nat.le_trans HWG.out (HC9.out.2 ad e))), (fun _ _ => .inl ⟨rfl, rfl⟩)⟩
end Go.Proofs.YtkdkajcokoggiaaDoor.VtRefG
/- The reference's Feed, as contracts. -/
namespace Go.Proofs.YtkdkajcokoggiaaDoor.VtRefF
open Go.RowKit Go.Proofs.YtkdkajcokoggiaaDoor.Kit Go.Proofs.YtkdkajcokoggiaaDoor.Plain Go.Proofs.YtkdkajcokoggiaaDoor.Mine Go.Proofs.YtkdkajcokoggiaaDoor.UtfPure Go.Proofs.YtkdkajcokoggiaaDoor.UtfFeed Go.Proofs.YtkdkajcokoggiaaDoor.VtPure Go.Proofs.YtkdkajcokoggiaaDoor.VtSmall Go.Proofs.YtkdkajcokoggiaaDoor.VtEsc Go.Proofs.YtkdkajcokoggiaaDoor.VtRefK Go.Proofs.YtkdkajcokoggiaaDoor.VtRefD Go.Proofs.YtkdkajcokoggiaaDoor.VtRefT Go.Proofs.YtkdkajcokoggiaaDoor.VtRefC Go.Proofs.YtkdkajcokoggiaaDoor.VtRefG Go.Proofs.YtkdkajcokoggiaaDoor.VtInv Go.Proofs.YtkdkajcokoggiaaDoor.UtfPart Go.Proofs.YtkdkajcokoggiaaDoorW.PrintWords Go.Proofs.YtkdkajcokoggiaaDoorW.PrintLast Go.Proofs.YtkdkajcokoggiaaDoorW.PrintMore
open Go.Proofs.YtkdkajcokoggiaaDoor.PVtParts (S37 k37 k37_open k37_openM k37_mk k37_mkM)
set_option linter.unusedVariables false
set_option linter.unusedSimpArgs false
/-- Cells that are no numbers. -/
def NoInt (X : Array Value) : Prop := ∀ (i : Nat) (k : IntKind) (x : Int), X[i]? ≠ some (Value.int k x)
theorem noint5 (a b c : ByteArray) (A B : Option Addr) (n m c1 d : Nat) : NoInt #[.string a, .slice A n c1, .string b, .slice B m d, .string c] := by
  intro i k x h
  match i, h with
  | 0, h => cases h
  | 1, h => cases h
  | 2, h => cases h
  | 3, h => cases h
  | 4, h => cases h
  | i + 5, h => simp at h
theorem noint_zero : NoInt qzero := noint5 _ _ _ _ _ _ _ _ _
theorem cell_keep {w W : World} {gr : Nat} {X : Array Value} {T : TypeId} {f : Nat × Nat} {a : Addr} {k : IntKind} {x : Int} (hg : w.heap[gr]? = some (.cells X T f)) (hX : NoInt X) (hk : KeepBut w W gr none) (h : w.cell? a = some (.int k x)) : W.heap[a.block]? = w.heap[a.block]? := by
  refine hk.2 _ ?_ ?_ (by simp)
  · unfold World.cell? at h
    split at h
    · rename_i e
      exact (Array.getElem?_eq_some_iff.1 e).1
    · cases h
  · intro e
    simp only [World.cell?, e, hg] at h
    split at h
    · cases h
    · exact hX _ _ _ h
theorem C_keep {kd : IntKind} {w W : World} {A : Option Addr} {n : Nat} {xs : List Int} {gr : Nat} {X : Array Value} {T : TypeId} {f : Nat × Nat} (h : Kd.C (Kd.int kd) w A n xs) (hg : w.heap[gr]? = some (.cells X T f)) (hX : NoInt X) (hk : KeepBut w W gr none) : Kd.C (Kd.int kd) W A n xs := by
  refine ⟨h.1, h.2.1, fun hn => ?_⟩
  obtain ⟨ad, e, hc⟩ := h.2.2 hn
  refine ⟨ad, e, fun j p hp => ?_⟩
  obtain ⟨cs, h1, h2, h3⟩ := hc j p hp
  refine ⟨cs, h1, h2, fun i u hu => ?_⟩
  cases h2
  have h4 := h3 i u hu
  match i, hu with
  | 0, hu =>
    cases hu
    exact (World.cell?_of_block (cell_keep hg hX hk h4)).trans h4
  | i + 1, hu => cases hu
theorem CA.keep {w W : World} {u : Value} {l : List S37} {gr : Nat} {X : Array Value} {T : TypeId} {f : Nat × Nat} (h : CA w u l) (hg : w.heap[gr]? = some (.cells X T f)) (hX : NoInt X) (hk : KeepBut w W gr none) : CA W u l := by
  obtain ⟨A, c, e, hc⟩ := h
  refine ⟨A, c, e, hc.1, hc.2.1, fun hn => ?_⟩
  obtain ⟨ad, e, hcc⟩ := hc.2.2 hn
  refine ⟨ad, e, fun j p hp => ?_⟩
  obtain ⟨cs, h1, h2, h3⟩ := hcc j p hp
  obtain ⟨A4, c4, rfl, l4, g4⟩ := k37_open h2
  have hbk : ∀ k, (ad.add k).block = ad.block := fun k => by unfold Addr.add; split <;> rfl
  refine ⟨_, h1, k37_mk W p l4 (C_keep g4 hg hX hk), fun i u hu => ?_⟩
  have h0 := cell_keep hg hX hk (h3 0 _ rfl)
  rw [hbk] at h0
  exact (World.cell?_of_block (w := w) (by rw [hbk]; exact h0)).trans (h3 i u hu)
/-- What a state's function tells, handed on. -/
theorem through {w wc w5 : World} {g gr : Nat} {pc : Array Value} {A A0 : Option Addr} {n n0 : Nat} {B B0 : Option Addr} {m m0 : Nat} {r : PR × List S37} {e : Ending} (HV : Q2 w wc g gr pc qzero) (hA : ∀ ad, A = some ad → (A = A0 ∧ n = n0) ∨ w.heap.size ≤ ad.block) (hB : ∀ ad, B = some ad → (B = B0 ∧ m = m0) ∨ w.heap.size ≤ ad.block) (h : QT wc A n B m r e w5) :
    ∃ (u : Value) (A5 : Option Addr) (n5 c5 : Nat) (B5 : Option Addr) (m5 d5 : Nat) (X0 X2 X4 : ByteArray), e = .returned (.tuple #[.agg #[.string X0, .slice A5 n5 c5, .string X2, .slice B5 m5 d5, .string X4], u]) ∧ Q2 w w5 g gr pc qzero ∧ (∀ w6, KeepBut w5 w6 gr none → Below w.heap.size w w6 → QT w A0 n0 B0 m0 r (.returned (.tuple #[.agg #[.string X0, .slice A5 n5 c5, .string X2, .slice B5 m5 d5, .string X4], u])) w6) := by
  obtain ⟨u, A5, n5, c5, B5, m5, d5, rfl, h1, h2, h3, h4, h5, h6⟩ := h
  have hv5 := HV.on h4
  refine ⟨u, A5, n5, c5, B5, m5, d5, _, _, _, rfl, hv5, fun w6 hk hb => ⟨u, A5, n5, c5, B5, m5, d5, rfl, C_keep h1 hv5.2.1 noint_zero hk, ⟨C_keep h2.1 hv5.2.1 noint_zero hk, h2.2⟩, CA.keep h3 hv5.2.1 noint_zero hk, hb, fun ad e => ?_, fun ad e => ?_⟩⟩
  · rcases h5 ad e with ⟨h, h'⟩ | h
    · rcases hA ad (by rw [← h]; exact e) with ⟨x, y⟩ | x
      · exact .inl ⟨h.trans x, h'.trans y⟩
      · exact .inr x
    · exact .inr (Nat.le_trans HV.2.2.2.2.2.size h)
  · rcases h6 ad e with ⟨h, h'⟩ | h
    · rcases hB ad (by rw [← h]; exact e) with ⟨x, y⟩ | x
      · exact .inl ⟨h.trans x, h'.trans y⟩
      · exact .inr x
    · exact .inr (Nat.le_trans HV.2.2.2.2.2.size h)
set_option maxHeartbeats 3200000 in
set_option maxRecDepth 100000 in
theorem feed_0 (u ps : List Int) (mk tx : ByteArray) (wi : Int) (A : Option Addr) (n cu : Nat) (B : Option Addr) (m d : Nat) (c : Int) (w : World) (hc : 0 ≤ c ∧ c < 256) (hu : Kd.C (Kd.int .u8) w A n u) (hp : Part u) (hps : Kd.C (Kd.int .i64) w B m ps) (hmd : m ≤ d) :
    Calls Tryd.prog 16 #[.agg #[.string nm0, .slice A n cu, .string mk, .slice B m d, .string tx], .int .u8 c] w (QT w A n B m (groundP ⟨0, u, mk, ps, tx, wi⟩ c)) := by
  have hup := Tryd.underlying44
  have HCB := Aside0.mk hc
  have HU := Aside0.mk hu
  have HPS := Aside0.mk hps
  have HMD := Aside0.mk hmd
  have HPT := Aside0.mk hp
  clear hc hu hps hmd
  obtain ⟨pc, hpc⟩ : ∃ pc : Array Value, pc = #[.string nm0, .slice A n cu, .string mk, .slice B m d, .string tx] := ⟨_, rfl⟩
  rw [show (.agg #[.string nm0, .slice A n cu, .string mk, .slice B m d, .string tx] : Value) = .agg pc from by rw [hpc]]
  have HPC := Aside0.mk hpc
  clear hpc
  go_enter Tryd.func16, Tryd.ntmps16
  go_upto_region 0 with fail
  go_cut [2, 4, 5] (fun va vb vc W => ∃ g gr : Nat, va = .pointer (some ⟨g, 0, none⟩) ∧ vb = .pointer (some ⟨gr, 0, none⟩) ∧ vc = .slice none 0 0 ∧ Aside0 (Q2 w W g gr pc qzero))
  case first =>
    go_wp2_with fail
    go_meet
    case rel => exact ⟨_, _, rfl, rfl, rfl, ⟨Q2.enter w pc qzero⟩⟩
  case rest =>
    obtain ⟨g, gr, rfl, rfl, rfl, HV0⟩ := hcut
    have HV := Aside0.mk (show Q2 w wc g gr #[.string nm0, .slice A n cu, .string mk, .slice B m d, .string tx] qzero from by have h := HV0.out; rw [HPC.out] at h; exact h)
    clear HV0 HPC
    have hn := nm0_l
    have p0 : wc.cell? ⟨g, 0, none⟩ = some (.string nm0) := (blk_cell HV.out.1 0).trans rfl
    have p1 : wc.cell? ⟨g, 1, none⟩ = some (.slice A n cu) := (blk_cell HV.out.1 1).trans rfl
    have p2 : wc.cell? ⟨g, 2, none⟩ = some (.string mk) := (blk_cell HV.out.1 2).trans rfl
    have p3 : wc.cell? ⟨g, 3, none⟩ = some (.slice B m d) := (blk_cell HV.out.1 3).trans rfl
    have p4 : wc.cell? ⟨g, 4, none⟩ = some (.string tx) := (blk_cell HV.out.1 4).trans rfl
    obtain ⟨z0, z1, z2, z3, z4⟩ := HV.out.zero
    go_wp2_with fail
    refine (ground_c u ps mk tx wi A n cu B m d c wc HCB.out (Kd.C_below HU.out HV.out.2.2.2.2.2) HPT.out (Kd.C_below HPS.out HV.out.2.2.2.2.2) HMD.out).mono ?_
    rintro e w5 hq
    obtain ⟨u5, A5, n5, c5, B5, m5, d5, X0, X2, X4, rfl, hv5, hret⟩ := through HV.out (fun _ _ => .inl ⟨rfl, rfl⟩) (fun _ _ => .inl ⟨rfl, rfl⟩) hq
    have HV5 := Aside0.mk hv5
    have HRET := Aside0.mk hret
    clear hq hv5 hret p0 p1 p2 p3 p4 z0 z1 z2 z3 z4
    obtain ⟨z0, z1, z2, z3, z4⟩ := HV5.out.zero
    obtain ⟨y0, y1, y2, y3, y4⟩ := HV5.out.thaw
    go_wp2
    have hf := HV5.out.ret (.string X0) (.slice A5 n5 c5) (.string X2) (.slice B5 m5 d5) (.string X4)
    refine bodyPost_ret (results_ct Tryd.results16 _ _ gr 44 #[.string X0, .slice A5 n5 c5, .string X2, .slice B5 m5 d5, .string X4] (0, 0) _ rfl hf.2.1 hup rfl (by kernel_rfl)) rfl ?_
    exact HRET.out _ (keep5 _ _ _ _ _ _ _) hf.2.2.2.2.2
set_option maxHeartbeats 3200000 in
set_option maxRecDepth 100000 in
theorem feed_5 (u ps : List Int) (mk tx : ByteArray) (wi : Int) (A : Option Addr) (n cu : Nat) (B : Option Addr) (m d : Nat) (c : Int) (w : World) (hc : 0 ≤ c ∧ c < 256) (hu : Kd.C (Kd.int .u8) w A n u) (hps : Kd.C (Kd.int .i64) w B m ps) (hmd : m ≤ d) :
    Calls Tryd.prog 16 #[.agg #[.string nm5, .slice A n cu, .string mk, .slice B m d, .string tx], .int .u8 c] w (QT w A n B m (stringP ⟨5, u, mk, ps, tx, wi⟩ c)) := by
  have hup := Tryd.underlying44
  have HCB := Aside0.mk hc
  have HU := Aside0.mk hu
  have HPS := Aside0.mk hps
  have HMD := Aside0.mk hmd
  clear hc hu hps hmd
  obtain ⟨pc, hpc⟩ : ∃ pc : Array Value, pc = #[.string nm5, .slice A n cu, .string mk, .slice B m d, .string tx] := ⟨_, rfl⟩
  rw [show (.agg #[.string nm5, .slice A n cu, .string mk, .slice B m d, .string tx] : Value) = .agg pc from by rw [hpc]]
  have HPC := Aside0.mk hpc
  clear hpc
  go_enter Tryd.func16, Tryd.ntmps16
  go_upto_region 0 with fail
  go_cut [2, 4, 5] (fun va vb vc W => ∃ g gr : Nat, va = .pointer (some ⟨g, 0, none⟩) ∧ vb = .pointer (some ⟨gr, 0, none⟩) ∧ vc = .slice none 0 0 ∧ Aside0 (Q2 w W g gr pc qzero))
  case first =>
    go_wp2_with fail
    go_meet
    case rel => exact ⟨_, _, rfl, rfl, rfl, ⟨Q2.enter w pc qzero⟩⟩
  case rest =>
    obtain ⟨g, gr, rfl, rfl, rfl, HV0⟩ := hcut
    have HV := Aside0.mk (show Q2 w wc g gr #[.string nm5, .slice A n cu, .string mk, .slice B m d, .string tx] qzero from by have h := HV0.out; rw [HPC.out] at h; exact h)
    clear HV0 HPC
    have hn := nm5_l
    have p0 : wc.cell? ⟨g, 0, none⟩ = some (.string nm5) := (blk_cell HV.out.1 0).trans rfl
    have p1 : wc.cell? ⟨g, 1, none⟩ = some (.slice A n cu) := (blk_cell HV.out.1 1).trans rfl
    have p2 : wc.cell? ⟨g, 2, none⟩ = some (.string mk) := (blk_cell HV.out.1 2).trans rfl
    have p3 : wc.cell? ⟨g, 3, none⟩ = some (.slice B m d) := (blk_cell HV.out.1 3).trans rfl
    have p4 : wc.cell? ⟨g, 4, none⟩ = some (.string tx) := (blk_cell HV.out.1 4).trans rfl
    obtain ⟨z0, z1, z2, z3, z4⟩ := HV.out.zero
    go_wp2_with fail
    refine (texts_5 u ps mk tx wi A n cu B m d c wc HCB.out (Kd.C_below HU.out HV.out.2.2.2.2.2) (Kd.C_below HPS.out HV.out.2.2.2.2.2) HMD.out).mono ?_
    rintro e w5 hq
    obtain ⟨u5, A5, n5, c5, B5, m5, d5, X0, X2, X4, rfl, hv5, hret⟩ := through HV.out (fun _ _ => .inl ⟨rfl, rfl⟩) (fun _ _ => .inl ⟨rfl, rfl⟩) hq
    have HV5 := Aside0.mk hv5
    have HRET := Aside0.mk hret
    clear hq hv5 hret p0 p1 p2 p3 p4 z0 z1 z2 z3 z4
    obtain ⟨z0, z1, z2, z3, z4⟩ := HV5.out.zero
    obtain ⟨y0, y1, y2, y3, y4⟩ := HV5.out.thaw
    go_wp2
    have hf := HV5.out.ret (.string X0) (.slice A5 n5 c5) (.string X2) (.slice B5 m5 d5) (.string X4)
    refine bodyPost_ret (results_ct Tryd.results16 _ _ gr 44 #[.string X0, .slice A5 n5 c5, .string X2, .slice B5 m5 d5, .string X4] (0, 0) _ rfl hf.2.1 hup rfl (by kernel_rfl)) rfl ?_
    exact HRET.out _ (keep5 _ _ _ _ _ _ _) hf.2.2.2.2.2
set_option maxHeartbeats 3200000 in
set_option maxRecDepth 100000 in
theorem feed_6 (u ps : List Int) (mk tx : ByteArray) (wi : Int) (A : Option Addr) (n cu : Nat) (B : Option Addr) (m d : Nat) (c : Int) (w : World) (hc : 0 ≤ c ∧ c < 256) (hu : Kd.C (Kd.int .u8) w A n u) (hps : Kd.C (Kd.int .i64) w B m ps) (hmd : m ≤ d) :
    Calls Tryd.prog 16 #[.agg #[.string nm6, .slice A n cu, .string mk, .slice B m d, .string tx], .int .u8 c] w (QT w A n B m (stringP ⟨6, u, mk, ps, tx, wi⟩ c)) := by
  have hup := Tryd.underlying44
  have HCB := Aside0.mk hc
  have HU := Aside0.mk hu
  have HPS := Aside0.mk hps
  have HMD := Aside0.mk hmd
  clear hc hu hps hmd
  obtain ⟨pc, hpc⟩ : ∃ pc : Array Value, pc = #[.string nm6, .slice A n cu, .string mk, .slice B m d, .string tx] := ⟨_, rfl⟩
  rw [show (.agg #[.string nm6, .slice A n cu, .string mk, .slice B m d, .string tx] : Value) = .agg pc from by rw [hpc]]
  have HPC := Aside0.mk hpc
  clear hpc
  go_enter Tryd.func16, Tryd.ntmps16
  go_upto_region 0 with fail
  go_cut [2, 4, 5] (fun va vb vc W => ∃ g gr : Nat, va = .pointer (some ⟨g, 0, none⟩) ∧ vb = .pointer (some ⟨gr, 0, none⟩) ∧ vc = .slice none 0 0 ∧ Aside0 (Q2 w W g gr pc qzero))
  case first =>
    go_wp2_with fail
    go_meet
    case rel => exact ⟨_, _, rfl, rfl, rfl, ⟨Q2.enter w pc qzero⟩⟩
  case rest =>
    obtain ⟨g, gr, rfl, rfl, rfl, HV0⟩ := hcut
    have HV := Aside0.mk (show Q2 w wc g gr #[.string nm6, .slice A n cu, .string mk, .slice B m d, .string tx] qzero from by have h := HV0.out; rw [HPC.out] at h; exact h)
    clear HV0 HPC
    have hn := nm6_l
    have p0 : wc.cell? ⟨g, 0, none⟩ = some (.string nm6) := (blk_cell HV.out.1 0).trans rfl
    have p1 : wc.cell? ⟨g, 1, none⟩ = some (.slice A n cu) := (blk_cell HV.out.1 1).trans rfl
    have p2 : wc.cell? ⟨g, 2, none⟩ = some (.string mk) := (blk_cell HV.out.1 2).trans rfl
    have p3 : wc.cell? ⟨g, 3, none⟩ = some (.slice B m d) := (blk_cell HV.out.1 3).trans rfl
    have p4 : wc.cell? ⟨g, 4, none⟩ = some (.string tx) := (blk_cell HV.out.1 4).trans rfl
    obtain ⟨z0, z1, z2, z3, z4⟩ := HV.out.zero
    go_wp2_with fail
    refine (texts_6 u ps mk tx wi A n cu B m d c wc HCB.out (Kd.C_below HU.out HV.out.2.2.2.2.2) (Kd.C_below HPS.out HV.out.2.2.2.2.2) HMD.out).mono ?_
    rintro e w5 hq
    obtain ⟨u5, A5, n5, c5, B5, m5, d5, X0, X2, X4, rfl, hv5, hret⟩ := through HV.out (fun _ _ => .inl ⟨rfl, rfl⟩) (fun _ _ => .inl ⟨rfl, rfl⟩) hq
    have HV5 := Aside0.mk hv5
    have HRET := Aside0.mk hret
    clear hq hv5 hret p0 p1 p2 p3 p4 z0 z1 z2 z3 z4
    obtain ⟨z0, z1, z2, z3, z4⟩ := HV5.out.zero
    obtain ⟨y0, y1, y2, y3, y4⟩ := HV5.out.thaw
    go_wp2
    have hf := HV5.out.ret (.string X0) (.slice A5 n5 c5) (.string X2) (.slice B5 m5 d5) (.string X4)
    refine bodyPost_ret (results_ct Tryd.results16 _ _ gr 44 #[.string X0, .slice A5 n5 c5, .string X2, .slice B5 m5 d5, .string X4] (0, 0) _ rfl hf.2.1 hup rfl (by kernel_rfl)) rfl ?_
    exact HRET.out _ (keep5 _ _ _ _ _ _ _) hf.2.2.2.2.2
set_option maxHeartbeats 3200000 in
set_option maxRecDepth 100000 in
theorem feed_75 (mk tx : ByteArray) (A : Option Addr) (n cu : Nat) (B : Option Addr) (m d : Nat) (w : World) :
    Calls Tryd.prog 16 #[.agg #[.string nm75, .slice A n cu, .string mk, .slice B m d, .string tx], .int .u8 92] w (QT w A n B m (atP 0, [strA 4 tx])) := by
  have hup := Tryd.underlying44
  obtain ⟨pc, hpc⟩ : ∃ pc : Array Value, pc = #[.string nm75, .slice A n cu, .string mk, .slice B m d, .string tx] := ⟨_, rfl⟩
  rw [show (.agg #[.string nm75, .slice A n cu, .string mk, .slice B m d, .string tx] : Value) = .agg pc from by rw [hpc]]
  have HPC := Aside0.mk hpc
  clear hpc
  go_enter Tryd.func16, Tryd.ntmps16
  go_upto_region 0 with fail
  go_cut [2, 4, 5] (fun va vb vc W => ∃ g gr : Nat, va = .pointer (some ⟨g, 0, none⟩) ∧ vb = .pointer (some ⟨gr, 0, none⟩) ∧ vc = .slice none 0 0 ∧ Aside0 (Q2 w W g gr pc qzero))
  case first =>
    go_wp2_with fail
    go_meet
    case rel => exact ⟨_, _, rfl, rfl, rfl, ⟨Q2.enter w pc qzero⟩⟩
  case rest =>
    obtain ⟨g, gr, rfl, rfl, rfl, HV0⟩ := hcut
    have HV := Aside0.mk (show Q2 w wc g gr #[.string nm75, .slice A n cu, .string mk, .slice B m d, .string tx] qzero from by have h := HV0.out; rw [HPC.out] at h; exact h)
    clear HV0 HPC
    have hn := nm75_l
    have p0 : wc.cell? ⟨g, 0, none⟩ = some (.string nm75) := (blk_cell HV.out.1 0).trans rfl
    have p1 : wc.cell? ⟨g, 1, none⟩ = some (.slice A n cu) := (blk_cell HV.out.1 1).trans rfl
    have p2 : wc.cell? ⟨g, 2, none⟩ = some (.string mk) := (blk_cell HV.out.1 2).trans rfl
    have p3 : wc.cell? ⟨g, 3, none⟩ = some (.slice B m d) := (blk_cell HV.out.1 3).trans rfl
    have p4 : wc.cell? ⟨g, 4, none⟩ = some (.string tx) := (blk_cell HV.out.1 4).trans rfl
    obtain ⟨z0, z1, z2, z3, z4⟩ := HV.out.zero
    go_wp2_with fail
    refine (done_75 (.slice A n cu) (.slice B m d) mk tx wc).mono ?_
    rintro e w5 ⟨ua, rfl, hr5, hb5⟩
    have HV5 := Aside0.mk (HV.out.on hb5)
    have HR5 := Aside0.mk (Kd.R_mono (ok' := fun k => k ≠ gr) (Kd.R_bound hr5) (fun k h => by have := blk_lt HV.out.2.1; have := h.2.1; omega))
    have HBS := Aside0.mk (show w.heap.size ≤ wc.heap.size from HV.out.2.2.2.2.2.size)
    clear hr5 hb5 z0 z1 z2 z3 z4 p0 p1 p2 p3 p4
    obtain ⟨z0, z1, z2, z3, z4⟩ := HV5.out.zero
    obtain ⟨y0, y1, y2, y3, y4⟩ := HV5.out.thaw
    go_wp2
    have hf := HV5.out.ret (.string nm0) (.slice none 0 0) (.string ⟨#[]⟩) (.slice none 0 0) (.string ⟨#[]⟩)
    refine bodyPost_ret (results_ct Tryd.results16 _ _ gr 44 #[.string nm0, .slice none 0 0, .string ⟨#[]⟩, .slice none 0 0, .string ⟨#[]⟩] (0, 0) _ rfl hf.2.1 hup rfl (by kernel_rfl)) rfl ⟨ua, none, 0, 0, none, 0, 0, rfl, Kd.C_nil _ _, ⟨Kd.C_nil _ _, Nat.le_refl _⟩, CA.of_R (Kd.R_keep HR5.out (keep5 _ _ _ _ _ _ _) (fun k h => h)), hf.2.2.2.2.2, (fun _ h => nomatch h), (fun _ h => nomatch h)⟩
set_option maxHeartbeats 3200000 in
set_option maxRecDepth 100000 in
theorem feed_76 (mk tx : ByteArray) (A : Option Addr) (n cu : Nat) (B : Option Addr) (m d : Nat) (w : World) :
    Calls Tryd.prog 16 #[.agg #[.string nm76, .slice A n cu, .string mk, .slice B m d, .string tx], .int .u8 92] w (QT w A n B m (atP 0, [strA 5 tx])) := by
  have hup := Tryd.underlying44
  obtain ⟨pc, hpc⟩ : ∃ pc : Array Value, pc = #[.string nm76, .slice A n cu, .string mk, .slice B m d, .string tx] := ⟨_, rfl⟩
  rw [show (.agg #[.string nm76, .slice A n cu, .string mk, .slice B m d, .string tx] : Value) = .agg pc from by rw [hpc]]
  have HPC := Aside0.mk hpc
  clear hpc
  go_enter Tryd.func16, Tryd.ntmps16
  go_upto_region 0 with fail
  go_cut [2, 4, 5] (fun va vb vc W => ∃ g gr : Nat, va = .pointer (some ⟨g, 0, none⟩) ∧ vb = .pointer (some ⟨gr, 0, none⟩) ∧ vc = .slice none 0 0 ∧ Aside0 (Q2 w W g gr pc qzero))
  case first =>
    go_wp2_with fail
    go_meet
    case rel => exact ⟨_, _, rfl, rfl, rfl, ⟨Q2.enter w pc qzero⟩⟩
  case rest =>
    obtain ⟨g, gr, rfl, rfl, rfl, HV0⟩ := hcut
    have HV := Aside0.mk (show Q2 w wc g gr #[.string nm76, .slice A n cu, .string mk, .slice B m d, .string tx] qzero from by have h := HV0.out; rw [HPC.out] at h; exact h)
    clear HV0 HPC
    have hn := nm76_l
    have p0 : wc.cell? ⟨g, 0, none⟩ = some (.string nm76) := (blk_cell HV.out.1 0).trans rfl
    have p1 : wc.cell? ⟨g, 1, none⟩ = some (.slice A n cu) := (blk_cell HV.out.1 1).trans rfl
    have p2 : wc.cell? ⟨g, 2, none⟩ = some (.string mk) := (blk_cell HV.out.1 2).trans rfl
    have p3 : wc.cell? ⟨g, 3, none⟩ = some (.slice B m d) := (blk_cell HV.out.1 3).trans rfl
    have p4 : wc.cell? ⟨g, 4, none⟩ = some (.string tx) := (blk_cell HV.out.1 4).trans rfl
    obtain ⟨z0, z1, z2, z3, z4⟩ := HV.out.zero
    go_wp2_with fail
    refine (done_76 (.slice A n cu) (.slice B m d) mk tx wc).mono ?_
    rintro e w5 ⟨ua, rfl, hr5, hb5⟩
    have HV5 := Aside0.mk (HV.out.on hb5)
    have HR5 := Aside0.mk (Kd.R_mono (ok' := fun k => k ≠ gr) (Kd.R_bound hr5) (fun k h => by have := blk_lt HV.out.2.1; have := h.2.1; omega))
    have HBS := Aside0.mk (show w.heap.size ≤ wc.heap.size from HV.out.2.2.2.2.2.size)
    clear hr5 hb5 z0 z1 z2 z3 z4 p0 p1 p2 p3 p4
    obtain ⟨z0, z1, z2, z3, z4⟩ := HV5.out.zero
    obtain ⟨y0, y1, y2, y3, y4⟩ := HV5.out.thaw
    go_wp2
    have hf := HV5.out.ret (.string nm0) (.slice none 0 0) (.string ⟨#[]⟩) (.slice none 0 0) (.string ⟨#[]⟩)
    refine bodyPost_ret (results_ct Tryd.results16 _ _ gr 44 #[.string nm0, .slice none 0 0, .string ⟨#[]⟩, .slice none 0 0, .string ⟨#[]⟩] (0, 0) _ rfl hf.2.1 hup rfl (by kernel_rfl)) rfl ⟨ua, none, 0, 0, none, 0, 0, rfl, Kd.C_nil _ _, ⟨Kd.C_nil _ _, Nat.le_refl _⟩, CA.of_R (Kd.R_keep HR5.out (keep5 _ _ _ _ _ _ _) (fun k h => h)), hf.2.2.2.2.2, (fun _ h => nomatch h), (fun _ h => nomatch h)⟩
end Go.Proofs.YtkdkajcokoggiaaDoor.VtRefF
/- The reference's Feed past its first switch. -/
namespace Go.Proofs.YtkdkajcokoggiaaDoor.VtRefM
open Go.RowKit Go.Proofs.YtkdkajcokoggiaaDoor.Kit Go.Proofs.YtkdkajcokoggiaaDoor.Plain Go.Proofs.YtkdkajcokoggiaaDoor.Mine Go.Proofs.YtkdkajcokoggiaaDoor.UtfPure Go.Proofs.YtkdkajcokoggiaaDoor.UtfFeed Go.Proofs.YtkdkajcokoggiaaDoor.VtPure Go.Proofs.YtkdkajcokoggiaaDoor.VtSmall Go.Proofs.YtkdkajcokoggiaaDoor.VtEsc Go.Proofs.YtkdkajcokoggiaaDoor.VtRefK Go.Proofs.YtkdkajcokoggiaaDoor.VtRefD Go.Proofs.YtkdkajcokoggiaaDoor.VtRefT Go.Proofs.YtkdkajcokoggiaaDoor.VtRefC Go.Proofs.YtkdkajcokoggiaaDoor.VtRefG Go.Proofs.YtkdkajcokoggiaaDoor.VtFeedK Go.Proofs.YtkdkajcokoggiaaDoor.VtRefF Go.Proofs.YtkdkajcokoggiaaDoor.VtInv Go.Proofs.YtkdkajcokoggiaaDoor.UtfPart Go.Proofs.YtkdkajcokoggiaaDoorW.PrintWords Go.Proofs.YtkdkajcokoggiaaDoorW.PrintLast Go.Proofs.YtkdkajcokoggiaaDoorW.PrintMore
open Go.Proofs.YtkdkajcokoggiaaDoor.PVtParts (S37 k37 k37_open k37_openM k37_mk k37_mkM)
set_option linter.unusedVariables false
set_option linter.unusedSimpArgs false
theorem nmk1 : nm 1 0 = nm1 := rfl
theorem nmk2 : nm 2 0 = nm2 := rfl
theorem nmk3 : nm 3 0 = nm3 := rfl
theorem nmk4 : nm 4 0 = nm4 := rfl
theorem nm_of_lt {k : Int} (wi : Int) (h : k ≠ 7) (h1 : k = 1 ∨ k = 2 ∨ k = 3 ∨ k = 4) : nm k wi = nm k 0 := by
  rcases h1 with rfl | rfl | rfl | rfl <;> rfl
theorem size5 (W : World) (gr : Nat) (v0 v1 v2 v3 v4 : Value) : (((((W.setCell ⟨gr, 0, none⟩ v0).setCell ⟨gr, 1, none⟩ v1).setCell ⟨gr, 2, none⟩ v2).setCell ⟨gr, 3, none⟩ v3).setCell ⟨gr, 4, none⟩ v4).heap.size = W.heap.size := by simp [World.setCell]
set_option maxHeartbeats 12800000 in
set_option maxRecDepth 100000 in
theorem feed_mid (k wi : Int) (u ps : List Int) (mk tx : ByteArray) (A : Option Addr) (n cu : Nat) (B : Option Addr) (m d : Nat) (c : Int) (w : World) (R : PR × List S37) (hR : R = if k = 7 then feed2P (atP 1) c else feed2P ⟨k, u, mk, ps, tx, wi⟩ c) (hk : k = 1 ∨ k = 2 ∨ k = 3 ∨ k = 4 ∨ (k = 7 ∧ (wi = 5 ∨ wi = 6) ∧ c ≠ 92)) (hc : 0 ≤ c ∧ c < 256) (hu : Kd.C (Kd.int .u8) w A n u) (hps : Kd.C (Kd.int .i64) w B m ps) (hmd : m ≤ d) (h8 : ps.length ≤ 8) (hb9 : ∀ x ∈ ps, 0 ≤ x ∧ x ≤ 9999) (hm2 : mk.size ≤ 2) :
    Calls Tryd.prog 16 #[.agg #[.string (nm k wi), .slice A n cu, .string mk, .slice B m d, .string tx], .int .u8 c] w (QT w A n B m R) := by
  have hup := Tryd.underlying44
  have hua := Tryd.underlying37
  have hCV := conv1 c hc
  have hc1 := hc.1
  have hc2 : c ≤ 255 := by omega
  have HCB := Aside0.mk hc
  have HU := Aside0.mk hu
  have HPS := Aside0.mk hps
  have HMD := Aside0.mk hmd
  have HR0 := Aside0.mk hR
  have H8 := Aside0.mk h8
  have HB9 := Aside0.mk hb9
  have HM2 := Aside0.mk hm2
  have HK := Aside0.mk hk
  clear hc hu hps hmd hR h8 hb9 hm2 hk
  obtain ⟨pc, hpc⟩ : ∃ pc : Array Value, pc = #[.string (nm k wi), .slice A n cu, .string mk, .slice B m d, .string tx] := ⟨_, rfl⟩
  rw [show (.agg #[.string (nm k wi), .slice A n cu, .string mk, .slice B m d, .string tx] : Value) = .agg pc from by rw [hpc]]
  have HPC := Aside0.mk hpc
  clear hpc
  go_enter Tryd.func16, Tryd.ntmps16
  go_upto_region 0 with fail
  go_cut [2, 4, 5] (fun va vb vc W => ∃ g gr : Nat, va = .pointer (some ⟨g, 0, none⟩) ∧ vb = .pointer (some ⟨gr, 0, none⟩) ∧ vc = .slice none 0 0 ∧ Aside0 (Q2 w W g gr pc qzero))
  case first =>
    go_wp2_with fail
    go_meet
    case rel => exact ⟨_, _, rfl, rfl, rfl, ⟨Q2.enter w pc qzero⟩⟩
  case rest =>
    obtain ⟨g, gr, rfl, rfl, rfl, HV0⟩ := hcut
    have HV := Aside0.mk (show Q2 w wc g gr #[.string (nm k wi), .slice A n cu, .string mk, .slice B m d, .string tx] qzero from by have h := HV0.out; rw [HPC.out] at h; exact h)
    clear HV0 HPC
    have p0 : wc.cell? ⟨g, 0, none⟩ = some (.string (nm k wi)) := (blk_cell HV.out.1 0).trans rfl
    obtain ⟨nk0, hnk0⟩ : ∃ x, x = nm k wi := ⟨_, rfl⟩
    rw [← hnk0] at p0
    have HN0 := Aside0.mk hnk0
    clear hnk0
    go_upto_block 0 with fail
    go_cut [] from 6 to 33 (fun W => ∃ (k1 : Int) (u1 ps1 : List Int) (mk1 tx1 : ByteArray) (wi1 : Int) (A1 : Option Addr) (n1 cu1 : Nat) (B1 : Option Addr) (m1 d1 : Nat), Aside0 (k1 = 1 ∨ k1 = 2 ∨ k1 = 3 ∨ k1 = 4) ∧ Aside0 (Q2 w W g gr #[.string (nm k1 0), .slice A1 n1 cu1, .string mk1, .slice B1 m1 d1, .string tx1] qzero) ∧ Aside0 (∀ W', True → Below w.heap.size w W' → Kd.C (Kd.int .u8) W' A1 n1 u1) ∧ Aside0 (∀ W', True → Below w.heap.size w W' → Kd.C (Kd.int .i64) W' B1 m1 ps1) ∧ Aside0 (m1 ≤ d1) ∧ Aside0 (R = feed2P ⟨k1, u1, mk1, ps1, tx1, wi1⟩ c) ∧ Aside0 (ps1.length ≤ 8) ∧ Aside0 (∀ x ∈ ps1, 0 ≤ x ∧ x ≤ 9999) ∧ Aside0 (mk1.size ≤ 2) ∧ Aside0 (∀ ad, A1 = some ad → (A1 = A ∧ n1 = n) ∨ w.heap.size ≤ ad.block) ∧ Aside0 (∀ ad, B1 = some ad → (B1 = B ∧ m1 = m) ∨ w.heap.size ≤ ad.block))
    case first =>
      rcases HK.out with rfl | rfl | rfl | rfl | ⟨rfl, hwi, hcn⟩
      · have HWI := Aside0.mk (show R = feed2P ⟨1, u, mk, ps, tx, wi⟩ c from HR0.out)
        have hn := nm1_l
        obtain rfl := show nk0 = nm1 from HN0.out
        clear hCV p0
        go_wp2_with fail
        go_meet
        case rel => exact ⟨1, u, ps, mk, tx, wi, A, n, cu, B, m, d, ⟨by omega⟩, ⟨by rw [show nm 1 wi = nm 1 0 from rfl] at HV; exact HV.out⟩, ⟨fun W hk hb => Kd.C_below HU.out hb⟩, ⟨fun W hk hb => Kd.C_below HPS.out hb⟩, HMD, HWI, H8, HB9, HM2, ⟨fun _ _ => .inl ⟨rfl, rfl⟩⟩, ⟨fun _ _ => .inl ⟨rfl, rfl⟩⟩⟩
      · have HWI := Aside0.mk (show R = feed2P ⟨2, u, mk, ps, tx, wi⟩ c from HR0.out)
        have hn := nm2_l
        obtain rfl := show nk0 = nm2 from HN0.out
        clear hCV p0
        go_wp2_with fail
        go_meet
        case rel => exact ⟨2, u, ps, mk, tx, wi, A, n, cu, B, m, d, ⟨by omega⟩, ⟨by rw [show nm 2 wi = nm 2 0 from rfl] at HV; exact HV.out⟩, ⟨fun W hk hb => Kd.C_below HU.out hb⟩, ⟨fun W hk hb => Kd.C_below HPS.out hb⟩, HMD, HWI, H8, HB9, HM2, ⟨fun _ _ => .inl ⟨rfl, rfl⟩⟩, ⟨fun _ _ => .inl ⟨rfl, rfl⟩⟩⟩
      · have HWI := Aside0.mk (show R = feed2P ⟨3, u, mk, ps, tx, wi⟩ c from HR0.out)
        have hn := nm3_l
        obtain rfl := show nk0 = nm3 from HN0.out
        clear hCV p0
        go_wp2_with fail
        go_meet
        case rel => exact ⟨3, u, ps, mk, tx, wi, A, n, cu, B, m, d, ⟨by omega⟩, ⟨by rw [show nm 3 wi = nm 3 0 from rfl] at HV; exact HV.out⟩, ⟨fun W hk hb => Kd.C_below HU.out hb⟩, ⟨fun W hk hb => Kd.C_below HPS.out hb⟩, HMD, HWI, H8, HB9, HM2, ⟨fun _ _ => .inl ⟨rfl, rfl⟩⟩, ⟨fun _ _ => .inl ⟨rfl, rfl⟩⟩⟩
      · have HWI := Aside0.mk (show R = feed2P ⟨4, u, mk, ps, tx, wi⟩ c from HR0.out)
        have hn := nm4_l
        obtain rfl := show nk0 = nm4 from HN0.out
        clear hCV p0
        go_wp2_with fail
        go_meet
        case rel => exact ⟨4, u, ps, mk, tx, wi, A, n, cu, B, m, d, ⟨by omega⟩, ⟨by rw [show nm 4 wi = nm 4 0 from rfl] at HV; exact HV.out⟩, ⟨fun W hk hb => Kd.C_below HU.out hb⟩, ⟨fun W hk hb => Kd.C_below HPS.out hb⟩, HMD, HWI, H8, HB9, HM2, ⟨fun _ _ => .inl ⟨rfl, rfl⟩⟩, ⟨fun _ _ => .inl ⟨rfl, rfl⟩⟩⟩
      · rcases hwi with rfl | rfl
        · have HWI := Aside0.mk (show R = feed2P (atP 1) c from HR0.out)
          have hn := nm75_l
          have h92 : (c == 92) = false := beq_eq_false_iff_ne.mpr hcn
          obtain rfl := show nk0 = nm75 from HN0.out
          have p1 : wc.cell? ⟨g, 1, none⟩ = some (.slice A n cu) := (blk_cell HV.out.1 1).trans rfl
          have p2 : wc.cell? ⟨g, 2, none⟩ = some (.string mk) := (blk_cell HV.out.1 2).trans rfl
          have p3 : wc.cell? ⟨g, 3, none⟩ = some (.slice B m d) := (blk_cell HV.out.1 3).trans rfl
          have p4 : wc.cell? ⟨g, 4, none⟩ = some (.string tx) := (blk_cell HV.out.1 4).trans rfl
          obtain ⟨fp0, fp1, fp2, fp3, fp4⟩ := HV.out.thawp
          clear hCV hcn
          go_wp2_with fail
          go_meet
          case rel => exact ⟨1, [], [], nob, nob, 0, none, 0, 0, none, 0, 0, ⟨by omega⟩, ⟨HV.out.own (.string nm1) (.slice none 0 0) (.string ⟨#[]⟩) (.slice none 0 0) (.string ⟨#[]⟩)⟩, ⟨fun W hk hb => Kd.C_nil _ _⟩, ⟨fun W hk hb => Kd.C_nil _ _⟩, ⟨Nat.le_refl _⟩, HWI, ⟨Nat.zero_le _⟩, ⟨fun x hx => by cases hx⟩, ⟨Nat.zero_le _⟩, ⟨fun _ h => nomatch h⟩, ⟨fun _ h => nomatch h⟩⟩
        · have HWI := Aside0.mk (show R = feed2P (atP 1) c from HR0.out)
          have hn := nm76_l
          have h92 : (c == 92) = false := beq_eq_false_iff_ne.mpr hcn
          obtain rfl := show nk0 = nm76 from HN0.out
          have p1 : wc.cell? ⟨g, 1, none⟩ = some (.slice A n cu) := (blk_cell HV.out.1 1).trans rfl
          have p2 : wc.cell? ⟨g, 2, none⟩ = some (.string mk) := (blk_cell HV.out.1 2).trans rfl
          have p3 : wc.cell? ⟨g, 3, none⟩ = some (.slice B m d) := (blk_cell HV.out.1 3).trans rfl
          have p4 : wc.cell? ⟨g, 4, none⟩ = some (.string tx) := (blk_cell HV.out.1 4).trans rfl
          obtain ⟨fp0, fp1, fp2, fp3, fp4⟩ := HV.out.thawp
          clear hCV hcn
          go_wp2_with fail
          go_meet
          case rel => exact ⟨1, [], [], nob, nob, 0, none, 0, 0, none, 0, 0, ⟨by omega⟩, ⟨HV.out.own (.string nm1) (.slice none 0 0) (.string ⟨#[]⟩) (.slice none 0 0) (.string ⟨#[]⟩)⟩, ⟨fun W hk hb => Kd.C_nil _ _⟩, ⟨fun W hk hb => Kd.C_nil _ _⟩, ⟨Nat.le_refl _⟩, HWI, ⟨Nat.zero_le _⟩, ⟨fun x hx => by cases hx⟩, ⟨Nat.zero_le _⟩, ⟨fun _ h => nomatch h⟩, ⟨fun _ h => nomatch h⟩⟩
    case rest =>
      obtain ⟨k1, u1, ps1, mk1, tx1, wi1, A1, n1, cu1, B1, m1, d1, HK1, HV10, HC1, HC2, HMD1, H2, H81, HB91, HM21, HA1, HB1⟩ := hcut
      clear HV HK HR0 p0 HN0
      obtain ⟨nk, hnk⟩ : ∃ nk, nk = nm k1 0 := ⟨_, rfl⟩
      rw [← hnk] at HV10
      have HV1 := HV10
      have HNK0 := Aside0.mk hnk
      have HNW := Aside0.mk (show nm k1 wi1 = nk from by rw [hnk]; rcases HK1.out with rfl | rfl | rfl | rfl <;> rfl)
      clear HV10 hnk
      by_cases h24 : c = 24 ∨ c = 26
      · have HEP := Aside0.mk (show R = (atP 0, []) from by rw [H2.out, feed2P, if_pos h24])
        obtain ⟨z0, z1, z2, z3, z4⟩ := HV1.out.zero
        have p0 : True := trivial
        rcases h24 with h24 | h24
        · subst h24
          clear hCV
          go_wp2_with fail
          refine (new_c wc).mono ?_
          rintro e w5 ⟨rfl, hb5⟩
          have HV5 := Aside0.mk (HV1.out.on hb5)
          clear hb5 p0 z0 z1 z2 z3 z4
          obtain ⟨z0, z1, z2, z3, z4⟩ := HV5.out.zero
          obtain ⟨y0, y1, y2, y3, y4⟩ := HV5.out.thaw
          go_wp2
          have hf := HV5.out.ret (.string nm0) (.slice none 0 0) (.string ⟨#[]⟩) (.slice none 0 0) (.string ⟨#[]⟩)
          refine bodyPost_ret (results_ct Tryd.results16 _ _ gr 44 #[.string nm0, .slice none 0 0, .string ⟨#[]⟩, .slice none 0 0, .string ⟨#[]⟩] (0, 0) _ rfl hf.2.1 hup rfl (by kernel_rfl)) rfl ⟨.slice none 0 0, none, 0, 0, none, 0, 0, by rw [HEP.out]; rfl, by rw [HEP.out]; exact Kd.C_nil _ _, by rw [HEP.out]; exact ⟨Kd.C_nil _ _, Nat.le_refl _⟩, by rw [HEP.out]; exact CA.nil _, hf.2.2.2.2.2, (fun _ h => nomatch h), (fun _ h => nomatch h)⟩
        · subst h24
          clear hCV
          go_wp2_with fail
          refine (new_c wc).mono ?_
          rintro e w5 ⟨rfl, hb5⟩
          have HV5 := Aside0.mk (HV1.out.on hb5)
          clear hb5 p0 z0 z1 z2 z3 z4
          obtain ⟨z0, z1, z2, z3, z4⟩ := HV5.out.zero
          obtain ⟨y0, y1, y2, y3, y4⟩ := HV5.out.thaw
          go_wp2
          have hf := HV5.out.ret (.string nm0) (.slice none 0 0) (.string ⟨#[]⟩) (.slice none 0 0) (.string ⟨#[]⟩)
          refine bodyPost_ret (results_ct Tryd.results16 _ _ gr 44 #[.string nm0, .slice none 0 0, .string ⟨#[]⟩, .slice none 0 0, .string ⟨#[]⟩] (0, 0) _ rfl hf.2.1 hup rfl (by kernel_rfl)) rfl ⟨.slice none 0 0, none, 0, 0, none, 0, 0, by rw [HEP.out]; rfl, by rw [HEP.out]; exact Kd.C_nil _ _, by rw [HEP.out]; exact ⟨Kd.C_nil _ _, Nat.le_refl _⟩, by rw [HEP.out]; exact CA.nil _, hf.2.2.2.2.2, (fun _ h => nomatch h), (fun _ h => nomatch h)⟩
      have h24b : (c == 24) = false := beq_eq_false_iff_ne.mpr (by omega)
      have h26b : (c == 26) = false := beq_eq_false_iff_ne.mpr (by omega)
      by_cases h27 : c = 27
      · subst h27
        have HEP := Aside0.mk (show R = (atP 1, []) from by rw [H2.out]; rfl)
        clear hCV h24
        obtain ⟨z0, z1, z2, z3, z4⟩ := HV1.out.zero
        obtain ⟨y0, y1, y2, y3, y4⟩ := HV1.out.thaw
        go_wp2
        have hf := HV1.out.ret (.string nm1) (.slice none 0 0) (.string ⟨#[]⟩) (.slice none 0 0) (.string ⟨#[]⟩)
        refine bodyPost_ret (results_ct Tryd.results16 _ _ gr 44 #[.string nm1, .slice none 0 0, .string ⟨#[]⟩, .slice none 0 0, .string ⟨#[]⟩] (0, 0) _ rfl hf.2.1 hup rfl (by kernel_rfl)) rfl ⟨.slice none 0 0, none, 0, 0, none, 0, 0, by rw [HEP.out]; rfl, by rw [HEP.out]; exact Kd.C_nil _ _, by rw [HEP.out]; exact ⟨Kd.C_nil _ _, Nat.le_refl _⟩, by rw [HEP.out]; exact CA.nil _, hf.2.2.2.2.2, (fun _ h => nomatch h), (fun _ h => nomatch h)⟩
      have h27b : (c == 27) = false := beq_eq_false_iff_ne.mpr h27
      by_cases h32 : c < 32
      · have HEP := Aside0.mk (show R = (⟨k1, u1, mk1, ps1, tx1, wi1⟩, [execA c]) from by rw [H2.out, feed2P, if_neg h24, if_neg h27, if_pos h32])
        clear hCV h24 h27
        have p0 : wc.cell? ⟨g, 0, none⟩ = some (.string nk) := (blk_cell HV1.out.1 0).trans rfl
        have p1 : wc.cell? ⟨g, 1, none⟩ = some (.slice A1 n1 cu1) := (blk_cell HV1.out.1 1).trans rfl
        have p2 : wc.cell? ⟨g, 2, none⟩ = some (.string mk1) := (blk_cell HV1.out.1 2).trans rfl
        have p3 : wc.cell? ⟨g, 3, none⟩ = some (.slice B1 m1 d1) := (blk_cell HV1.out.1 3).trans rfl
        have p4 : wc.cell? ⟨g, 4, none⟩ = some (.string tx1) := (blk_cell HV1.out.1 4).trans rfl
        obtain ⟨z0, z1, z2, z3, z4⟩ := HV1.out.zero
        obtain ⟨y0, y1, y2, y3, y4⟩ := HV1.out.thaw
        have hgg := HV1.out.2.2.2.2.1
        have hlr := blk_lt HV1.out.2.1
        have hlg := blk_lt HV1.out.1
        go_wp2
        have hf0 := HV1.out.ret (.string nk) (.slice A1 n1 cu1) (.string mk1) (.slice B1 m1 d1) (.string tx1)
        have hf := hf0.on (below_alloc (Below.refl _ _) (.cells ([.int .i64 1, .int .i32 0, .int .u8 c, .string ⟨#[]⟩, .slice none 0 0, .string ⟨#[]⟩] : List Value).toArray 37))
        have hla := lit_act wc _ w.heap.size (execA c) [.int .i64 1, .int .i32 0, .int .u8 c, .string ⟨#[]⟩, .slice none 0 0, .string ⟨#[]⟩] (size5 wc gr (.string nk) (.slice A1 n1 cu1) (.string mk1) (.slice B1 m1 d1) (.string tx1)) hf0.2.2.2.2.2.size rfl (k37_mkM _ _ _ (execA c) (Kd.R_nil _ _ _ _ _)) (fun ok => k37_mkM _ _ ok (execA c) (Kd.R_nil _ _ _ _ _))
        refine bodyPost_ret (results_ct Tryd.results16 _ _ gr 44 #[.string nk, .slice A1 n1 cu1, .string mk1, .slice B1 m1 d1, .string tx1] (0, 0) _ rfl hf.2.1 hup rfl (by kernel_rfl)) rfl ⟨.slice (some ⟨wc.heap.size, 0, none⟩) 1 1, A1, n1, cu1, B1, m1, d1, ?_, by rw [HEP.out]; exact HC1.out _ trivial hf.2.2.2.2.2, by rw [HEP.out]; exact ⟨HC2.out _ trivial hf.2.2.2.2.2, HMD1.out⟩, by rw [HEP.out]; exact CA.of_R hla, hf.2.2.2.2.2, HA1.out, HB1.out⟩
        rw [HEP.out, ← HNW.out]
        rfl
      have h32b : 32 ≤ c := by omega
      by_cases h127 : 127 ≤ c
      · have HEP := Aside0.mk (show R = (⟨k1, u1, mk1, ps1, tx1, wi1⟩, []) from by rw [H2.out, feed2P, if_neg h24, if_neg h27, if_neg h32, if_pos h127])
        have h126 : 126 < c := by omega
        clear hCV h24 h27 h32
        obtain ⟨wq, hwq⟩ : ∃ wq, wq = wc := ⟨_, rfl⟩
        subst hwq
        obtain ⟨z0, z1, z2, z3, z4⟩ := HV1.out.zero
        obtain ⟨y0, y1, y2, y3, y4⟩ := HV1.out.thaw
        have p0 : wq.cell? ⟨g, 0, none⟩ = some (.string (nk)) := (blk_cell HV1.out.1 0).trans rfl
        have p1 : wq.cell? ⟨g, 1, none⟩ = some (.slice A1 n1 cu1) := (blk_cell HV1.out.1 1).trans rfl
        have p2 : wq.cell? ⟨g, 2, none⟩ = some (.string (mk1)) := (blk_cell HV1.out.1 2).trans rfl
        have p3 : wq.cell? ⟨g, 3, none⟩ = some (.slice B1 m1 d1) := (blk_cell HV1.out.1 3).trans rfl
        have p4 : wq.cell? ⟨g, 4, none⟩ = some (.string (tx1)) := (blk_cell HV1.out.1 4).trans rfl
        go_wp2
        have hf := HV1.out.ret (.string (nk)) (.slice A1 n1 cu1) (.string (mk1)) (.slice B1 m1 d1) (.string (tx1))
        refine bodyPost_ret (results_ct Tryd.results16 _ _ gr 44 #[.string (nk), .slice A1 n1 cu1, .string (mk1), .slice B1 m1 d1, .string (tx1)] (0, 0) _ rfl hf.2.1 hup rfl (by kernel_rfl)) rfl ⟨.slice none 0 0, A1, n1, cu1, B1, m1, d1, ?_, by rw [HEP.out]; exact HC1.out _ trivial hf.2.2.2.2.2, by rw [HEP.out]; exact ⟨HC2.out _ trivial hf.2.2.2.2.2, HMD1.out⟩, by rw [HEP.out]; exact CA.nil _, hf.2.2.2.2.2, HA1.out, HB1.out⟩
        rw [HEP.out, ← HNW.out]
        rfl
      have h126 : c ≤ 126 := by omega
      have H2B := Aside0.mk (show R = if k1 = 3 ∨ k1 = 4 then csiP ⟨k1, u1, mk1, ps1, tx1, wi1⟩ c else escapeP ⟨k1, u1, mk1, ps1, tx1, wi1⟩ c from by rw [H2.out, feed2P, if_neg h24, if_neg h27, if_neg h32, if_neg h127])
      clear H2
      have H2 := H2B
      clear H2B h24 h27 h32 h127
      rcases HK1.out with rfl | rfl | rfl | rfl
      · have HNK := Aside0.mk (show nk = nm1 from HNK0.out)
        obtain rfl := HNK.out
        clear HNK
        have hn := nm1_l
        have p0 : wc.cell? ⟨g, 0, none⟩ = some (.string nm1) := (blk_cell HV1.out.1 0).trans rfl
        have HX := Aside0.mk (show R = escapeP ⟨1, u1, mk1, ps1, tx1, wi1⟩ c from by rw [H2.out]; rfl)
        by_cases h48 : c < 48
        · skip
          have hb1 : (b1 c).size = 1 := rfl
          obtain ⟨mk2, hmk2⟩ : ∃ mk2, mk2 = if mk1.size < 2 then mk1 ++ b1 c else mk1 := ⟨_, rfl⟩
          have HMK2 := Aside0.mk hmk2
          have HEP := Aside0.mk (show R = (⟨2, u1, mk2, ps1, tx1, wi1⟩, []) from by rw [HX.out, escapeP, if_pos h48, hmk2])
          have p2 : wc.cell? ⟨g, 2, none⟩ = some (.string mk1) := (blk_cell HV1.out.1 2).trans rfl
          have fp2 := HV1.out.thawp.2.2.1
          have hlg := blk_lt HV1.out.1
          clear hmk2
          go_upto_if 76 with fail
          go_cut [] from 71 to 84 (fun W => Aside0 (Q2 w W g gr #[.string nm1, .slice A1 n1 cu1, .string mk2, .slice B1 m1 d1, .string tx1] qzero))
          case first =>
            by_cases hs : mk1.size < 2
            · have hsI : (mk1.size : Int) < 2 := by omega
              have HE : Aside0 (mk2 = mk1 ++ b1 c) := ⟨by rw [HMK2.out, if_pos hs]⟩
              go_wp2_with fail
              go_meet
              case rel => exact ⟨by rw [HE.out]; exact (HV1.out.set_p 2 (.string (mk1 ++ b1 c)) rfl).on (below_alloc (Below.refl _ _) _)⟩
            · have hsI : (2 : Int) ≤ mk1.size := by omega
              have HE : Aside0 (mk2 = mk1) := ⟨by rw [HMK2.out, if_neg hs]⟩
              go_wp2_with fail
              go_meet
              case rel => exact ⟨by rw [HE.out]; exact HV1.out⟩
          case rest =>
            have HV3 := hcut
            clear p0 p2 fp2 hlg hCV HV1
            have p0 : wc.cell? ⟨g, 0, none⟩ = some (.string nm1) := (blk_cell HV3.out.1 0).trans rfl
            have fp0 := HV3.out.thawp.1
            go_upto_region 25 with fail
            go_cut [] from 9000 to 9000 (fun W => Aside0 (Q2 w W g gr #[.string nm2, .slice A1 n1 cu1, .string mk2, .slice B1 m1 d1, .string tx1] qzero))
            case first =>
              go_wp2_with fail
              go_meet
              case rel => exact ⟨HV3.out.set_p 0 (.string nm2) rfl⟩
            case rest =>
              have HV2 := hcut
              clear p0 fp0 HV3
              obtain ⟨wq, hwq⟩ : ∃ wq, wq = wc := ⟨_, rfl⟩
              subst hwq
              obtain ⟨z0, z1, z2, z3, z4⟩ := HV2.out.zero
              obtain ⟨y0, y1, y2, y3, y4⟩ := HV2.out.thaw
              have p0 : wq.cell? ⟨g, 0, none⟩ = some (.string (nm2)) := (blk_cell HV2.out.1 0).trans rfl
              have p1 : wq.cell? ⟨g, 1, none⟩ = some (.slice A1 n1 cu1) := (blk_cell HV2.out.1 1).trans rfl
              have p2 : wq.cell? ⟨g, 2, none⟩ = some (.string (mk2)) := (blk_cell HV2.out.1 2).trans rfl
              have p3 : wq.cell? ⟨g, 3, none⟩ = some (.slice B1 m1 d1) := (blk_cell HV2.out.1 3).trans rfl
              have p4 : wq.cell? ⟨g, 4, none⟩ = some (.string (tx1)) := (blk_cell HV2.out.1 4).trans rfl
              go_wp2
              have hf := HV2.out.ret (.string (nm2)) (.slice A1 n1 cu1) (.string (mk2)) (.slice B1 m1 d1) (.string (tx1))
              refine bodyPost_ret (results_ct Tryd.results16 _ _ gr 44 #[.string (nm2), .slice A1 n1 cu1, .string (mk2), .slice B1 m1 d1, .string (tx1)] (0, 0) _ rfl hf.2.1 hup rfl (by kernel_rfl)) rfl ⟨.slice none 0 0, A1, n1, cu1, B1, m1, d1, by rw [HEP.out]; rfl, by rw [HEP.out]; exact HC1.out _ trivial hf.2.2.2.2.2, by rw [HEP.out]; exact ⟨HC2.out _ trivial hf.2.2.2.2.2, HMD1.out⟩, by rw [HEP.out]; exact CA.nil _, hf.2.2.2.2.2, HA1.out, HB1.out⟩

        · have h48b : 48 ≤ c := by omega
          by_cases h91 : c = 91
          · subst h91
            have HEP := Aside0.mk (show R = (atP 3, []) from by rw [HX.out]; rfl)
            clear hCV
            obtain ⟨z0, z1, z2, z3, z4⟩ := HV1.out.zero
            obtain ⟨y0, y1, y2, y3, y4⟩ := HV1.out.thaw
            go_wp2
            have hf := HV1.out.ret (.string nm3) (.slice none 0 0) (.string ⟨#[]⟩) (.slice none 0 0) (.string ⟨#[]⟩)
            refine bodyPost_ret (results_ct Tryd.results16 _ _ gr 44 #[.string nm3, .slice none 0 0, .string ⟨#[]⟩, .slice none 0 0, .string ⟨#[]⟩] (0, 0) _ rfl hf.2.1 hup rfl (by kernel_rfl)) rfl ⟨.slice none 0 0, none, 0, 0, none, 0, 0, by rw [HEP.out]; rfl, by rw [HEP.out]; exact Kd.C_nil _ _, by rw [HEP.out]; exact ⟨Kd.C_nil _ _, Nat.le_refl _⟩, by rw [HEP.out]; exact CA.nil _, hf.2.2.2.2.2, (fun _ h => nomatch h), (fun _ h => nomatch h)⟩
          have h91b : (c == 91) = false := beq_eq_false_iff_ne.mpr h91
          by_cases h93 : c = 93
          · subst h93
            have HEP := Aside0.mk (show R = (atP 5, []) from by rw [HX.out]; rfl)
            clear hCV
            obtain ⟨z0, z1, z2, z3, z4⟩ := HV1.out.zero
            obtain ⟨y0, y1, y2, y3, y4⟩ := HV1.out.thaw
            go_wp2
            have hf := HV1.out.ret (.string nm5) (.slice none 0 0) (.string ⟨#[]⟩) (.slice none 0 0) (.string ⟨#[]⟩)
            refine bodyPost_ret (results_ct Tryd.results16 _ _ gr 44 #[.string nm5, .slice none 0 0, .string ⟨#[]⟩, .slice none 0 0, .string ⟨#[]⟩] (0, 0) _ rfl hf.2.1 hup rfl (by kernel_rfl)) rfl ⟨.slice none 0 0, none, 0, 0, none, 0, 0, by rw [HEP.out]; rfl, by rw [HEP.out]; exact Kd.C_nil _ _, by rw [HEP.out]; exact ⟨Kd.C_nil _ _, Nat.le_refl _⟩, by rw [HEP.out]; exact CA.nil _, hf.2.2.2.2.2, (fun _ h => nomatch h), (fun _ h => nomatch h)⟩
          have h93b : (c == 93) = false := beq_eq_false_iff_ne.mpr h93
          by_cases h80 : c = 80
          · subst h80
            have HEP := Aside0.mk (show R = (atP 6, []) from by rw [HX.out]; rfl)
            clear hCV
            obtain ⟨z0, z1, z2, z3, z4⟩ := HV1.out.zero
            obtain ⟨y0, y1, y2, y3, y4⟩ := HV1.out.thaw
            go_wp2
            have hf := HV1.out.ret (.string nm6) (.slice none 0 0) (.string ⟨#[]⟩) (.slice none 0 0) (.string ⟨#[]⟩)
            refine bodyPost_ret (results_ct Tryd.results16 _ _ gr 44 #[.string nm6, .slice none 0 0, .string ⟨#[]⟩, .slice none 0 0, .string ⟨#[]⟩] (0, 0) _ rfl hf.2.1 hup rfl (by kernel_rfl)) rfl ⟨.slice none 0 0, none, 0, 0, none, 0, 0, by rw [HEP.out]; rfl, by rw [HEP.out]; exact Kd.C_nil _ _, by rw [HEP.out]; exact ⟨Kd.C_nil _ _, Nat.le_refl _⟩, by rw [HEP.out]; exact CA.nil _, hf.2.2.2.2.2, (fun _ h => nomatch h), (fun _ h => nomatch h)⟩
          have h80b : (c == 80) = false := beq_eq_false_iff_ne.mpr h80
          have HEP := Aside0.mk (show R = (atP 0, [escA c mk1]) from by rw [HX.out, escapeP, if_neg h48, if_neg (fun h => h91 h.2), if_neg (fun h => h93 h.2), if_neg (fun h => h80 h.2)])
          clear hCV h48
          go_upto_region 35 with fail
          clear p0
          have HVd := Aside0.mk HV1.out.drew
          refine start_ (n := 8) (S := fun w' => w'.cell? ⟨g, 2, none⟩ = some (.string mk1)) (ds := []) #[false, false, false, false, false, false, false, false] (by kernel_rfl) rfl rfl (((blk_cell HVd.out.1 2).trans rfl)) (fun hHeld => ?_)
          refine pure_ (i := 1) (N := some 100) (v := ?_) (a' := ?_) #[false, true, false, false, false, false, false, false] rfl rfl (by kernel_rfl) (fun _ _ _ h => h) (Or.inl ⟨by rfl, ?_⟩) ?_ ?_
          rotate_left
          · intro w'
            go_simp
            with_reducible rfl
          rotate_left
          · simp only [Act.put, List.setIfInBounds_toArray, List.set_cons_zero, List.set_cons_succ, i64_w, i32_w]
            rfl
          refine pure_ (i := 2) (N := some 101) (v := ?_) (a' := ?_) #[false, true, true, false, false, false, false, false] rfl rfl (by kernel_rfl) (fun _ _ _ h => h) (Or.inl ⟨by rfl, ?_⟩) ?_ ?_
          rotate_left
          · intro w'
            go_simp
            with_reducible rfl
          rotate_left
          · simp only [Act.put, List.setIfInBounds_toArray, List.set_cons_zero, List.set_cons_succ, i64_w, i32_w]
            rfl
          refine take_ (i := 3) (N := some 102) (v := ?_) (a' := ?_) #[false, true, true, true, false, false, false, false] rfl rfl (by kernel_rfl) (fun _ _ _ h => h) (Or.inl ⟨by rfl, ?_⟩) hHeld ?_ ?_
          rotate_left
          · intro w' s0
            go_simp
            with_reducible rfl
          rotate_left
          · simp only [Act.put, List.setIfInBounds_toArray, List.set_cons_zero, List.set_cons_succ, i64_w, i32_w]
            rfl
          refine pure_ (i := 4) (N := some 103) (v := ?_) (a' := ?_) #[false, true, true, true, true, false, false, false] rfl rfl (by kernel_rfl) (fun _ _ _ h => h) (Or.inl ⟨by rfl, ?_⟩) ?_ ?_
          rotate_left
          · intro w'
            go_simp
            with_reducible rfl
          rotate_left
          · simp only [Act.put, List.setIfInBounds_toArray, List.set_cons_zero, List.set_cons_succ, i64_w, i32_w]
            rfl
          refine join_ (σ := Value) 1 #[true, true, true, true, true, true, true, false] (fun s => [(99, .agg #[.string nm0, .slice none 0 0, .string ⟨#[]⟩, .slice none 0 0, .string ⟨#[]⟩]), (104, s)]) (fun s w' => Q2 w w' g gr #[.string nm1, .slice A1 n1 cu1, .string mk1, .slice B1 m1 d1, .string tx1] #[.string nm0, .slice none 0 0, .string ⟨#[]⟩, .slice none 0 0, .string ⟨#[]⟩] ∧ Kd.R k37 37 w' w.heap.size (fun k => k ≠ g ∧ k ≠ gr) s [escA c mk1]) ?_ ?_
          rotate_left
          · intro hCont
            refine two_ (i := 0) (j := 5) (Ni := some 99) (Nj := some 104) #[true, true, true, true, true, false, false, false] #[false, true, true, true, true, true, false, false] rfl rfl rfl rfl (by kernel_rfl) (by decide) (by decide) (fun K hK => ?_) (fun K hK => ?_)
            · skip
              refine goes_ Tryd.func15 (by kernel_rfl) rfl #[] (by rfl) rfl rfl (by simp only [List.map_toArray, List.map_nil]) ?_
              with_reducible refine ((new_c _)).mono ?_
              rintro e wa ⟨rfl, hb⟩
              refine ⟨_, rfl, ?_⟩
              have HVa := Aside0.mk (HVd.out.on hb)
              clear hb
              refine hK.out _ _ (((blk_cell HVa.out.1 2).trans rfl)) (fun hHeld => ?_)
              clear hK K
              refine norm_ (a' := ?_) ?_ ?_
              rotate_left
              · show Act.put _ (some 99) _ = _
                simp only [Act.put, List.setIfInBounds_toArray, List.set_cons_zero, List.set_cons_succ, i64_w, i32_w]
                rfl
              refine two_ (i := 5) (j := 6) (Ni := some 104) (Nj := none) #[true, true, true, true, true, true, false, false] #[true, true, true, true, true, false, true, false] rfl rfl rfl rfl (by kernel_rfl) (by decide) (by decide) (fun K hK => ?_) (fun K hK => ?_)
              · skip
                refine Kd.R_lit_step k37 (w0 := w) w.heap.size 37 (by rfl) rfl (xs := [escA c mk1]) (inner := [.int .i64 2, .int .i32 0, .int .u8 c, .string mk1, .slice none 0 0, .string ⟨#[]⟩]) (ok := fun k => k ≠ g ∧ k ≠ gr) (okp := fun _ => False) ?lr ?lp (fun _ h => h.elim) ?lf HVa.out.2.2.2.2.2 HVa.out.2.2.2.2.2.size (by simp) ?_; (case lr => first | (go_simp; done) | (go_simp; rfl)); (case lp => exact reps_one rfl (k37_mkM _ _ _ (escA c mk1) (Kd.R_nil _ _ _ _ _))); (case lf => exact ⟨Ne.symm (Nat.ne_of_lt (blk_lt HVa.out.1)), Ne.symm (Nat.ne_of_lt (blk_lt HVa.out.2.1))⟩)
                intro vl wl ho hb hg hw
                have HVl := Aside0.mk (HVa.out.grow hg hb)
                have HRl := Aside0.mk ho
                clear ho hb hg hw
                refine hK.out _ _ (((blk_cell HVl.out.1 2).trans rfl)) (fun hHeld => ?_)
                clear hK K
                refine norm_ (a' := ?_) ?_ ?_
                rotate_left
                · show Act.put _ (some 104) _ = _
                  simp only [Act.put, List.setIfInBounds_toArray, List.set_cons_zero, List.set_cons_succ, i64_w, i32_w]
                  rfl
                refine one_ (i := 6) (N := none) #[true, true, true, true, true, true, true, false] rfl rfl (by kernel_rfl) (by decide) (fun K hK => ?_)
                obtain ⟨z0, z1, z2, z3, z4⟩ := HVl.out.zero
                obtain ⟨y0, y1, y2, y3, y4⟩ := HVl.out.thaw
                refine skip_ (w1 := ?_) (by rfl) rfl ?_ ?_
                rotate_left
                · go_simp
                  rfl
                have HVs := Aside0.mk (HVl.out.ret (.string nm0) (.slice none 0 0) (.string ⟨#[]⟩) (.slice none 0 0) (.string ⟨#[]⟩))
                refine hK.out _ _ (((blk_cell HVs.out.1 2).trans rfl)) (fun hHeld => ?_)
                clear hK K
                exact norm_ (by simp only [putAll, Act.put, List.setIfInBounds_toArray, List.set_cons_zero, List.set_cons_succ]) (hCont vl _ ⟨HVs.out, Kd.R_keep HRl.out (keep5 _ _ _ _ _ _ _) (fun k h => h.2)⟩)
              · skip
                obtain ⟨z0, z1, z2, z3, z4⟩ := HVa.out.zero
                obtain ⟨y0, y1, y2, y3, y4⟩ := HVa.out.thaw
                refine skip_ (w1 := ?_) (by rfl) rfl ?_ ?_
                rotate_left
                · go_simp
                  rfl
                have HVs := Aside0.mk (HVa.out.ret (.string nm0) (.slice none 0 0) (.string ⟨#[]⟩) (.slice none 0 0) (.string ⟨#[]⟩))
                refine hK.out _ _ (((blk_cell HVs.out.1 2).trans rfl)) (fun hHeld => ?_)
                clear hK K
                refine one_ (i := 5) (N := some 104) #[true, true, true, true, true, true, true, false] rfl rfl (by kernel_rfl) (by decide) (fun K hK => ?_)
                refine Kd.R_lit_step k37 (w0 := w) w.heap.size 37 (by rfl) rfl (xs := [escA c mk1]) (inner := [.int .i64 2, .int .i32 0, .int .u8 c, .string mk1, .slice none 0 0, .string ⟨#[]⟩]) (ok := fun k => k ≠ g ∧ k ≠ gr) (okp := fun _ => False) ?lr ?lp (fun _ h => h.elim) ?lf HVs.out.2.2.2.2.2 HVs.out.2.2.2.2.2.size (by simp) ?_; (case lr => first | (go_simp; done) | (go_simp; rfl)); (case lp => exact reps_one rfl (k37_mkM _ _ _ (escA c mk1) (Kd.R_nil _ _ _ _ _))); (case lf => exact ⟨Ne.symm (Nat.ne_of_lt (blk_lt HVs.out.1)), Ne.symm (Nat.ne_of_lt (blk_lt HVs.out.2.1))⟩)
                intro vl wl ho hb hg hw
                have HVl := Aside0.mk (HVs.out.grow hg hb)
                have HRl := Aside0.mk ho
                clear ho hb hg hw
                refine hK.out _ _ (((blk_cell HVl.out.1 2).trans rfl)) (fun hHeld => ?_)
                clear hK K
                refine norm_ (a' := ?_) ?_ ?_
                rotate_left
                · show Act.put _ (some 104) _ = _
                  simp only [Act.put, List.setIfInBounds_toArray, List.set_cons_zero, List.set_cons_succ, i64_w, i32_w]
                  rfl
                exact norm_ (by simp only [putAll, Act.put, List.setIfInBounds_toArray, List.set_cons_zero, List.set_cons_succ]) (hCont vl _ ⟨HVl.out, HRl.out⟩)
            · skip
              refine Kd.R_lit_step k37 (w0 := w) w.heap.size 37 (by rfl) rfl (xs := [escA c mk1]) (inner := [.int .i64 2, .int .i32 0, .int .u8 c, .string mk1, .slice none 0 0, .string ⟨#[]⟩]) (ok := fun k => k ≠ g ∧ k ≠ gr) (okp := fun _ => False) ?lr ?lp (fun _ h => h.elim) ?lf HVd.out.2.2.2.2.2 HVd.out.2.2.2.2.2.size (by simp) ?_; (case lr => first | (go_simp; done) | (go_simp; rfl)); (case lp => exact reps_one rfl (k37_mkM _ _ _ (escA c mk1) (Kd.R_nil _ _ _ _ _))); (case lf => exact ⟨Ne.symm (Nat.ne_of_lt (blk_lt HVd.out.1)), Ne.symm (Nat.ne_of_lt (blk_lt HVd.out.2.1))⟩)
              intro vl wl ho hb hg hw
              have HVl := Aside0.mk (HVd.out.grow hg hb)
              have HRl := Aside0.mk ho
              clear ho hb hg hw
              refine hK.out _ _ (((blk_cell HVl.out.1 2).trans rfl)) (fun hHeld => ?_)
              clear hK K
              refine norm_ (a' := ?_) ?_ ?_
              rotate_left
              · show Act.put _ (some 104) _ = _
                simp only [Act.put, List.setIfInBounds_toArray, List.set_cons_zero, List.set_cons_succ, i64_w, i32_w]
                rfl
              refine one_ (i := 0) (N := some 99) #[true, true, true, true, true, true, false, false] rfl rfl (by kernel_rfl) (by decide) (fun K hK => ?_)
              refine goes_ Tryd.func15 (by kernel_rfl) rfl #[] (by rfl) rfl rfl (by simp only [List.map_toArray, List.map_nil]) ?_
              with_reducible refine ((new_c _)).mono ?_
              rintro e wa ⟨rfl, hb⟩
              refine ⟨_, rfl, ?_⟩
              have HVa := Aside0.mk (HVl.out.on hb)
              have HRa := Aside0.mk (Kd.R_below HRl.out hb)
              clear hb
              refine hK.out _ _ (((blk_cell HVa.out.1 2).trans rfl)) (fun hHeld => ?_)
              clear hK K
              refine norm_ (a' := ?_) ?_ ?_
              rotate_left
              · show Act.put _ (some 99) _ = _
                simp only [Act.put, List.setIfInBounds_toArray, List.set_cons_zero, List.set_cons_succ, i64_w, i32_w]
                rfl
              refine one_ (i := 6) (N := none) #[true, true, true, true, true, true, true, false] rfl rfl (by kernel_rfl) (by decide) (fun K hK => ?_)
              obtain ⟨z0, z1, z2, z3, z4⟩ := HVa.out.zero
              obtain ⟨y0, y1, y2, y3, y4⟩ := HVa.out.thaw
              refine skip_ (w1 := ?_) (by rfl) rfl ?_ ?_
              rotate_left
              · go_simp
                rfl
              have HVs := Aside0.mk (HVa.out.ret (.string nm0) (.slice none 0 0) (.string ⟨#[]⟩) (.slice none 0 0) (.string ⟨#[]⟩))
              refine hK.out _ _ (((blk_cell HVs.out.1 2).trans rfl)) (fun hHeld => ?_)
              clear hK K
              exact norm_ (by simp only [putAll, Act.put, List.setIfInBounds_toArray, List.set_cons_zero, List.set_cons_succ]) (hCont vl _ ⟨HVs.out, Kd.R_keep HRa.out (keep5 _ _ _ _ _ _ _) (fun k h => h.2)⟩)
          rintro vs ws ⟨hvs, hrs⟩
          have HVz := Aside0.mk hvs
          have HRz := Aside0.mk hrs
          have hHeld : ws.cell? ⟨g, 2, none⟩ = some (.string mk1) := ((blk_cell HVz.out.1 2).trans rfl)
          clear hvs hrs
          refine norm_ (a' := ?_) ?_ ?_
          rotate_left
          · simp only [putAll, Act.put, List.setIfInBounds_toArray, List.set_cons_zero, List.set_cons_succ]
            rfl
          refine pure_ (i := 7) (N := some 5) (v := ?_) (a' := ?_) #[true, true, true, true, true, true, true, true] rfl rfl (by kernel_rfl) (fun _ _ _ h => h) (Or.inl ⟨by rfl, ?_⟩) ?_ ?_
          rotate_left
          · intro w'
            go_simp
            with_reducible rfl
          rotate_left
          · simp only [Act.put, List.setIfInBounds_toArray, List.set_cons_zero, List.set_cons_succ, i64_w, i32_w]
            rfl
          refine done_ (by kernel_rfl) ?_
          go_wp2
          refine bodyPost_ret (results_ct Tryd.results16 _ _ gr 44 #[.string nm0, .slice none 0 0, .string ⟨#[]⟩, .slice none 0 0, .string ⟨#[]⟩] (0, 0) _ rfl HVz.out.2.1 hup rfl (by kernel_rfl)) rfl ⟨vs, none, 0, 0, none, 0, 0, by rw [HEP.out]; rfl, by rw [HEP.out]; exact Kd.C_nil _ _, by rw [HEP.out]; exact ⟨Kd.C_nil _ _, Nat.le_refl _⟩, by rw [HEP.out]; exact CA.of_R HRz.out, HVz.out.2.2.2.2.2, (fun _ h => nomatch h), (fun _ h => nomatch h)⟩
      · have HNK := Aside0.mk (show nk = nm2 from HNK0.out)
        obtain rfl := HNK.out
        clear HNK
        have hn := nm2_l
        have p0 : wc.cell? ⟨g, 0, none⟩ = some (.string nm2) := (blk_cell HV1.out.1 0).trans rfl
        have HX := Aside0.mk (show R = escapeP ⟨2, u1, mk1, ps1, tx1, wi1⟩ c from by rw [H2.out]; rfl)
        by_cases h48 : c < 48
        · skip
          have hb1 : (b1 c).size = 1 := rfl
          obtain ⟨mk2, hmk2⟩ : ∃ mk2, mk2 = if mk1.size < 2 then mk1 ++ b1 c else mk1 := ⟨_, rfl⟩
          have HMK2 := Aside0.mk hmk2
          have HEP := Aside0.mk (show R = (⟨2, u1, mk2, ps1, tx1, wi1⟩, []) from by rw [HX.out, escapeP, if_pos h48, hmk2])
          have p2 : wc.cell? ⟨g, 2, none⟩ = some (.string mk1) := (blk_cell HV1.out.1 2).trans rfl
          have fp2 := HV1.out.thawp.2.2.1
          have hlg := blk_lt HV1.out.1
          clear hmk2
          go_upto_if 76 with fail
          go_cut [] from 71 to 84 (fun W => Aside0 (Q2 w W g gr #[.string nm2, .slice A1 n1 cu1, .string mk2, .slice B1 m1 d1, .string tx1] qzero))
          case first =>
            by_cases hs : mk1.size < 2
            · have hsI : (mk1.size : Int) < 2 := by omega
              have HE : Aside0 (mk2 = mk1 ++ b1 c) := ⟨by rw [HMK2.out, if_pos hs]⟩
              go_wp2_with fail
              go_meet
              case rel => exact ⟨by rw [HE.out]; exact (HV1.out.set_p 2 (.string (mk1 ++ b1 c)) rfl).on (below_alloc (Below.refl _ _) _)⟩
            · have hsI : (2 : Int) ≤ mk1.size := by omega
              have HE : Aside0 (mk2 = mk1) := ⟨by rw [HMK2.out, if_neg hs]⟩
              go_wp2_with fail
              go_meet
              case rel => exact ⟨by rw [HE.out]; exact HV1.out⟩
          case rest =>
            have HV3 := hcut
            clear p0 p2 fp2 hlg hCV HV1
            have p0 : wc.cell? ⟨g, 0, none⟩ = some (.string nm2) := (blk_cell HV3.out.1 0).trans rfl
            have fp0 := HV3.out.thawp.1
            go_upto_region 25 with fail
            go_cut [] from 9000 to 9000 (fun W => Aside0 (Q2 w W g gr #[.string nm2, .slice A1 n1 cu1, .string mk2, .slice B1 m1 d1, .string tx1] qzero))
            case first =>
              go_wp2_with fail
              go_meet
              case rel => exact ⟨HV3.out.set_p 0 (.string nm2) rfl⟩
            case rest =>
              have HV2 := hcut
              clear p0 fp0 HV3
              obtain ⟨wq, hwq⟩ : ∃ wq, wq = wc := ⟨_, rfl⟩
              subst hwq
              obtain ⟨z0, z1, z2, z3, z4⟩ := HV2.out.zero
              obtain ⟨y0, y1, y2, y3, y4⟩ := HV2.out.thaw
              have p0 : wq.cell? ⟨g, 0, none⟩ = some (.string (nm2)) := (blk_cell HV2.out.1 0).trans rfl
              have p1 : wq.cell? ⟨g, 1, none⟩ = some (.slice A1 n1 cu1) := (blk_cell HV2.out.1 1).trans rfl
              have p2 : wq.cell? ⟨g, 2, none⟩ = some (.string (mk2)) := (blk_cell HV2.out.1 2).trans rfl
              have p3 : wq.cell? ⟨g, 3, none⟩ = some (.slice B1 m1 d1) := (blk_cell HV2.out.1 3).trans rfl
              have p4 : wq.cell? ⟨g, 4, none⟩ = some (.string (tx1)) := (blk_cell HV2.out.1 4).trans rfl
              go_wp2
              have hf := HV2.out.ret (.string (nm2)) (.slice A1 n1 cu1) (.string (mk2)) (.slice B1 m1 d1) (.string (tx1))
              refine bodyPost_ret (results_ct Tryd.results16 _ _ gr 44 #[.string (nm2), .slice A1 n1 cu1, .string (mk2), .slice B1 m1 d1, .string (tx1)] (0, 0) _ rfl hf.2.1 hup rfl (by kernel_rfl)) rfl ⟨.slice none 0 0, A1, n1, cu1, B1, m1, d1, by rw [HEP.out]; rfl, by rw [HEP.out]; exact HC1.out _ trivial hf.2.2.2.2.2, by rw [HEP.out]; exact ⟨HC2.out _ trivial hf.2.2.2.2.2, HMD1.out⟩, by rw [HEP.out]; exact CA.nil _, hf.2.2.2.2.2, HA1.out, HB1.out⟩

        · have h48b : 48 ≤ c := by omega
          have HEP := Aside0.mk (show R = (atP 0, [escA c mk1]) from by rw [HX.out, escapeP, if_neg h48, if_neg (fun h => absurd h.1 (show ¬ (2 : Int) = 1 by decide)), if_neg (fun h => absurd h.1 (show ¬ (2 : Int) = 1 by decide)), if_neg (fun h => absurd h.1 (show ¬ (2 : Int) = 1 by decide))])
          clear hCV h48
          go_upto_region 35 with fail
          clear p0
          have HVd := Aside0.mk HV1.out.drew
          refine start_ (n := 8) (S := fun w' => w'.cell? ⟨g, 2, none⟩ = some (.string mk1)) (ds := []) #[false, false, false, false, false, false, false, false] (by kernel_rfl) rfl rfl (((blk_cell HVd.out.1 2).trans rfl)) (fun hHeld => ?_)
          refine pure_ (i := 1) (N := some 100) (v := ?_) (a' := ?_) #[false, true, false, false, false, false, false, false] rfl rfl (by kernel_rfl) (fun _ _ _ h => h) (Or.inl ⟨by rfl, ?_⟩) ?_ ?_
          rotate_left
          · intro w'
            go_simp
            with_reducible rfl
          rotate_left
          · simp only [Act.put, List.setIfInBounds_toArray, List.set_cons_zero, List.set_cons_succ, i64_w, i32_w]
            rfl
          refine pure_ (i := 2) (N := some 101) (v := ?_) (a' := ?_) #[false, true, true, false, false, false, false, false] rfl rfl (by kernel_rfl) (fun _ _ _ h => h) (Or.inl ⟨by rfl, ?_⟩) ?_ ?_
          rotate_left
          · intro w'
            go_simp
            with_reducible rfl
          rotate_left
          · simp only [Act.put, List.setIfInBounds_toArray, List.set_cons_zero, List.set_cons_succ, i64_w, i32_w]
            rfl
          refine take_ (i := 3) (N := some 102) (v := ?_) (a' := ?_) #[false, true, true, true, false, false, false, false] rfl rfl (by kernel_rfl) (fun _ _ _ h => h) (Or.inl ⟨by rfl, ?_⟩) hHeld ?_ ?_
          rotate_left
          · intro w' s0
            go_simp
            with_reducible rfl
          rotate_left
          · simp only [Act.put, List.setIfInBounds_toArray, List.set_cons_zero, List.set_cons_succ, i64_w, i32_w]
            rfl
          refine pure_ (i := 4) (N := some 103) (v := ?_) (a' := ?_) #[false, true, true, true, true, false, false, false] rfl rfl (by kernel_rfl) (fun _ _ _ h => h) (Or.inl ⟨by rfl, ?_⟩) ?_ ?_
          rotate_left
          · intro w'
            go_simp
            with_reducible rfl
          rotate_left
          · simp only [Act.put, List.setIfInBounds_toArray, List.set_cons_zero, List.set_cons_succ, i64_w, i32_w]
            rfl
          refine join_ (σ := Value) 1 #[true, true, true, true, true, true, true, false] (fun s => [(99, .agg #[.string nm0, .slice none 0 0, .string ⟨#[]⟩, .slice none 0 0, .string ⟨#[]⟩]), (104, s)]) (fun s w' => Q2 w w' g gr #[.string nm2, .slice A1 n1 cu1, .string mk1, .slice B1 m1 d1, .string tx1] #[.string nm0, .slice none 0 0, .string ⟨#[]⟩, .slice none 0 0, .string ⟨#[]⟩] ∧ Kd.R k37 37 w' w.heap.size (fun k => k ≠ g ∧ k ≠ gr) s [escA c mk1]) ?_ ?_
          rotate_left
          · intro hCont
            refine two_ (i := 0) (j := 5) (Ni := some 99) (Nj := some 104) #[true, true, true, true, true, false, false, false] #[false, true, true, true, true, true, false, false] rfl rfl rfl rfl (by kernel_rfl) (by decide) (by decide) (fun K hK => ?_) (fun K hK => ?_)
            · skip
              refine goes_ Tryd.func15 (by kernel_rfl) rfl #[] (by rfl) rfl rfl (by simp only [List.map_toArray, List.map_nil]) ?_
              with_reducible refine ((new_c _)).mono ?_
              rintro e wa ⟨rfl, hb⟩
              refine ⟨_, rfl, ?_⟩
              have HVa := Aside0.mk (HVd.out.on hb)
              clear hb
              refine hK.out _ _ (((blk_cell HVa.out.1 2).trans rfl)) (fun hHeld => ?_)
              clear hK K
              refine norm_ (a' := ?_) ?_ ?_
              rotate_left
              · show Act.put _ (some 99) _ = _
                simp only [Act.put, List.setIfInBounds_toArray, List.set_cons_zero, List.set_cons_succ, i64_w, i32_w]
                rfl
              refine two_ (i := 5) (j := 6) (Ni := some 104) (Nj := none) #[true, true, true, true, true, true, false, false] #[true, true, true, true, true, false, true, false] rfl rfl rfl rfl (by kernel_rfl) (by decide) (by decide) (fun K hK => ?_) (fun K hK => ?_)
              · skip
                refine Kd.R_lit_step k37 (w0 := w) w.heap.size 37 (by rfl) rfl (xs := [escA c mk1]) (inner := [.int .i64 2, .int .i32 0, .int .u8 c, .string mk1, .slice none 0 0, .string ⟨#[]⟩]) (ok := fun k => k ≠ g ∧ k ≠ gr) (okp := fun _ => False) ?lr ?lp (fun _ h => h.elim) ?lf HVa.out.2.2.2.2.2 HVa.out.2.2.2.2.2.size (by simp) ?_; (case lr => first | (go_simp; done) | (go_simp; rfl)); (case lp => exact reps_one rfl (k37_mkM _ _ _ (escA c mk1) (Kd.R_nil _ _ _ _ _))); (case lf => exact ⟨Ne.symm (Nat.ne_of_lt (blk_lt HVa.out.1)), Ne.symm (Nat.ne_of_lt (blk_lt HVa.out.2.1))⟩)
                intro vl wl ho hb hg hw
                have HVl := Aside0.mk (HVa.out.grow hg hb)
                have HRl := Aside0.mk ho
                clear ho hb hg hw
                refine hK.out _ _ (((blk_cell HVl.out.1 2).trans rfl)) (fun hHeld => ?_)
                clear hK K
                refine norm_ (a' := ?_) ?_ ?_
                rotate_left
                · show Act.put _ (some 104) _ = _
                  simp only [Act.put, List.setIfInBounds_toArray, List.set_cons_zero, List.set_cons_succ, i64_w, i32_w]
                  rfl
                refine one_ (i := 6) (N := none) #[true, true, true, true, true, true, true, false] rfl rfl (by kernel_rfl) (by decide) (fun K hK => ?_)
                obtain ⟨z0, z1, z2, z3, z4⟩ := HVl.out.zero
                obtain ⟨y0, y1, y2, y3, y4⟩ := HVl.out.thaw
                refine skip_ (w1 := ?_) (by rfl) rfl ?_ ?_
                rotate_left
                · go_simp
                  rfl
                have HVs := Aside0.mk (HVl.out.ret (.string nm0) (.slice none 0 0) (.string ⟨#[]⟩) (.slice none 0 0) (.string ⟨#[]⟩))
                refine hK.out _ _ (((blk_cell HVs.out.1 2).trans rfl)) (fun hHeld => ?_)
                clear hK K
                exact norm_ (by simp only [putAll, Act.put, List.setIfInBounds_toArray, List.set_cons_zero, List.set_cons_succ]) (hCont vl _ ⟨HVs.out, Kd.R_keep HRl.out (keep5 _ _ _ _ _ _ _) (fun k h => h.2)⟩)
              · skip
                obtain ⟨z0, z1, z2, z3, z4⟩ := HVa.out.zero
                obtain ⟨y0, y1, y2, y3, y4⟩ := HVa.out.thaw
                refine skip_ (w1 := ?_) (by rfl) rfl ?_ ?_
                rotate_left
                · go_simp
                  rfl
                have HVs := Aside0.mk (HVa.out.ret (.string nm0) (.slice none 0 0) (.string ⟨#[]⟩) (.slice none 0 0) (.string ⟨#[]⟩))
                refine hK.out _ _ (((blk_cell HVs.out.1 2).trans rfl)) (fun hHeld => ?_)
                clear hK K
                refine one_ (i := 5) (N := some 104) #[true, true, true, true, true, true, true, false] rfl rfl (by kernel_rfl) (by decide) (fun K hK => ?_)
                refine Kd.R_lit_step k37 (w0 := w) w.heap.size 37 (by rfl) rfl (xs := [escA c mk1]) (inner := [.int .i64 2, .int .i32 0, .int .u8 c, .string mk1, .slice none 0 0, .string ⟨#[]⟩]) (ok := fun k => k ≠ g ∧ k ≠ gr) (okp := fun _ => False) ?lr ?lp (fun _ h => h.elim) ?lf HVs.out.2.2.2.2.2 HVs.out.2.2.2.2.2.size (by simp) ?_; (case lr => first | (go_simp; done) | (go_simp; rfl)); (case lp => exact reps_one rfl (k37_mkM _ _ _ (escA c mk1) (Kd.R_nil _ _ _ _ _))); (case lf => exact ⟨Ne.symm (Nat.ne_of_lt (blk_lt HVs.out.1)), Ne.symm (Nat.ne_of_lt (blk_lt HVs.out.2.1))⟩)
                intro vl wl ho hb hg hw
                have HVl := Aside0.mk (HVs.out.grow hg hb)
                have HRl := Aside0.mk ho
                clear ho hb hg hw
                refine hK.out _ _ (((blk_cell HVl.out.1 2).trans rfl)) (fun hHeld => ?_)
                clear hK K
                refine norm_ (a' := ?_) ?_ ?_
                rotate_left
                · show Act.put _ (some 104) _ = _
                  simp only [Act.put, List.setIfInBounds_toArray, List.set_cons_zero, List.set_cons_succ, i64_w, i32_w]
                  rfl
                exact norm_ (by simp only [putAll, Act.put, List.setIfInBounds_toArray, List.set_cons_zero, List.set_cons_succ]) (hCont vl _ ⟨HVl.out, HRl.out⟩)
            · skip
              refine Kd.R_lit_step k37 (w0 := w) w.heap.size 37 (by rfl) rfl (xs := [escA c mk1]) (inner := [.int .i64 2, .int .i32 0, .int .u8 c, .string mk1, .slice none 0 0, .string ⟨#[]⟩]) (ok := fun k => k ≠ g ∧ k ≠ gr) (okp := fun _ => False) ?lr ?lp (fun _ h => h.elim) ?lf HVd.out.2.2.2.2.2 HVd.out.2.2.2.2.2.size (by simp) ?_; (case lr => first | (go_simp; done) | (go_simp; rfl)); (case lp => exact reps_one rfl (k37_mkM _ _ _ (escA c mk1) (Kd.R_nil _ _ _ _ _))); (case lf => exact ⟨Ne.symm (Nat.ne_of_lt (blk_lt HVd.out.1)), Ne.symm (Nat.ne_of_lt (blk_lt HVd.out.2.1))⟩)
              intro vl wl ho hb hg hw
              have HVl := Aside0.mk (HVd.out.grow hg hb)
              have HRl := Aside0.mk ho
              clear ho hb hg hw
              refine hK.out _ _ (((blk_cell HVl.out.1 2).trans rfl)) (fun hHeld => ?_)
              clear hK K
              refine norm_ (a' := ?_) ?_ ?_
              rotate_left
              · show Act.put _ (some 104) _ = _
                simp only [Act.put, List.setIfInBounds_toArray, List.set_cons_zero, List.set_cons_succ, i64_w, i32_w]
                rfl
              refine one_ (i := 0) (N := some 99) #[true, true, true, true, true, true, false, false] rfl rfl (by kernel_rfl) (by decide) (fun K hK => ?_)
              refine goes_ Tryd.func15 (by kernel_rfl) rfl #[] (by rfl) rfl rfl (by simp only [List.map_toArray, List.map_nil]) ?_
              with_reducible refine ((new_c _)).mono ?_
              rintro e wa ⟨rfl, hb⟩
              refine ⟨_, rfl, ?_⟩
              have HVa := Aside0.mk (HVl.out.on hb)
              have HRa := Aside0.mk (Kd.R_below HRl.out hb)
              clear hb
              refine hK.out _ _ (((blk_cell HVa.out.1 2).trans rfl)) (fun hHeld => ?_)
              clear hK K
              refine norm_ (a' := ?_) ?_ ?_
              rotate_left
              · show Act.put _ (some 99) _ = _
                simp only [Act.put, List.setIfInBounds_toArray, List.set_cons_zero, List.set_cons_succ, i64_w, i32_w]
                rfl
              refine one_ (i := 6) (N := none) #[true, true, true, true, true, true, true, false] rfl rfl (by kernel_rfl) (by decide) (fun K hK => ?_)
              obtain ⟨z0, z1, z2, z3, z4⟩ := HVa.out.zero
              obtain ⟨y0, y1, y2, y3, y4⟩ := HVa.out.thaw
              refine skip_ (w1 := ?_) (by rfl) rfl ?_ ?_
              rotate_left
              · go_simp
                rfl
              have HVs := Aside0.mk (HVa.out.ret (.string nm0) (.slice none 0 0) (.string ⟨#[]⟩) (.slice none 0 0) (.string ⟨#[]⟩))
              refine hK.out _ _ (((blk_cell HVs.out.1 2).trans rfl)) (fun hHeld => ?_)
              clear hK K
              exact norm_ (by simp only [putAll, Act.put, List.setIfInBounds_toArray, List.set_cons_zero, List.set_cons_succ]) (hCont vl _ ⟨HVs.out, Kd.R_keep HRa.out (keep5 _ _ _ _ _ _ _) (fun k h => h.2)⟩)
          rintro vs ws ⟨hvs, hrs⟩
          have HVz := Aside0.mk hvs
          have HRz := Aside0.mk hrs
          have hHeld : ws.cell? ⟨g, 2, none⟩ = some (.string mk1) := ((blk_cell HVz.out.1 2).trans rfl)
          clear hvs hrs
          refine norm_ (a' := ?_) ?_ ?_
          rotate_left
          · simp only [putAll, Act.put, List.setIfInBounds_toArray, List.set_cons_zero, List.set_cons_succ]
            rfl
          refine pure_ (i := 7) (N := some 5) (v := ?_) (a' := ?_) #[true, true, true, true, true, true, true, true] rfl rfl (by kernel_rfl) (fun _ _ _ h => h) (Or.inl ⟨by rfl, ?_⟩) ?_ ?_
          rotate_left
          · intro w'
            go_simp
            with_reducible rfl
          rotate_left
          · simp only [Act.put, List.setIfInBounds_toArray, List.set_cons_zero, List.set_cons_succ, i64_w, i32_w]
            rfl
          refine done_ (by kernel_rfl) ?_
          go_wp2
          refine bodyPost_ret (results_ct Tryd.results16 _ _ gr 44 #[.string nm0, .slice none 0 0, .string ⟨#[]⟩, .slice none 0 0, .string ⟨#[]⟩] (0, 0) _ rfl HVz.out.2.1 hup rfl (by kernel_rfl)) rfl ⟨vs, none, 0, 0, none, 0, 0, by rw [HEP.out]; rfl, by rw [HEP.out]; exact Kd.C_nil _ _, by rw [HEP.out]; exact ⟨Kd.C_nil _ _, Nat.le_refl _⟩, by rw [HEP.out]; exact CA.of_R HRz.out, HVz.out.2.2.2.2.2, (fun _ h => nomatch h), (fun _ h => nomatch h)⟩
      · have HNK := Aside0.mk (show nk = nm3 from HNK0.out)
        obtain rfl := HNK.out
        clear HNK
        have hn := nm3_l
        have p0 : wc.cell? ⟨g, 0, none⟩ = some (.string nm3) := (blk_cell HV1.out.1 0).trans rfl
        have HX := Aside0.mk (show R = csiP ⟨3, u1, mk1, ps1, tx1, wi1⟩ c from by rw [H2.out]; rfl)
        have p1 : wc.cell? ⟨g, 1, none⟩ = some (.slice A1 n1 cu1) := (blk_cell HV1.out.1 1).trans rfl
        have p2 : wc.cell? ⟨g, 2, none⟩ = some (.string mk1) := (blk_cell HV1.out.1 2).trans rfl
        have p3 : wc.cell? ⟨g, 3, none⟩ = some (.slice B1 m1 d1) := (blk_cell HV1.out.1 3).trans rfl
        have p4 : wc.cell? ⟨g, 4, none⟩ = some (.string tx1) := (blk_cell HV1.out.1 4).trans rfl
        clear hCV
        obtain ⟨z0, z1, z2, z3, z4⟩ := HV1.out.zero
        go_wp2_with fail
        refine (csi_3 u1 ps1 mk1 tx1 wi1 A1 n1 cu1 B1 m1 d1 c wc HCB.out (HC1.out _ trivial HV1.out.2.2.2.2.2) (HC2.out _ trivial HV1.out.2.2.2.2.2) HMD1.out H81.out HB91.out HM21.out).mono ?_
        rintro e w5 hq
        obtain ⟨u5, A5, n5, c5, B5, m5, d5, X0, X2, X4, rfl, hv5, hret⟩ := through HV1.out HA1.out HB1.out hq
        have HV5 := Aside0.mk hv5
        have HRET := Aside0.mk hret
        clear hq hv5 hret p0 p1 p2 p3 p4 z0 z1 z2 z3 z4
        obtain ⟨z0, z1, z2, z3, z4⟩ := HV5.out.zero
        obtain ⟨y0, y1, y2, y3, y4⟩ := HV5.out.thaw
        go_wp2
        have hf := HV5.out.ret (.string X0) (.slice A5 n5 c5) (.string X2) (.slice B5 m5 d5) (.string X4)
        refine bodyPost_ret (results_ct Tryd.results16 _ _ gr 44 #[.string X0, .slice A5 n5 c5, .string X2, .slice B5 m5 d5, .string X4] (0, 0) _ rfl hf.2.1 hup rfl (by kernel_rfl)) rfl ?_
        rw [HX.out]
        exact HRET.out _ (keep5 _ _ _ _ _ _ _) hf.2.2.2.2.2
      · have HNK := Aside0.mk (show nk = nm4 from HNK0.out)
        obtain rfl := HNK.out
        clear HNK
        have hn := nm4_l
        have p0 : wc.cell? ⟨g, 0, none⟩ = some (.string nm4) := (blk_cell HV1.out.1 0).trans rfl
        have HX := Aside0.mk (show R = csiP ⟨4, u1, mk1, ps1, tx1, wi1⟩ c from by rw [H2.out]; rfl)
        have p1 : wc.cell? ⟨g, 1, none⟩ = some (.slice A1 n1 cu1) := (blk_cell HV1.out.1 1).trans rfl
        have p2 : wc.cell? ⟨g, 2, none⟩ = some (.string mk1) := (blk_cell HV1.out.1 2).trans rfl
        have p3 : wc.cell? ⟨g, 3, none⟩ = some (.slice B1 m1 d1) := (blk_cell HV1.out.1 3).trans rfl
        have p4 : wc.cell? ⟨g, 4, none⟩ = some (.string tx1) := (blk_cell HV1.out.1 4).trans rfl
        clear hCV
        obtain ⟨z0, z1, z2, z3, z4⟩ := HV1.out.zero
        go_wp2_with fail
        refine (csi_4 u1 ps1 mk1 tx1 wi1 A1 n1 cu1 B1 m1 d1 c wc HCB.out (HC1.out _ trivial HV1.out.2.2.2.2.2) (HC2.out _ trivial HV1.out.2.2.2.2.2) HMD1.out H81.out HB91.out HM21.out).mono ?_
        rintro e w5 hq
        obtain ⟨u5, A5, n5, c5, B5, m5, d5, X0, X2, X4, rfl, hv5, hret⟩ := through HV1.out HA1.out HB1.out hq
        have HV5 := Aside0.mk hv5
        have HRET := Aside0.mk hret
        clear hq hv5 hret p0 p1 p2 p3 p4 z0 z1 z2 z3 z4
        obtain ⟨z0, z1, z2, z3, z4⟩ := HV5.out.zero
        obtain ⟨y0, y1, y2, y3, y4⟩ := HV5.out.thaw
        go_wp2
        have hf := HV5.out.ret (.string X0) (.slice A5 n5 c5) (.string X2) (.slice B5 m5 d5) (.string X4)
        refine bodyPost_ret (results_ct Tryd.results16 _ _ gr 44 #[.string X0, .slice A5 n5 c5, .string X2, .slice B5 m5 d5, .string X4] (0, 0) _ rfl hf.2.1 hup rfl (by kernel_rfl)) rfl ?_
        rw [HX.out]
        exact HRET.out _ (keep5 _ _ _ _ _ _ _) hf.2.2.2.2.2
end Go.Proofs.YtkdkajcokoggiaaDoor.VtRefM
/- The law VtFeeds returns true: a walk through its text; the library's two tables hold what their texts lay. -/
namespace Go.Proofs.YtkdkajcokoggiaaDoor.VtFeeds
open Go.RowKit Go.Proofs.YtkdkajcokoggiaaDoor.Kit Go.Proofs.YtkdkajcokoggiaaDoor.Plain Go.Proofs.YtkdkajcokoggiaaDoor.Mine Go.Proofs.YtkdkajcokoggiaaDoor.UtfPure Go.Proofs.YtkdkajcokoggiaaDoor.UtfFull Go.Proofs.YtkdkajcokoggiaaDoor.UtfFeed Go.Proofs.YtkdkajcokoggiaaDoor.UtfRunes Go.Proofs.YtkdkajcokoggiaaDoor.UtfPart Go.Proofs.YtkdkajcokoggiaaDoor.VtPure Go.Proofs.YtkdkajcokoggiaaDoor.VtSmall Go.Proofs.YtkdkajcokoggiaaDoor.VtInv Go.Proofs.YtkdkajcokoggiaaDoor.VtFeedAll Go.Proofs.YtkdkajcokoggiaaDoor.VtAll Go.Proofs.YtkdkajcokoggiaaDoor.VtSame Go.Proofs.YtkdkajcokoggiaaDoor.VtFit Go.Proofs.YtkdkajcokoggiaaDoor.VtRightC Go.Proofs.YtkdkajcokoggiaaDoor.VtRefK Go.Proofs.YtkdkajcokoggiaaDoor.VtRefF Go.Proofs.YtkdkajcokoggiaaDoor.VtRefM Go.Proofs.YtkdkajcokoggiaaDoorW.PrintWords Go.Proofs.YtkdkajcokoggiaaDoorW.PrintLast Go.Proofs.YtkdkajcokoggiaaDoorW.PrintMore
open Go.Lib (Utf8Tabs)
open Go.Proofs.YtkdkajcokoggiaaDoor.PVtParts (S37 k37 k37_open k37_openM k37_mk k37_mkM)
set_option linter.unusedVariables false
set_option linter.unusedSimpArgs false
theorem refeed_c (v : PR) (h : PForm v) (A : Option Addr) (n cu : Nat) (B : Option Addr) (m d : Nat) (c : Int) (w : World) (hc : 0 ≤ c ∧ c < 256) (hu : Kd.C (Kd.int .u8) w A n v.u) (hps : Kd.C (Kd.int .i64) w B m v.ps) (hmd : m ≤ d) :
    Calls Tryd.prog 16 #[.agg #[.string (nm v.st v.wi), .slice A n cu, .string v.mr, .slice B m d, .string v.tx], .int .u8 c] w (QT w A n B m (feedP v c)) := by
  have hst : v.st = 0 ∨ v.st = 1 ∨ v.st = 2 ∨ v.st = 3 ∨ v.st = 4 ∨ v.st = 5 ∨ v.st = 6 ∨ v.st = 7 := by have h1 := h.st0; have h2 := h.st7; omega
  have hp := h.u
  have h8 := h.ps8
  have hb := h.psb
  have hm2 := h.mr2
  have hwi := h.wi7
  clear h
  obtain ⟨st, u, mr, ps, tx, wi⟩ := v
  dsimp only at *
  rcases hst with rfl | rfl | rfl | rfl | rfl | rfl | rfl | rfl
  · exact feed_0 u ps mr tx wi A n cu B m d c w hc hu hp hps hmd
  · exact feed_mid 1 wi u ps mr tx A n cu B m d c w _ rfl (by omega) hc hu hps hmd h8 hb hm2
  · exact feed_mid 2 wi u ps mr tx A n cu B m d c w _ rfl (by omega) hc hu hps hmd h8 hb hm2
  · exact feed_mid 3 wi u ps mr tx A n cu B m d c w _ rfl (by omega) hc hu hps hmd h8 hb hm2
  · exact feed_mid 4 wi u ps mr tx A n cu B m d c w _ rfl (by omega) hc hu hps hmd h8 hb hm2
  · exact feed_5 u ps mr tx wi A n cu B m d c w hc hu hps hmd
  · exact feed_6 u ps mr tx wi A n cu B m d c w hc hu hps hmd
  · have hwi := hwi rfl
    by_cases h92 : c = 92
    · subst h92
      rcases hwi with rfl | rfl
      · exact feed_75 mr tx A n cu B m d w
      · exact feed_76 mr tx A n cu B m d w
    · exact feed_mid 7 wi u ps mr tx A n cu B m d c w _ (by show (if c = 92 then _ else _) = _; rw [if_neg h92, if_pos rfl]) (by omega) hc hu hps hmd h8 hb hm2
theorem QT.told {w w' : World} {A0 B0 : Option Addr} {n0 m0 : Nat} {r : PR × List S37} {e : Ending} (h : QT w A0 n0 B0 m0 r e w') : ∃ (A : Option Addr) (n c : Nat) (B : Option Addr) (m d : Nat) (AA : Option Addr) (ca : Nat), e = .returned (.tuple #[.agg #[.string (nm r.1.st r.1.wi), .slice A n c, .string r.1.mr, .slice B m d, .string r.1.tx], .slice AA r.2.length ca]) ∧ Kd.C (Kd.int .u8) w' A n r.1.u ∧ (Kd.C (Kd.int .i64) w' B m r.1.ps ∧ m ≤ d) ∧ Kd.C k37 w' AA r.2.length r.2 ∧ Below w.heap.size w w' ∧ (∀ ad, A = some ad → (A = A0 ∧ n = n0) ∨ w.heap.size ≤ ad.block) ∧ (∀ ad, B = some ad → (B = B0 ∧ m = m0) ∨ w.heap.size ≤ ad.block) := by
  obtain ⟨u, A, n, c, B, m, d, rfl, h1, h2, ⟨AA, ca, rfl, h3⟩, h4, h5, h6⟩ := h
  exact ⟨A, n, c, B, m, d, AA, ca, rfl, h1, h2, h3, h4, h5, h6⟩
/-- A block that holds a parser of the reference, away from another block. -/
def HeldQ (W : World) (g g3 : Nat) (v : PR) (A : Option Addr) (n cu : Nat) (B : Option Addr) (m d : Nat) : Prop := W.heap[g]? = some (.cells #[.string (nm v.st v.wi), .slice A n cu, .string v.mr, .slice B m d, .string v.tx] 44 (0, 0)) ∧ Kd.C (Kd.int .u8) W A n v.u ∧ Kd.C (Kd.int .i64) W B m v.ps ∧ m ≤ d ∧ (∀ ad, A = some ad → ad.block ≠ g3) ∧ (∀ ad, B = some ad → ad.block ≠ g3)
theorem HeldQ.on {W W' : World} {g g3 : Nat} {v : PR} {A : Option Addr} {n cu : Nat} {B : Option Addr} {m d : Nat} (h : HeldQ W g g3 v A n cu B m d) (hb : Below W.heap.size W W') : HeldQ W' g g3 v A n cu B m d := ⟨blk_below h.1 hb, Kd.C_below h.2.1 hb, Kd.C_below h.2.2.1 hb, h.2.2.2⟩
theorem HeldQ.drew {W : World} {g g3 : Nat} {v : PR} {A : Option Addr} {n cu : Nat} {B : Option Addr} {m d : Nat} (h : HeldQ W g g3 v A n cu B m d) : HeldQ W.drew g g3 v A n cu B m d := h.on (below_drew (Below.refl _ _))
theorem C_far {kd : IntKind} {w W : World} {A : Option Addr} {n : Nat} {xs : List Int} {g : Nat} (h : Kd.C (Kd.int kd) w A n xs) (ho : ∀ ad, A = some ad → ad.block ≠ g) (hk : KeepBut w W g none) : Kd.C (Kd.int kd) W A n xs := by
  refine ⟨h.1, h.2.1, fun hn => ?_⟩
  obtain ⟨ad, e, hc⟩ := h.2.2 hn
  refine ⟨ad, e, fun j p hp => ?_⟩
  obtain ⟨cs, h1, h2, h3⟩ := hc j p hp
  refine ⟨cs, h1, h2, fun i u hu => ?_⟩
  have hbk : ∀ k, (ad.add k).block = ad.block := fun k => by unfold Addr.add; split <;> rfl
  have h4 := h3 i u hu
  exact (World.cell?_of_block (w := w) (by
    refine hk.2 _ (World.block_lt_of_cell? w _ h4) ?_ (by simp)
    rw [hbk]
    exact ho ad e)).trans h4
theorem HeldQ.keep {W W' : World} {g g3 : Nat} {v : PR} {A : Option Addr} {n cu : Nat} {B : Option Addr} {m d : Nat} (h : HeldQ W g g3 v A n cu B m d) (hk : KeepBut W W' g3 none) (hne : g ≠ g3) : HeldQ W' g g3 v A n cu B m d := ⟨(hk.2 g (blk_lt h.1) hne (by simp)).trans h.1, C_far h.2.1 h.2.2.2.2.1 hk, C_far h.2.2.1 h.2.2.2.2.2 hk, h.2.2.2⟩
theorem HeldQ.set5 {W W5 : World} {g g3 : Nat} {v r : PR} {A A5 B B5 : Option Addr} {n cu n5 cu5 m d m5 d5 : Nat} (h : HeldQ W g g3 v A n cu B m d) (hb : Below W.heap.size W W5) (h3 : g3 < W.heap.size) (hu : Kd.C (Kd.int .u8) W5 A5 n5 r.u) (hp : Kd.C (Kd.int .i64) W5 B5 m5 r.ps ∧ m5 ≤ d5) (hA : ∀ ad, A5 = some ad → (A5 = A ∧ n5 = n) ∨ W.heap.size ≤ ad.block) (hB : ∀ ad, B5 = some ad → (B5 = B ∧ m5 = m) ∨ W.heap.size ≤ ad.block) :
    HeldQ (((((W5.setCell ⟨g, 0, none⟩ (.string (nm r.st r.wi))).setCell ⟨g, 1, none⟩ (.slice A5 n5 cu5)).setCell ⟨g, 2, none⟩ (.string r.mr)).setCell ⟨g, 3, none⟩ (.slice B5 m5 d5)).setCell ⟨g, 4, none⟩ (.string r.tx)) g g3 r A5 n5 cu5 B5 m5 d5 := by
  have h0 := (h.on hb).1
  have hk := keep5 W5 g (.string (nm r.st r.wi)) (.slice A5 n5 cu5) (.string r.mr) (.slice B5 m5 d5) (.string r.tx)
  refine ⟨?_, C_keep hu h0 (noint5 _ _ _ _ _ _ _ _ _) hk, C_keep hp.1 h0 (noint5 _ _ _ _ _ _ _ _ _) hk, hp.2, fun ad e => ?_, fun ad e => ?_⟩
  · exact blk_put (blk_put (blk_put (blk_put (blk_put h0 0 _ rfl) 1 _ rfl) 2 _ rfl) 3 _ rfl) 4 _ rfl
  · rcases hA ad e with ⟨x, _⟩ | x
    · exact h.2.2.2.2.1 ad (by rw [← x]; exact e)
    · omega
  · rcases hB ad e with ⟨x, _⟩ | x
    · exact h.2.2.2.2.2 ad (by rw [← x]; exact e)
    · omega
theorem HeldQ.cells {W : World} {g g3 : Nat} {v : PR} {A : Option Addr} {n cu : Nat} {B : Option Addr} {m d : Nat} (h : HeldQ W g g3 v A n cu B m d) :
    W.cell? ⟨g, 0, none⟩ = some (.string (nm v.st v.wi)) ∧ W.cell? ⟨g, 1, none⟩ = some (.slice A n cu) ∧ W.cell? ⟨g, 2, none⟩ = some (.string v.mr) ∧ W.cell? ⟨g, 3, none⟩ = some (.slice B m d) ∧ W.cell? ⟨g, 4, none⟩ = some (.string v.tx) :=
  ⟨(blk_cell h.1 0).trans rfl, (blk_cell h.1 1).trans rfl, (blk_cell h.1 2).trans rfl, (blk_cell h.1 3).trans rfl, (blk_cell h.1 4).trans rfl⟩
theorem HeldQ.thaw {W : World} {g g3 : Nat} {v : PR} {A : Option Addr} {n cu : Nat} {B : Option Addr} {m d : Nat} (h : HeldQ W g g3 v A n cu B m d) :
    W.frozen? ⟨g, 0, none⟩ = false ∧ W.frozen? ⟨g, 1, none⟩ = false ∧ W.frozen? ⟨g, 2, none⟩ = false ∧ W.frozen? ⟨g, 3, none⟩ = false ∧ W.frozen? ⟨g, 4, none⟩ = false :=
  ⟨blk_frozen h.1 0, blk_frozen h.1 1, blk_frozen h.1 2, blk_frozen h.1 3, blk_frozen h.1 4⟩
theorem below5 {B : Nat} {w W5 : World} {g : Nat} (h : Below B w W5) (hB : B ≤ g) (v0 v1 v2 v3 v4 : Value) : Below B w (((((W5.setCell ⟨g, 0, none⟩ v0).setCell ⟨g, 1, none⟩ v1).setCell ⟨g, 2, none⟩ v2).setCell ⟨g, 3, none⟩ v3).setCell ⟨g, 4, none⟩ v4) :=
  ((((h.setCell (p := ⟨g, 0, none⟩) hB v0).setCell (p := ⟨g, 1, none⟩) hB v1).setCell (p := ⟨g, 2, none⟩) hB v2).setCell (p := ⟨g, 3, none⟩) hB v3).setCell (p := ⟨g, 4, none⟩) hB v4
/-- A parser's block holds on while the reference's is written. -/
theorem held_keep {W W' : World} {g gq : Nat} {v : PR} {A : Option Addr} {n cp : Nat} {X : Array Value} {T : TypeId} {f : Nat × Nat} (h : Held W g v A n cp) (hg : W.heap[gq]? = some (.cells X T f)) (hX : NoInt X) (hk : KeepBut W W' gq none) (hne : g ≠ gq) : Held W' g v A n cp :=
  ⟨(hk.2 g (blk_lt h.1) hne (by simp)).trans h.1, C_keep h.2.1 hg hX hk, h.2.2⟩
theorem acts_keep {w W : World} {A : Option Addr} {l : List S37} {gr : Nat} {X : Array Value} {T : TypeId} {f : Nat × Nat} (h : Kd.C k37 w A l.length l) (hg : w.heap[gr]? = some (.cells X T f)) (hX : NoInt X) (hk : KeepBut w W gr none) : Kd.C k37 W A l.length l := by
  obtain ⟨A2, c2, e, h2⟩ := CA.keep (w := w) (W := W) (u := .slice A l.length 0) (l := l) ⟨A, 0, rfl, h⟩ hg hX hk
  cases e
  exact h2
set_option maxHeartbeats 800000 in
set_option maxRecDepth 100000 in
theorem feeds_big (s : ByteArray) (w : World) (hT : Utf8Tabs 0 1 w) (h : 1000 < s.size) : Calls Tryd.prog 7 #[.string s] w fun e w' => e = .returned (.bool true) ∧ Below w.heap.size w w' := by
  have HF := Aside0.mk (fit_c w hT)
  have h2 : 1000 < (s.size : Int) := by omega
  clear h hT
  go_enter Tryd.func7, Tryd.ntmps7
  go_wp2_with fail
  refine HF.out.mono ?_
  rintro e w1 ⟨rfl, hb⟩
  have HB := Aside0.mk hb
  clear hb HF
  go_wp2
  go_ret
  exact ⟨rfl, HB.out⟩
set_option maxHeartbeats 6400000 in
set_option maxRecDepth 100000 in
theorem feeds_small (s : ByteArray) (w : World) (hT : Utf8Tabs 0 1 w) (hs : s.size ≤ 1000) : Calls Tryd.prog 7 #[.string s] w fun e w' => e = .returned (.bool true) ∧ Below w.heap.size w w' := by
  have hup := Tryd.underlying28
  have huq := Tryd.underlying44
  have hua := Tryd.underlying37
  have HF := Aside0.mk (fit_c w hT)
  have hsz : (s.size : Int) ≤ 1000 := by omega
  have HT := Aside0.mk hT
  clear hT hs
  go_enter Tryd.func7, Tryd.ntmps7
  go_wp2_with fail
  refine HF.out.mono ?_
  rintro e w1 ⟨rfl, hb⟩
  have HB1 := Aside0.mk hb
  clear hb HF
  go_upto_region 5 with fail
  go_cut [3] (fun v3 W => ∃ g : Nat, v3 = .pointer (some ⟨g, 0, none⟩) ∧ Aside0 (Held W g (atP 0) none 0 0) ∧ Aside0 (w.heap.size ≤ g) ∧ Aside0 (Below w.heap.size w W))
  case first =>
    go_wp2_with fail
    go_meet
    case rel => exact ⟨_, rfl, ⟨Held.new (v := atP 0) (A := none) (n := 0) (cp := 0) (Kd.C_nil _ _)⟩, ⟨HB1.out.size⟩, ⟨below_alloc HB1.out _⟩⟩
  case rest =>
    obtain ⟨g3, rfl, HH0, HG3, HB0⟩ := hcut
    go_upto_region 6 with fail
    go_cut [4] (fun v4 W => ∃ g : Nat, v4 = .pointer (some ⟨g, 0, none⟩) ∧ Aside0 (HeldQ W g g3 (atP 0) none 0 0 none 0 0) ∧ Aside0 (w.heap.size ≤ g ∧ g ≠ g3) ∧ Aside0 (Held W g3 (atP 0) none 0 0) ∧ Aside0 (Below w.heap.size w W))
    case first =>
      go_wp2_with fail
      refine (new_c wc).mono ?_
      rintro e w5 ⟨rfl, hb5⟩
      have HB5 := Aside0.mk (below_kept HB0.out hb5)
      have HH5 := Aside0.mk (HH0.out.on hb5)
      have HG := Aside0.mk (show w5.heap.size ≠ g3 from by have := blk_lt HH5.out.1; omega)
      clear hb5
      go_wp2_with fail
      go_meet
      case rel => exact ⟨_, rfl, ⟨⟨blk_new _ _, Kd.C_nil _ _, Kd.C_nil _ _, Nat.le_refl _, (fun _ h => nomatch h), (fun _ h => nomatch h)⟩⟩, ⟨⟨HB5.out.size, HG.out⟩⟩, ⟨HH5.out.on (below_alloc (Below.refl _ _) _)⟩, ⟨below_alloc HB5.out _⟩⟩
    case rest =>
      obtain ⟨g4, rfl, HQ0, HG4, HH1, HB2⟩ := hcut
      clear HH0 HB0 HB1
      go_wp2_with fail
      go_loopg [16] s.size (fun gk v16 W => ∃ (i : Nat) (v : PR) (A : Option Addr) (n cp : Nat) (Aq : Option Addr) (nq cuq : Nat) (Bq : Option Addr) (mq dq : Nat), v16 = .int .i64 (i : Int) ∧ Aside0 (gk + i = s.size) ∧ Aside0 (PForm v) ∧ Aside0 (Held W g3 v A n cp) ∧ Aside0 (HeldQ W g4 g3 v Aq nq cuq Bq mq dq) ∧ Aside0 (Below w.heap.size w W))
      case atStart => exact ⟨0, atP 0, none, 0, 0, none, 0, 0, none, 0, 0, rfl, ⟨by omega⟩, ⟨good_zero⟩, HH1, HQ0, HB2⟩
      case round =>
        obtain ⟨i, v, A, n, cp, Aq, nq, cuq, Bq, mq, dq, rfl, HGK, HFM, HH, HQ, HB⟩ := hrel
        have hgi := HGK.out
        clear HQ0 HH1 HB2
        by_cases hi : i < s.size
        · obtain ⟨g0, rfl⟩ : ∃ g0, gk = g0 + 1 := ⟨gk - 1, by omega⟩
          have hcb : (0 : Int) ≤ (s[i].toNat : Int) ∧ (s[i].toNat : Int) < 256 := ⟨by omega, by have := UInt8.toNat_lt s[i]; omega⟩
          obtain ⟨cI, hcI⟩ : ∃ cI, (s[i].toNat : Int) = cI := ⟨_, rfl⟩
          rw [hcI] at hcb
          have HGN := Aside0.mk (good_feed HFM.out hcb)
          have hfl := feed_len HFM.out cI
          have hcp := cap_feed HFM.out cI
          have HT3 := tabs_below HT.out (below_drew HB.out)
          have hfc := (show Calls Tryd.prog 14 #[.agg #[.int .i64 v.st, .int .u8 (v.u[0]?.getD 0), .int .u8 (v.u[1]?.getD 0), .int .u8 (v.u[2]?.getD 0), .int .i64 v.u.length, .string v.mr, .slice A n cp, .string v.tx, .int .i64 v.wi], .int .u8 cI] wr.drew (PT wr.drew A n (feedP v cI)) from feed_c v HFM.out A n cp cI wr.drew hcb HH.out.drew.2.1 HT3)
          have hfq := fun (W : World) (hq : HeldQ W g4 g3 v Aq nq cuq Bq mq dq) => refeed_c v HFM.out Aq nq cuq Bq mq dq cI W hcb hq.2.1 hq.2.2.1 hq.2.2.2.1
          obtain ⟨rr, hrr⟩ : ∃ rr, rr = feedP v cI := ⟨_, rfl⟩
          rw [← hrr] at hfc HGN hfl hcp hfq
          have HFC := Aside0.mk (hfc.mono (fun e w5 h => PT.told h))
          have HFQ := Aside0.mk (fun W hq => (hfq W hq).mono (fun e w5 h => QT.told h))
          have HFL := Aside0.mk hfl
          have HCP := Aside0.mk hcp
          have hil : (i : Int) < s.size := by omega
          obtain ⟨k0, k1, k2, k3, k4, k5, k6, k7, k8⟩ := HH.out.drew.cells
          clear hcb HT3 hfc hrr hfl hcp hgi hfq
          go_upto_region 11 with fail
          refine start_ (n := 10) (S := fun w' => w'.cell? ⟨g3, 0, none⟩ = some (.int .i64 v.st) ∧ w'.cell? ⟨g3, 1, none⟩ = some (.int .u8 (v.u[0]?.getD 0)) ∧ w'.cell? ⟨g3, 2, none⟩ = some (.int .u8 (v.u[1]?.getD 0)) ∧ w'.cell? ⟨g3, 3, none⟩ = some (.int .u8 (v.u[2]?.getD 0)) ∧ w'.cell? ⟨g3, 4, none⟩ = some (.int .i64 v.u.length) ∧ w'.cell? ⟨g3, 5, none⟩ = some (.string v.mr) ∧ w'.cell? ⟨g3, 6, none⟩ = some (.slice A n cp) ∧ w'.cell? ⟨g3, 7, none⟩ = some (.string v.tx) ∧ w'.cell? ⟨g3, 8, none⟩ = some (.int .i64 v.wi)) (ds := [8]) #[false, false, false, false, false, false, false, false, false, false] (by kernel_rfl) rfl rfl ⟨k0, k1, k2, k3, k4, k5, k6, k7, k8⟩ (fun hHeld => ?_)
          refine pure_ (i := 1) (N := some 21) (v := ?_) (a' := ?_) #[false, true, false, false, false, false, false, false, false, false] rfl rfl (by kernel_rfl) (fun _ _ _ h => h) (Or.inl ⟨by rfl, ?_⟩) ?_ ?_
          rotate_left
          · intro w'
            go_simp
            with_reducible rfl
          rotate_left
          · simp only [Act.put, List.setIfInBounds_toArray, List.set_cons_zero, List.set_cons_succ, i64_w, i32_w]
            rfl
          refine pure_ (i := 2) (N := some 22) (v := ?_) (a' := ?_) #[false, true, true, false, false, false, false, false, false, false] rfl rfl (by kernel_rfl) (fun _ _ _ h => h) (Or.inl ⟨by rfl, ?_⟩) ?_ ?_
          rotate_left
          · intro w'
            go_simp
            with_reducible rfl
          rotate_left
          · simp only [Act.put, List.setIfInBounds_toArray, List.set_cons_zero, List.set_cons_succ, i64_w, i32_w]
            rfl
          refine take_ (i := 0) (N := some 20) (v := ?_) (a' := ?_) #[true, true, true, false, false, false, false, false, false, false] rfl rfl (by kernel_rfl) (fun _ _ _ h => h) (Or.inl ⟨by rfl, ?_⟩) hHeld ?_ ?_
          rotate_left
          · rintro w' ⟨s0, s1, s2, s3, s4, s5, s6, s7, s8⟩
            go_simp
            with_reducible rfl
          rotate_left
          · simp only [Act.put, List.setIfInBounds_toArray, List.set_cons_zero, List.set_cons_succ, i64_w, i32_w]
            rfl
          refine take_ (i := 3) (N := some 23) (v := ?_) (a' := ?_) #[true, true, true, true, false, false, false, false, false, false] rfl rfl (by kernel_rfl) (fun _ _ _ h => h) (Or.inl ⟨by rfl, ?_⟩) hHeld ?_ ?_
          rotate_left
          · rintro w' ⟨s0, s1, s2, s3, s4, s5, s6, s7, s8⟩
            go_simp
            with_reducible rfl
          rotate_left
          · simp only [Act.put, List.setIfInBounds_toArray, List.set_cons_zero, List.set_cons_succ, i64_w, i32_w]
            rfl
          refine one_ (i := 4) (N := some 24) #[true, true, true, true, true, false, false, false, false, false] rfl rfl (by kernel_rfl) (by decide) (fun K hK => ?_)
          refine goes_ Tryd.func14 (by kernel_rfl) rfl #[.agg #[.int .i64 v.st, .int .u8 (v.u[0]?.getD 0), .int .u8 (v.u[1]?.getD 0), .int .u8 (v.u[2]?.getD 0), .int .i64 v.u.length, .string v.mr, .slice A n cp, .string v.tx, .int .i64 v.wi], .int .u8 cI] (by rfl) rfl rfl (by simp only [List.map_toArray, List.map_cons, List.map_nil]; rfl) ?_
          with_reducible refine (HFC.out).mono ?_
          rintro e w5 ⟨A5, n5, cp5, AA, ca, rfl, hx5, hy5, hz5, hcl5⟩
          refine ⟨_, rfl, ?_⟩
          have HX5 := Aside0.mk hx5
          have HY5 := Aside0.mk hy5
          have HZ5 := Aside0.mk hz5
          have HCL5 := Aside0.mk hcl5
          have HH5 := Aside0.mk (HH.out.drew.on hz5)
          clear hx5 hy5 hz5 hcl5
          obtain ⟨c0, c1, c2, c3, c4, c5, c6, c7, c8⟩ := HH5.out.cells
          obtain ⟨f0, f1, f2, f3, f4, f5, f6, f7, f8⟩ := HH5.out.thaw
          refine hK.out _ _ ⟨c0, c1, c2, c3, c4, c5, c6, c7, c8⟩ (fun hHeld => ?_)
          clear hK K
          refine norm_ (a' := ?_) ?_ ?_
          rotate_left
          · show Act.put _ (some 24) _ = _
            simp only [Act.put, List.setIfInBounds_toArray, List.set_cons_zero, List.set_cons_succ, i64_w, i32_w]
            rfl
          refine pure_ (i := 5) (N := some 19) (v := ?_) (a' := ?_) #[true, true, true, true, true, true, false, false, false, false] rfl rfl (by kernel_rfl) (fun _ _ _ h => h) (Or.inl ⟨by rfl, ?_⟩) ?_ ?_
          rotate_left
          · intro w'
            go_simp
            with_reducible rfl
          rotate_left
          · simp only [Act.put, List.setIfInBounds_toArray, List.set_cons_zero, List.set_cons_succ, i64_w, i32_w]
            rfl
          refine pure_ (i := 6) (N := some 25) (v := ?_) (a' := ?_) #[true, true, true, true, true, true, true, false, false, false] rfl rfl (by kernel_rfl) (fun _ _ _ h => h) (Or.inl ⟨by rfl, ?_⟩) ?_ ?_
          rotate_left
          · intro w'
            go_simp
            with_reducible rfl
          rotate_left
          · simp only [Act.put, List.setIfInBounds_toArray, List.set_cons_zero, List.set_cons_succ, i64_w, i32_w]
            rfl
          refine pure_ (i := 7) (N := some 26) (v := ?_) (a' := ?_) #[true, true, true, true, true, true, true, true, false, false] rfl rfl (by kernel_rfl) (fun _ _ _ h => h) (Or.inl ⟨by rfl, ?_⟩) ?_ ?_
          rotate_left
          · intro w'
            go_simp
            with_reducible rfl
          rotate_left
          · simp only [Act.put, List.setIfInBounds_toArray, List.set_cons_zero, List.set_cons_succ, i64_w, i32_w]
            rfl
          refine last_ (i := 8) (N := none) #[true, true, true, true, true, true, true, true, true, false] rfl rfl (by kernel_rfl) (by decide) (fun K hK => ?_)
          refine skip_ (w1 := ?_) (by rfl) rfl ?_ ?_
          rotate_left
          · go_simp
            rfl
          refine hK.out _ _ ?_
          clear hK K
          refine pure_ (i := 9) (N := some 6) (v := ?_) (a' := ?_) #[true, true, true, true, true, true, true, true, true, true] rfl rfl (by kernel_rfl) (fun _ _ _ h => h) (Or.inl ⟨by rfl, ?_⟩) ?_ ?_
          rotate_left
          · intro w'
            go_simp
            with_reducible rfl
          rotate_left
          · simp only [Act.put, List.setIfInBounds_toArray, List.set_cons_zero, List.set_cons_succ, i64_w, i32_w]
            rfl
          refine done_ (by kernel_rfl) ?_
          obtain ⟨w6, hw6⟩ : ∃ w6, w6 = ((((((((w5.setCell ⟨g3, 0, none⟩ (.int .i64 rr.1.st)).setCell ⟨g3, 1, none⟩ (.int .u8 (rr.1.u[0]?.getD 0))).setCell ⟨g3, 2, none⟩ (.int .u8 (rr.1.u[1]?.getD 0))).setCell ⟨g3, 3, none⟩ (.int .u8 (rr.1.u[2]?.getD 0))).setCell ⟨g3, 4, none⟩ (.int .i64 rr.1.u.length)).setCell ⟨g3, 5, none⟩ (.string rr.1.mr)).setCell ⟨g3, 6, none⟩ (.slice A5 n5 cp5)).setCell ⟨g3, 7, none⟩ (.string rr.1.tx)).setCell ⟨g3, 8, none⟩ (.int .i64 rr.1.wi) := ⟨_, rfl⟩
          have hk : KeepBut w5 w6 g3 none := by rw [hw6]; exact keep9 w5 g3 _ _ _ _ _ _ _ _ _
          have hh6 : Held w6 g3 rr.1 A5 n5 cp5 := by rw [hw6]; exact Held.set9 HH.out.drew HZ5.out HX5.out HCL5.out
          have hb6 := below9 (below_kept (below_drew HB.out) HZ5.out) HG3.out (.int .i64 rr.1.st) (.int .u8 (rr.1.u[0]?.getD 0)) (.int .u8 (rr.1.u[1]?.getD 0)) (.int .u8 (rr.1.u[2]?.getD 0)) (.int .i64 rr.1.u.length) (.string rr.1.mr) (.slice A5 n5 cp5) (.string rr.1.tx) (.int .i64 rr.1.wi)
          rw [← hw6] at hb6
          have hglt : g3 < wr.drew.heap.size := blk_lt HH.out.1
          have hy6 := Kd.R_keep HY5.out hk (fun k h => by have := h.1; omega)
          have HY6 := Aside0.mk (Kd.R_reads' hy6).2.2
          have HH6 := Aside0.mk hh6
          have HB6 := Aside0.mk hb6
          have HQ6 := Aside0.mk ((HQ.out.drew.on HZ5.out).keep hk HG4.out.2)
          rw [← hw6]
          clear hw6 hk hh6 hb6 hglt hy6 c0 c1 c2 c3 c4 c5 c6 c7 c8 f0 f1 f2 f3 f4 f5 f6 f7 f8 k0 k1 k2 k3 k4 k5 k6 k7 k8 hHeld HFC HX5 HY5 HZ5 HCL5 HH5 HH HB HQ
          have HQd := Aside0.mk HQ6.out.drew
          have HFQ6 := Aside0.mk (HFQ.out w6.drew HQd.out)
          obtain ⟨k0, k1, k2, k3, k4⟩ := HQd.out.cells
          clear HFQ
          go_upto_region 12 with fail
          refine start_ (n := 10) (S := fun w' => w'.cell? ⟨g4, 0, none⟩ = some (.string (nm v.st v.wi)) ∧ w'.cell? ⟨g4, 1, none⟩ = some (.slice Aq nq cuq) ∧ w'.cell? ⟨g4, 2, none⟩ = some (.string v.mr) ∧ w'.cell? ⟨g4, 3, none⟩ = some (.slice Bq mq dq) ∧ w'.cell? ⟨g4, 4, none⟩ = some (.string v.tx)) (ds := [8]) #[false, false, false, false, false, false, false, false, false, false] (by kernel_rfl) rfl rfl ⟨k0, k1, k2, k3, k4⟩ (fun hHeld => ?_)
          refine pure_ (i := 1) (N := some 29) (v := ?_) (a' := ?_) #[false, true, false, false, false, false, false, false, false, false] rfl rfl (by kernel_rfl) (fun _ _ _ h => h) (Or.inl ⟨by rfl, ?_⟩) ?_ ?_
          rotate_left
          · intro w'
            go_simp
            with_reducible rfl
          rotate_left
          · simp only [Act.put, List.setIfInBounds_toArray, List.set_cons_zero, List.set_cons_succ, i64_w, i32_w]
            rfl
          refine pure_ (i := 2) (N := some 30) (v := ?_) (a' := ?_) #[false, true, true, false, false, false, false, false, false, false] rfl rfl (by kernel_rfl) (fun _ _ _ h => h) (Or.inl ⟨by rfl, ?_⟩) ?_ ?_
          rotate_left
          · intro w'
            go_simp
            with_reducible rfl
          rotate_left
          · simp only [Act.put, List.setIfInBounds_toArray, List.set_cons_zero, List.set_cons_succ, i64_w, i32_w]
            rfl
          refine take_ (i := 0) (N := some 28) (v := ?_) (a' := ?_) #[true, true, true, false, false, false, false, false, false, false] rfl rfl (by kernel_rfl) (fun _ _ _ h => h) (Or.inl ⟨by rfl, ?_⟩) hHeld ?_ ?_
          rotate_left
          · rintro w' ⟨s0, s1, s2, s3, s4⟩
            go_simp
            with_reducible rfl
          rotate_left
          · simp only [Act.put, List.setIfInBounds_toArray, List.set_cons_zero, List.set_cons_succ, i64_w, i32_w]
            rfl
          refine take_ (i := 3) (N := some 31) (v := ?_) (a' := ?_) #[true, true, true, true, false, false, false, false, false, false] rfl rfl (by kernel_rfl) (fun _ _ _ h => h) (Or.inl ⟨by rfl, ?_⟩) hHeld ?_ ?_
          rotate_left
          · rintro w' ⟨s0, s1, s2, s3, s4⟩
            go_simp
            with_reducible rfl
          rotate_left
          · simp only [Act.put, List.setIfInBounds_toArray, List.set_cons_zero, List.set_cons_succ, i64_w, i32_w]
            rfl
          refine one_ (i := 4) (N := some 32) #[true, true, true, true, true, false, false, false, false, false] rfl rfl (by kernel_rfl) (by decide) (fun K hK => ?_)
          refine goes_ Tryd.func16 (by kernel_rfl) rfl #[.agg #[.string (nm v.st v.wi), .slice Aq nq cuq, .string v.mr, .slice Bq mq dq, .string v.tx], .int .u8 cI] (by rfl) rfl rfl (by simp only [List.map_toArray, List.map_cons, List.map_nil]; rfl) ?_
          with_reducible refine (HFQ6.out).mono ?_
          rintro e w7 ⟨A7, n7, cu7, B7, m7, d7, AB, cb, rfl, hx7, hp7, hy7, hz7, hca7, hcb7⟩
          refine ⟨_, rfl, ?_⟩
          have HX7 := Aside0.mk hx7
          have HP7 := Aside0.mk hp7
          have HY7 := Aside0.mk hy7
          have HZ7 := Aside0.mk hz7
          have HCA7 := Aside0.mk hca7
          have HCB7 := Aside0.mk hcb7
          have HQ7 := Aside0.mk (HQd.out.on hz7)
          clear hx7 hp7 hy7 hz7 hca7 hcb7
          obtain ⟨c0, c1, c2, c3, c4⟩ := HQ7.out.cells
          obtain ⟨f0, f1, f2, f3, f4⟩ := HQ7.out.thaw
          refine hK.out _ _ ⟨c0, c1, c2, c3, c4⟩ (fun hHeld => ?_)
          clear hK K
          refine norm_ (a' := ?_) ?_ ?_
          rotate_left
          · show Act.put _ (some 32) _ = _
            simp only [Act.put, List.setIfInBounds_toArray, List.set_cons_zero, List.set_cons_succ, i64_w, i32_w]
            rfl
          refine pure_ (i := 5) (N := some 27) (v := ?_) (a' := ?_) #[true, true, true, true, true, true, false, false, false, false] rfl rfl (by kernel_rfl) (fun _ _ _ h => h) (Or.inl ⟨by rfl, ?_⟩) ?_ ?_
          rotate_left
          · intro w'
            go_simp
            with_reducible rfl
          rotate_left
          · simp only [Act.put, List.setIfInBounds_toArray, List.set_cons_zero, List.set_cons_succ, i64_w, i32_w]
            rfl
          refine pure_ (i := 6) (N := some 33) (v := ?_) (a' := ?_) #[true, true, true, true, true, true, true, false, false, false] rfl rfl (by kernel_rfl) (fun _ _ _ h => h) (Or.inl ⟨by rfl, ?_⟩) ?_ ?_
          rotate_left
          · intro w'
            go_simp
            with_reducible rfl
          rotate_left
          · simp only [Act.put, List.setIfInBounds_toArray, List.set_cons_zero, List.set_cons_succ, i64_w, i32_w]
            rfl
          refine pure_ (i := 7) (N := some 34) (v := ?_) (a' := ?_) #[true, true, true, true, true, true, true, true, false, false] rfl rfl (by kernel_rfl) (fun _ _ _ h => h) (Or.inl ⟨by rfl, ?_⟩) ?_ ?_
          rotate_left
          · intro w'
            go_simp
            with_reducible rfl
          rotate_left
          · simp only [Act.put, List.setIfInBounds_toArray, List.set_cons_zero, List.set_cons_succ, i64_w, i32_w]
            rfl
          refine last_ (i := 8) (N := none) #[true, true, true, true, true, true, true, true, true, false] rfl rfl (by kernel_rfl) (by decide) (fun K hK => ?_)
          refine skip_ (w1 := ?_) (by rfl) rfl ?_ ?_
          rotate_left
          · go_simp
            rfl
          refine hK.out _ _ ?_
          clear hK K
          refine pure_ (i := 9) (N := some 7) (v := ?_) (a' := ?_) #[true, true, true, true, true, true, true, true, true, true] rfl rfl (by kernel_rfl) (fun _ _ _ h => h) (Or.inl ⟨by rfl, ?_⟩) ?_ ?_
          rotate_left
          · intro w'
            go_simp
            with_reducible rfl
          rotate_left
          · simp only [Act.put, List.setIfInBounds_toArray, List.set_cons_zero, List.set_cons_succ, i64_w, i32_w]
            rfl
          refine done_ (by kernel_rfl) ?_
          obtain ⟨w8, hw8⟩ : ∃ w8, w8 = ((((w7.setCell ⟨g4, 0, none⟩ (.string (nm rr.1.st rr.1.wi))).setCell ⟨g4, 1, none⟩ (.slice A7 n7 cu7)).setCell ⟨g4, 2, none⟩ (.string rr.1.mr)).setCell ⟨g4, 3, none⟩ (.slice B7 m7 d7)).setCell ⟨g4, 4, none⟩ (.string rr.1.tx) := ⟨_, rfl⟩
          have hk : KeepBut w7 w8 g4 none := by rw [hw8]; exact keep5 w7 g4 _ _ _ _ _
          have hlt3 : g3 < w6.drew.heap.size := blk_lt HH6.out.drew.1
          have hq8 : HeldQ w8 g4 g3 rr.1 A7 n7 cu7 B7 m7 d7 := by rw [hw8]; exact HeldQ.set5 HQd.out HZ7.out hlt3 HX7.out HP7.out HCA7.out HCB7.out
          have hb8 := below5 (below_kept (below_drew HB6.out) HZ7.out) HG4.out.1 (.string (nm rr.1.st rr.1.wi)) (.slice A7 n7 cu7) (.string rr.1.mr) (.slice B7 m7 d7) (.string rr.1.tx)
          rw [← hw8] at hb8
          have HQ8 := Aside0.mk hq8
          have HB8 := Aside0.mk hb8
          have HH8 := Aside0.mk (held_keep (HH6.out.drew.on HZ7.out) HQ7.out.1 (noint5 _ _ _ _ _ _ _ _ _) hk (Ne.symm HG4.out.2))
          have HYA := Aside0.mk (acts_keep (Kd.C_below (Kd.C_drew HY6.out) HZ7.out) HQ7.out.1 (noint5 _ _ _ _ _ _ _ _ _) hk)
          have HYB := Aside0.mk (acts_keep HY7.out HQ7.out.1 (noint5 _ _ _ _ _ _ _ _ _) hk)
          have HSC := Aside0.mk (same_c AA AB ca cb rr.2 w8 HYA.out HYB.out (by have := HFL.out; omega) (fun a ha => (HCP.out a ha).2.1))
          have HT8 := Aside0.mk (tabs_below HT.out hb8)
          rw [← hw8]
          clear hw8 hk hlt3 hq8 hb8 c0 c1 c2 c3 c4 f0 f1 f2 f3 f4 k0 k1 k2 k3 k4 hHeld HFQ6 HX7 HP7 HY7 HZ7 HCA7 HCB7 HQ7 HQd HH6 HB6 HY6 HYA HYB HQ6 hcI hi
          obtain ⟨k0, k1, k2, k3, k4, k5, k6, k7, k8⟩ := HH8.out.cells
          go_wp2_with fail
          refine HSC.out.mono ?_
          rintro e w9 ⟨rfl, hb9⟩
          have HB9 := Aside0.mk (below_kept HB8.out hb9)
          have HH9 := Aside0.mk (HH8.out.on hb9)
          have HQ9 := Aside0.mk (HQ8.out.on hb9)
          have HFR := Aside0.mk (form_c rr.1 HGN.out A5 n5 cp5 w9 HH9.out.2.1 (tabs_below HT8.out hb9))
          clear hb9 k0 k1 k2 k3 k4 k5 k6 k7 k8
          obtain ⟨k0, k1, k2, k3, k4, k5, k6, k7, k8⟩ := HH9.out.cells
          go_wp2_with fail
          refine HFR.out.mono ?_
          rintro e w10 ⟨rfl, hb10⟩
          have HB10 := Aside0.mk (below_kept HB9.out hb10)
          have HH10 := Aside0.mk (HH9.out.on hb10)
          have HQ10 := Aside0.mk (HQ9.out.on hb10)
          clear hb10 k0 k1 k2 k3 k4 k5 k6 k7 k8
          go_wp2_with fail
          go_roundg g0
          case measure => omega
          case rel => exact ⟨i + 1, rr.1, A5, n5, cp5, A7, n7, cu7, B7, m7, d7, by first | go_num | (congr 1; unfold wrap64; omega), ⟨by have := HGK.out; omega⟩, HGN, HH10, HQ10, HB10⟩
        · have hil : (s.size : Int) ≤ i := by omega
          clear hgi hi
          go_wp2
          go_ret
          exact ⟨rfl, HB.out⟩
theorem feeds_row {w : World} (s : ByteArray) (_ : s.size ≤ 140737488351232) (hT : Utf8Tabs 0 1 w) : Calls Tryd.prog 7 #[.string s] w fun e w' => e = .returned (.bool true) ∧ Below w.heap.size w w' := by
  by_cases h : 1000 < s.size
  · exact feeds_big s w hT h
  · exact feeds_small s w hT (by omega)
end Go.Proofs.YtkdkajcokoggiaaDoor.VtFeeds
