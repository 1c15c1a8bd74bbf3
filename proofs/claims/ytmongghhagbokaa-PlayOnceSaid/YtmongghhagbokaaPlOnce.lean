/- The law PlayOnce returns true: a walk through its text; no condition. -/
import Derived.Test.YtmongghhagbokaaPlParts
import Derived.Test.YtmongghhagbokaaPlOnceC
import Derived.Test.YtmongghhagbokaaDeedK
import Derived.Deep.CutBlock
namespace Go.Proofs.Ytmongghhagbokaa.PlOnce
open Go.RowKit Go.Proofs.Ytmongghhagbokaa.Kit Go.Proofs.Ytmongghhagbokaa.Plain Go.Proofs.Ytmongghhagbokaa.Mine Go.Proofs.Ytmongghhagbokaa.Event Go.Proofs.Ytmongghhagbokaa.EventRef Go.Proofs.Ytmongghhagbokaa.EventList Go.Proofs.Ytmongghhagbokaa.EventListR Go.Proofs.Ytmongghhagbokaa.Tame Go.Proofs.Ytmongghhagbokaa.EvUntil Go.Proofs.Ytmongghhagbokaa.EvSame Go.Proofs.Ytmongghhagbokaa.PlScale Go.Proofs.Ytmongghhagbokaa.PlNow Go.Proofs.Ytmongghhagbokaa.PlDue Go.Proofs.Ytmongghhagbokaa.PlNew Go.Proofs.Ytmongghhagbokaa.PlFit Go.Proofs.Ytmongghhagbokaa.PlPause Go.Proofs.Ytmongghhagbokaa.PlTimes Go.Proofs.Ytmongghhagbokaa.PlWide Go.Proofs.Ytmongghhagbokaa.PlStep Go.Proofs.Ytmongghhagbokaa.PlOnceC Go.Proofs.Ytmongghhagbokaa.PlParts Go.Proofs.Ytmongghhagbokaa.DeedK Go.Proofs.YtmongghhagbokaaW.PrintWords Go.Proofs.YtmongghhagbokaaW.PrintLast Go.Proofs.YtmongghhagbokaaW.PrintMore
open Go.Proofs.Ytmongghhagbokaa.PPlayRights (S54 z54 k54 k54_open k54_mk k54_mkM rd_T54 at_T54 info54)
set_option linter.unusedVariables false
set_option linter.unusedSimpArgs false
theorem low3 (n : Int) : Go.bits .and .i64 n 3 = n % 4 := by
  have h := lowbits 2 (by omega) n 3 (by decide)
  have e : ((2 ^ 2 : Nat) : Int) = 4 := by decide
  rw [e] at h
  exact h
theorem kind_facts (n : Int) : Go.bits .and .i64 n 3 = 0 ∨ Go.bits .and .i64 n 3 = 1 ∨ Go.bits .and .i64 n 3 = 2 ∨ Go.bits .and .i64 n 3 = 3 := by
  rw [low3]
  omega
theorem grown {α : Type} (l : List α) {a b : Nat} (h : a ≤ b) (hb : b ≤ l.length) : l.take a ++ (l.take b).drop a = l.take b := by
  have := mid_app l (a := 0) (b := a) (c := b) (Nat.zero_le _) h hb
  rw [List.drop_zero, List.drop_zero] at this
  exact this
theorem app_len0 {α : Type} {l : List α} (a b c : Nat) (h : l.length ≤ 60) : ((l.take a).length + ((l.take b).drop c).length) * 48 ≤ 140737488355328 := by
  rw [List.length_take, List.length_drop, List.length_take]
  omega
set_option maxHeartbeats 3200000 in
set_option maxRecDepth 100000 in
theorem once_small (A B : Option Addr) (c cb : Nat) (l : List S54) (ts : List SD) (a b d : Int) (w : World) (hC : Kd.C k54 w A l.length l) (hT : Kd.C kD w B ts.length ts) (hl : l.length ≤ 60) (ht : ts.length ≤ 60) :
    Calls Try.prog 6 #[.slice A l.length c, .agg #[.int .i64 a, .int .i64 b, .int .i64 d], .slice B ts.length cb] w fun e w' => e = .returned (.bool true) ∧ Below w.heap.size w w' := by
  have hu := Try.underlying57
  have h1 : (l.length : Int) ≤ 60 := by omega
  have h2 : (ts.length : Int) ≤ 60 := by omega
  have HTM := Aside0.mk (fun W (h : Kd.C k54 W A l.length l) => tame_c A c l W h (by omega))
  have hlt := tame_len l 0
  have hrt := tame_right l 0 (by omega) (by omega)
  have HC := Aside0.mk hC
  have HT := Aside0.mk hT
  obtain ⟨l2, hl2⟩ : ∃ l2, l2 = tame 0 l := ⟨_, rfl⟩
  rw [← hl2] at HTM hlt hrt
  obtain ⟨n, hn⟩ : ∃ n, n = l.length := ⟨_, rfl⟩
  rw [← hn] at HTM HC hlt h1
  rw [← hn]
  have HLN := Aside0.mk hlt
  have HLR := Aside0.mk hrt
  have HRI := Aside0.mk (listR_rising l2 0 hrt)
  obtain ⟨m, hm⟩ : ∃ m, m = ts.length := ⟨_, rfl⟩
  rw [← hm] at HT h2
  rw [← hm]
  have HM := Aside0.mk hm
  obtain ⟨st, ea, hst2⟩ := st_facts a
  obtain ⟨bb, p, eb, eb2, eb3, ep, hp1⟩ := speed_facts b
  obtain ⟨dd, q, ed, ed2, ed3, eq, hq1⟩ := speed_facts d
  have HP1 := Aside0.mk hp1
  have HQ1 := Aside0.mk hq1
  have HST := Aside0.mk hst2
  have hsp : speedB (p : Int) (q : Int) = true := speedB_nat hp1 hq1
  have HSP := Aside0.mk hsp
  have HBS := Aside0.mk hl
  have HBN := Aside0.mk (show n ≤ 60 by omega)
  have HBT := Aside0.mk ht
  have hpI : (p : Int) ≤ 1000 := Int.ofNat_le.2 hp1.2
  have hqI : (q : Int) ≤ 1000 := Int.ofNat_le.2 hq1.2
  have hqP : (0 : Int) < q := Int.ofNat_lt.2 hq1.1
  have hsI : (st : Int) ≤ 65535 := Int.ofNat_le.2 (Nat.le_of_lt_succ hst2)
  clear hC hT hl ht hlt hrt hl2 hn hm hst2 hp1 hq1 hsp
  go_enter Try.func6, Try.ntmps6
  go_upto_region 1 with fail
  obtain ⟨w1, hw1⟩ : ∃ w1, w1 = w.alloc (.cells #[.int .i64 a, .int .i64 b, .int .i64 d] 23) := ⟨_, rfl⟩
  obtain ⟨gs, hg⟩ : ∃ g, g = w.heap.size := ⟨_, rfl⟩
  have HK1 := Aside0.mk (show w1.heap[gs]? = some (.cells #[.int .i64 a, .int .i64 b, .int .i64 d] 23 (0, 0)) from by rw [hw1, hg]; exact blk_new w _)
  have hb1 : Below w.heap.size w w1 := by rw [hw1]; exact below_alloc (Below.refl _ _) _
  have HB1 := Aside0.mk hb1
  have HC1 := Aside0.mk (Kd.C_below HC.out hb1)
  rw [← hw1, ← hg]
  clear hw1 hg hb1
  go_wp2_with fail
  refine (fit_c _).mono ?_
  rintro e w2 ⟨rfl, hb⟩
  have HK2 := Aside0.mk (blk_below HK1.out hb)
  have HB2 := Aside0.mk (below_kept HB1.out hb)
  have HC2 := Aside0.mk (Kd.C_below HC1.out hb)
  clear hb
  go_wp2_with fail
  refine (HTM.out w2 HC2.out).mono ?_
  rintro e w3 ⟨vl, rfl, ho, hb⟩
  obtain ⟨A2, c2, rfl⟩ := Kd.R_slice ho
  have HK3 := Aside0.mk (blk_below HK2.out hb)
  have HB3 := Aside0.mk (below_kept HB2.out hb)
  rw [HLN.out] at ho
  rw [HLN.out]
  have HL3 := Aside0.mk (Kd.R_lower ho HB2.out.size)
  clear ho hb HTM
  have c0 : w3.cell? ⟨gs, 0, none⟩ = some (.int .i64 a) := (blk_cell HK3.out 0).trans rfl
  have c1 : w3.cell? ⟨gs, 1, none⟩ = some (.int .i64 b) := (blk_cell HK3.out 1).trans rfl
  have c2' : w3.cell? ⟨gs, 2, none⟩ = some (.int .i64 d) := (blk_cell HK3.out 2).trans rfl
  clear ep eq
  go_wp2_with fail
  have hn60 : l2.length ≤ 1000 := by rw [HLN.out]; exact Nat.le_trans HBN.out (by decide)
  have hno := new_ok A2 c2 l2 st p q w3 (by rw [HLN.out]; have h4 := (Kd.R_reads' HL3.out).2.2; rw [HLN.out] at h4; exact h4) hn60 (Nat.lt_trans HST.out (by decide)) HSP.out HLR.out
  rw [HLN.out] at hno
  refine hno.mono ?_
  rintro e w4 ⟨g, A4, c4, rfl, hgw, hp, hr, hb⟩
  have HB4 := Aside0.mk (below_kept HB3.out hb)
  have HK4 := Aside0.mk (blk_below HK3.out hb)
  have HGL := Aside0.mk (blk_lt hp)
  have HWG := Aside0.mk (Nat.le_trans HB3.out.size hgw)
  have HP4 := Aside0.mk hp
  have HR4 := Aside0.mk (Kd.R_mono (ok' := fun k => k < w4.heap.size ∧ k ≠ g) (Kd.R_bound (Kd.R_lower hr HB3.out.size)) (fun k hk => ⟨hk.2.2.1, hk.1⟩))
  have HL4 := Aside0.mk (Kd.R_below HL3.out hb)
  have HS4 := Aside0.mk (Kd.R_mono (ok' := fun k => k < w4.heap.size ∧ k ≠ g) (Kd.R_below (Kd.R_bound HL3.out) hb) (fun k hk => by have h1 := hk.2.2.1; have h2 := hb.size; exact ⟨by omega, by omega⟩))
  have c0' : w4.cell? ⟨gs, 0, none⟩ = some (.int .i64 a) := (blk_cell HK4.out 0).trans rfl
  clear hno hgw hp hr hb hn60 c0 c1 c2' eb eb2 eb3 ed ed2 ed3
  go_wp2_with fail
  have hru := runtil_c A2 c2 l2 (st : Int) w4 (Kd.R_reads' (by rw [← HLN.out] at HL4; exact HL4.out)).2.2 (by have h3 := HLN.out; omega)
  rw [HLN.out] at hru
  refine hru.mono ?_
  rintro e w5 ⟨rfl, hb⟩
  have HB45 := Aside0.mk hb
  have HL5 := Aside0.mk (Kd.R_below HL4.out hb)
  have hkl := countT_le (st : Int) l2
  obtain ⟨k0, hk0⟩ : ∃ k0, k0 = countT (st : Int) l2 := ⟨_, rfl⟩
  rw [← hk0] at hkl
  rw [← hk0]
  have hcc := cut_to_ex (P := Try.prog) k54 22 54 (.agg #[(.int .i64 0), (.int .i64 0), (.string ⟨#[]⟩), (.int .i64 0), (.int .i64 0)]) 48 Try.underlying22 info54 A2 c2 l2 (k0 : Int) (Int.natCast_nonneg _) (Int.ofNat_le.2 hkl) (by rw [← HLN.out] at HL5; exact (Kd.R_reads' HL5.out).2.1)
  obtain ⟨lk, hlk⟩ : ∃ lk, lk = l2.take k0 := ⟨_, rfl⟩
  rw [Int.toNat_natCast, HLN.out, ← hlk] at hcc
  obtain ⟨hcut, hcc2, hCx⟩ := hcc
  have HCX := Aside0.mk (hCx w5 (by have h4 := (Kd.R_reads' (by rw [← HLN.out] at HL5; exact HL5.out)).2.2; rw [HLN.out] at h4; exact h4))
  have HKL := Aside0.mk (show lk.length * 48 ≤ 140737488355328 from by rw [hlk, List.length_take]; have := HLN.out; have := HBN.out; omega)
  have HLK := Aside0.mk hlk
  have HK0 := Aside0.mk hk0
  have HKN := Aside0.mk hkl
  have HS45 := Aside0.mk HB45.out.size
  clear hb hru hkl hk0 hlk hcc2 hCx ea c0'
  go_wp2_with (first
    | ((with_reducible refine gate_builtin (b := .append) (xs := #[.const (.slice none 0 0), .tmp 55]) rfl ?_); at_builtin; go_must ((refine Kd.R_append_rows k54 (w0 := w5) w4.heap.size rfl (.const (.slice none 0 0)) (.tmp 55) 22 54 (.agg #[(.int .i64 0), (.int .i64 0), (.string ⟨#[]⟩), (.int .i64 0), (.int .i64 0)]) 48 rfl Try.underlying22 info54 rfl (by decide) (by omega) (.slice none 0 0) [] lk A2 lk.length c2 (fun _ => True) (fun _ => False) rfl rfl (Kd.R_nil _ _ _ _ _) HCX.out ?aK (fun _ hk => hk.elim) ?aF (Below.refl _ _) HS45.out ?aL ?_; (case aK => exact fun x cs h => by rw [k54_open h]; exact k54_mkM _ _ _ x); (case aF => exact fun _ _ => trivial); (case aL => exact Nat.le_trans (by simp) HKL.out); intro v6 w6 ho hb hg hat; rw [List.nil_append, HLK.out] at ho; have HV6 := Aside0.mk ho; have HB6 := Aside0.mk hb; clear ho hb hg hat)))
    | fail)
  have HL60 := Aside0.mk (show l2.length ≤ 60 from by rw [HLN.out]; exact HBN.out)
  have hse0 : SE w w4 w6 g A4 c4 l2 (.slice A2 n c2) v6 k0 k0 (nowN st p q 0) := by
    have hst := HST.out
    have hz := now_zero (st := st) (p := p) (q := q) (by omega)
    refine ⟨st, p, q, 0, false, ⟨⟨by omega, HP1.out.1, HP1.out.2, HQ1.out.1, HQ1.out.2, Nat.zero_le _⟩, HKN.out, Nat.le_refl _, by rw [hz, HK0.out]; exact Nat.le_refl _, ?_, ?_, HV6.out, ?_, HGL.out, HWG.out, ?_, Nat.le_trans HS45.out HB6.out.size⟩, rfl⟩
    · rw [HLN.out, HK0.out]; exact (HB6.out.block g HGL.out).trans (blk_below HP4.out HB45.out)
    · rw [HLN.out]; exact Kd.R_step (Kd.R_below HR4.out HB45.out) (fun j hj _ => HB6.out.block j hj.1)
    · exact Kd.R_step (Kd.R_below HS4.out HB45.out) (fun j hj _ => HB6.out.block j hj.1)
    · exact (below_kept HB4.out HB45.out).trans (HB6.out.mono HB4.out.size)
  obtain ⟨now0, hnow0⟩ : ∃ now0, now0 = nowN st p q 0 := ⟨_, rfl⟩
  rw [← hnow0] at hse0
  have HSE0 := Aside0.mk hse0
  clear hse0 hnow0
  refine (now_c' HSE0.out).mono ?_
  rintro e w7 ⟨rfl, hse⟩
  have HSE7 := Aside0.mk hse
  clear hse HSE0 hcut hsI
  go_wp2_with fail
  go_loopg [9, 10, 61] m (fun gk v9 v10 v61 W => ∃ (i now nx : Nat) (v : Value), v = v9 ∧ v10 = .int .i64 (now : Int) ∧ v61 = .int .i64 (i : Int) ∧ Aside0 (gk + i = m) ∧ Aside0 (SE w w4 W g A4 c4 l2 (.slice A2 n c2) v nx nx now))
  case atStart => exact ⟨0, now0, k0, v6, rfl, rfl, rfl, ⟨by omega⟩, HSE7⟩
  case round =>
    obtain ⟨i, now, nx, v, rfl, rfl, rfl, HGK, HSE⟩ := hrel
    have hgi := HGK.out
    by_cases hi : i < m
    · obtain ⟨g0, rfl⟩ : ∃ g0, gk = g0 + 1 := ⟨gk - 1, by omega⟩
      obtain ⟨ad, x, ead, hc0, hc1, hc2⟩ := at_D (Kd.C_below HT.out HSE.out.below) i hi
      subst ead
      have him : (i : Int) < m := by omega
      obtain ⟨x0, x1, x2⟩ := x
      simp only at hc0 hc1 hc2
      obtain ⟨kk, hkk⟩ : ∃ kk, kk = Go.bits .and .i64 x0 3 := ⟨_, rfl⟩
      have hkc := kind_facts x0
      rw [← hkk] at hkc
      have HKC := Aside0.mk hkc
      have hkk2 := hkk.symm
      clear hgi hi hkk hkc
      go_upto_region 13 with fail
      go_cut [12] (fun v12 W => ∃ gd : Nat, v12 = .pointer (some ⟨gd, 0, none⟩) ∧ Aside0 (W.heap[gd]? = some (.cells #[.int .i64 x0, .int .i64 x1, .int .i64 x2] 42 (0, 0))) ∧ Aside0 (SE w w4 W g A4 c4 l2 (.slice A2 n c2) v nx nx now))
      case first =>
        go_wp2_with fail
        go_meet
        case rel => exact ⟨wr.heap.size, rfl, ⟨blk_new wr _⟩, ⟨HSE.out.on (below_alloc (Below.refl _ _) _)⟩⟩
      case rest =>
        obtain ⟨gd, rfl, BK, HSE2⟩ := hcut
        clear hc0 hc1 hc2
        have d0 : wc.cell? ⟨gd, 0, none⟩ = some (.int .i64 x0) := (blk_cell BK.out 0).trans rfl
        have d1 : wc.cell? ⟨gd, 1, none⟩ = some (.int .i64 x1) := (blk_cell BK.out 1).trans rfl
        have d2 : wc.cell? ⟨gd, 2, none⟩ = some (.int .i64 x2) := (blk_cell BK.out 2).trans rfl
        go_upto_block 2 with fail
        go_cut [9] (fun v9 W => ∃ (nx2 now2 : Nat), Aside0 (SE w w4 W g A4 c4 l2 (.slice A2 n c2) v9 nx2 nx2 now2) ∧ Aside0 (now ≤ now2 ∨ now = 4611686018427387904))
        case first =>
          rcases HKC.out with rfl | rfl | rfl | rfl
          · go_wp2_with fail
            refine (tick_c' HLR.out HL60.out x1 HSE2.out).mono ?_
            rintro e w7a ⟨A6, c6, nx2, now2, rfl, hcc, hxx, hnw, hse⟩
            obtain ⟨lm, hlm⟩ : ∃ lm, lm = (l2.take nx2).drop nx := ⟨_, rfl⟩
            obtain ⟨lo, hlo⟩ : ∃ lo, lo = l2.take nx := ⟨_, rfl⟩
            have HALN := Aside0.mk (show (lo.length + lm.length) * 48 ≤ 140737488355328 from by rw [hlo, hlm]; exact app_len0 _ _ _ HL60.out)
            have HAPP := Aside0.mk (show lo ++ lm = l2.take nx2 from by rw [hlo, hlm]; exact grown l2 hxx hse.nxl)
            have HTO := Aside0.mk (show Kd.R k54 54 w7a w4.heap.size (fun _ => True) v lo from by rw [hlo]; exact hse.told)
            have HSZ := Aside0.mk hse.size
            have HC6 := Aside0.mk hcc
            rw [← hlm] at HC6
            rw [← hlm]
            have HSE6 := Aside0.mk hse
            have HXX := Aside0.mk hxx
            have HNW := Aside0.mk hnw
            clear hse hxx hnw hcc hlm hlo
            go_wp2_with (first
              | ((with_reducible refine gate_builtin (b := .append) (xs := #[.tmp 76, .tmp 80]) rfl ?_); at_builtin; go_must ((refine Kd.R_append_rows k54 (w0 := w7a) w4.heap.size rfl (.tmp 76) (.tmp 80) 22 54 (.agg #[(.int .i64 0), (.int .i64 0), (.string ⟨#[]⟩), (.int .i64 0), (.int .i64 0)]) 48 rfl Try.underlying22 info54 rfl (by decide) (by omega) v lo lm A6 lm.length c6 (fun _ => True) (fun _ => False) rfl rfl HTO.out HC6.out ?aK (fun _ hk => hk.elim) ?aF (Below.refl _ _) HSZ.out HALN.out ?_; (case aK => exact fun x cs h => by rw [k54_open h]; exact k54_mkM _ _ _ x); (case aF => exact fun _ _ => trivial); intro v7 w7 ho hb hg hat; rw [HAPP.out] at ho; have HV7 := Aside0.mk ho; have HB7 := Aside0.mk hb; clear ho hb hg hat)))
              | fail)
            go_meet
            case rel => exact ⟨nx2, now2, ⟨HSE6.out.grow HB7.out HV7.out (Nat.le_refl _)⟩, ⟨.inl HNW.out⟩⟩
          · go_wp2_with fail
            refine (step_c' HLR.out HL60.out HSE2.out).mono ?_
            rintro e w7a ⟨A6, c6, nx2, now2, rfl, hcc, hxx, _, hnw, hse⟩
            obtain ⟨lm, hlm⟩ : ∃ lm, lm = (l2.take nx2).drop nx := ⟨_, rfl⟩
            obtain ⟨lo, hlo⟩ : ∃ lo, lo = l2.take nx := ⟨_, rfl⟩
            have HALN := Aside0.mk (show (lo.length + lm.length) * 48 ≤ 140737488355328 from by rw [hlo, hlm]; exact app_len0 _ _ _ HL60.out)
            have HAPP := Aside0.mk (show lo ++ lm = l2.take nx2 from by rw [hlo, hlm]; exact grown l2 hxx hse.nxl)
            have HTO := Aside0.mk (show Kd.R k54 54 w7a w4.heap.size (fun _ => True) v lo from by rw [hlo]; exact hse.told)
            have HSZ := Aside0.mk hse.size
            have HC6 := Aside0.mk hcc
            rw [← hlm] at HC6
            rw [← hlm]
            have HSE6 := Aside0.mk hse
            have HXX := Aside0.mk hxx
            have HNW := Aside0.mk hnw
            clear hse hxx hnw hcc hlm hlo
            go_wp2_with (first
              | ((with_reducible refine gate_builtin (b := .append) (xs := #[.tmp 84, .tmp 86]) rfl ?_); at_builtin; go_must ((refine Kd.R_append_rows k54 (w0 := w7a) w4.heap.size rfl (.tmp 84) (.tmp 86) 22 54 (.agg #[(.int .i64 0), (.int .i64 0), (.string ⟨#[]⟩), (.int .i64 0), (.int .i64 0)]) 48 rfl Try.underlying22 info54 rfl (by decide) (by omega) v lo lm A6 lm.length c6 (fun _ => True) (fun _ => False) rfl rfl HTO.out HC6.out ?aK (fun _ hk => hk.elim) ?aF (Below.refl _ _) HSZ.out HALN.out ?_; (case aK => exact fun x cs h => by rw [k54_open h]; exact k54_mkM _ _ _ x); (case aF => exact fun _ _ => trivial); intro v7 w7 ho hb hg hat; rw [HAPP.out] at ho; have HV7 := Aside0.mk ho; have HB7 := Aside0.mk hb; clear ho hb hg hat)))
              | fail)
            go_meet
            case rel => exact ⟨nx2, now2, ⟨HSE6.out.grow HB7.out HV7.out (Nat.le_refl _)⟩, ⟨.inl HNW.out⟩⟩
          · go_wp2_with fail
            refine (pause_c' _ HSE2.out).mono ?_
            rintro e w7a ⟨⟨u, rfl⟩, hse⟩
            have HSE6 := Aside0.mk hse
            clear hse
            go_wp2_with fail
            go_meet
            case rel => exact ⟨nx, now, HSE6, ⟨.inl (Nat.le_refl _)⟩⟩
          · go_wp2_with fail
            refine (speed_c' x1 x2 HSE2.out).mono ?_
            rintro e w7a ⟨u, now2, rfl, hnw, hse⟩
            have HSE6 := Aside0.mk hse
            have HNW := Aside0.mk hnw
            clear hse hnw
            go_wp2_with fail
            go_meet
            case rel => exact ⟨nx, now2, HSE6, HNW⟩
        case rest =>
          obtain ⟨nx2, now2, HSE3, HNW⟩ := hcut
          clear d0 d1 d2 hkk2
          go_wp2_with fail
          refine (now_c' HSE3.out).mono ?_
          rintro e wb ⟨rfl, hse⟩
          have HSE4 := Aside0.mk hse
          clear hse
          by_cases hlt : now2 < now
          · have hn62 : now = 4611686018427387904 := by have := HNW.out; omega
            have hltI : (now2 : Int) < now := Int.ofNat_lt.2 hlt
            have hg1 : decide ((now : Int) < 4611686018427387904) = false := decide_eq_false (by omega)
            have hg2 : decide (now < 4611686018427387904) = false := decide_eq_false (by omega)
            clear hn62
            go_wp2_with fail
            refine (now_c' HSE4.out).mono ?_
            rintro e wd ⟨rfl, hse⟩
            have HSE5 := Aside0.mk hse
            clear hse
            go_wp2
            go_roundg g0
            case measure => omega
            case rel => exact ⟨i + 1, now2, nx2, _, rfl, rfl, by first | go_num | (congr 1; unfold wrap64; omega), ⟨by have := HGK.out; omega⟩, HSE5⟩
          · have hge : (now : Int) ≤ now2 := Int.ofNat_le.2 (Nat.le_of_not_lt hlt)
            have hg1 : decide ((now2 : Int) < now) = false := decide_eq_false (by omega)
            have hg2 : decide (now2 < now) = false := decide_eq_false hlt
            go_wp2_with fail
            refine (now_c' HSE4.out).mono ?_
            rintro e wd ⟨rfl, hse⟩
            have HSE5 := Aside0.mk hse
            clear hse
            go_wp2
            go_roundg g0
            case measure => omega
            case rel => exact ⟨i + 1, now2, nx2, _, rfl, rfl, by first | go_num | (congr 1; unfold wrap64; omega), ⟨by have := HGK.out; omega⟩, HSE5⟩
    · have him : (m : Int) ≤ i := by omega
      clear hgi hi
      go_wp2_with fail
      rw [show decide (i < m) = false from decide_eq_false (by omega)]
      clear him
      go_loopg [9, 109] n (fun gk v9 v109 W => ∃ (i now nx : Nat) (v : Value), v = v9 ∧ v109 = .int .i64 (i : Int) ∧ Aside0 (gk + i = n) ∧ Aside0 (n ≤ nx + gk) ∧ Aside0 (SE w w4 W g A4 c4 l2 (.slice A2 n c2) v nx nx now))
      case atStart => exact ⟨0, now, nx, v, rfl, rfl, ⟨by omega⟩, ⟨by omega⟩, HSE⟩
      case round =>
        obtain ⟨j, now, nx, v, rfl, rfl, HGK2, HNX, HSE2⟩ := hrel
        have hgj := HGK2.out
        by_cases hj : j < n
        · obtain ⟨g0, rfl⟩ : ∃ g0, gk = g0 + 1 := ⟨gk - 1, by omega⟩
          have hjn : (j : Int) < n := by omega
          clear hgj hj
          go_wp2_with fail
          refine (step_c' HLR.out HL60.out HSE2.out).mono ?_
          rintro e w7a ⟨A6, c6, nx2, now2, rfl, hcc, hxx, hst, hnw, hse⟩
          have HST2 := Aside0.mk hst
          clear hst
          obtain ⟨lm, hlm⟩ : ∃ lm, lm = (l2.take nx2).drop nx := ⟨_, rfl⟩
          obtain ⟨lo, hlo⟩ : ∃ lo, lo = l2.take nx := ⟨_, rfl⟩
          have HALN := Aside0.mk (show (lo.length + lm.length) * 48 ≤ 140737488355328 from by rw [hlo, hlm]; exact app_len0 _ _ _ HL60.out)
          have HAPP := Aside0.mk (show lo ++ lm = l2.take nx2 from by rw [hlo, hlm]; exact grown l2 hxx hse.nxl)
          have HTO := Aside0.mk (show Kd.R k54 54 w7a w4.heap.size (fun _ => True) v lo from by rw [hlo]; exact hse.told)
          have HSZ := Aside0.mk hse.size
          have HC6 := Aside0.mk hcc
          rw [← hlm] at HC6
          rw [← hlm]
          have HSE6 := Aside0.mk hse
          have HXX := Aside0.mk hxx
          have HNW := Aside0.mk hnw
          clear hse hxx hnw hcc hlm hlo
          go_wp2_with (first
            | ((with_reducible refine gate_builtin (b := .append) (xs := #[.tmp 111, .tmp 113]) rfl ?_); at_builtin; go_must ((refine Kd.R_append_rows k54 (w0 := w7a) w4.heap.size rfl (.tmp 111) (.tmp 113) 22 54 (.agg #[(.int .i64 0), (.int .i64 0), (.string ⟨#[]⟩), (.int .i64 0), (.int .i64 0)]) 48 rfl Try.underlying22 info54 rfl (by decide) (by omega) v lo lm A6 lm.length c6 (fun _ => True) (fun _ => False) rfl rfl HTO.out HC6.out ?aK (fun _ hk => hk.elim) ?aF (Below.refl _ _) HSZ.out HALN.out ?_; (case aK => exact fun x cs h => by rw [k54_open h]; exact k54_mkM _ _ _ x); (case aF => exact fun _ _ => trivial); intro v7 w7 ho hb hg hat; rw [HAPP.out] at ho; have HV7 := Aside0.mk ho; have HB7 := Aside0.mk hb; clear ho hb hg hat)))
            | fail)
          go_roundg g0
          case measure => omega
          case rel => exact ⟨j + 1, now2, nx2, v7, rfl, by first | go_num | (congr 1; unfold wrap64; omega), ⟨by have := HGK2.out; omega⟩, ⟨by have h1 := HST2.out; have h2 := HNX.out; have h3 := HXX.out; have h4 := HLN.out; have h5 := HSE6.out.nxl; omega⟩, ⟨HSE6.out.grow HB7.out HV7.out (Nat.le_refl _)⟩⟩
        · have hjn : (n : Int) ≤ j := by omega
          have hnx : nx = l2.length := by have h1 := HNX.out; have h2 := HSE2.out.nxl; have h3 := HLN.out; omega
          subst hnx
          have hto := HSE2.out.told
          rw [List.take_length] at hto
          obtain ⟨A6, c6, rfl⟩ := Kd.R_slice hto
          rw [HLN.out]
          have HSM := Aside0.mk (same_c A6 A2 c6 c2 l2 wr (Kd.R_reads' hto).2.2 (by have h := HSE2.out.src; rw [← HLN.out] at h; exact (Kd.R_reads' h).2.2) (by have := HL60.out; omega))
          rw [HLN.out] at HSM
          clear hgj hj hto
          go_wp2_with fail
          refine HSM.out.mono ?_
          rintro e w7 ⟨rfl, hb⟩
          have HSE3 := Aside0.mk (HSE2.out.on hb)
          clear hb HSM
          go_wp2_with fail
          refine (left_c' HL60.out HSE3.out).mono ?_
          rintro e w8 ⟨rfl, hse⟩
          rw [Nat.sub_self]
          have HSE4 := Aside0.mk hse
          clear hse
          go_wp2_with fail
          refine (step_c' HLR.out HL60.out HSE4.out).mono ?_
          rintro e w9 ⟨A7, c7, nx2, now2, rfl, hcc, hxx, hst, hnw, hse⟩
          have hz : ((l2.take nx2).drop l2.length) = [] := by rw [List.drop_eq_nil_iff, List.length_take]; omega
          rw [hz]
          have HB9 := Aside0.mk hse.below
          clear hcc hxx hst hnw hse hz
          go_wp2
          go_ret
          exact ⟨by first | rfl | simp, HB9.out⟩
set_option maxHeartbeats 3200000 in
set_option maxRecDepth 100000 in
theorem once_big (A B : Option Addr) (c cb n m : Nat) (a b d : Int) (w : World) (hn : n ≤ maxLen) (hm : m ≤ maxLen) (hbig : 60 < n ∨ (n ≤ 60 ∧ 60 < m)) :
    Calls Try.prog 6 #[.slice A n c, .agg #[.int .i64 a, .int .i64 b, .int .i64 d], .slice B m cb] w fun e w' => e = .returned (.bool true) ∧ Below w.heap.size w w' := by
  have hbi : (60 : Int) < n ∨ ((n : Int) ≤ 60 ∧ (60 : Int) < m) := by omega
  have h2 : (n : Int) ≤ 9223372036854775807 := by unfold maxLen at hn; omega
  have h3 : (m : Int) ≤ 9223372036854775807 := by unfold maxLen at hm; omega
  clear hbig hn hm
  go_enter Try.func6, Try.ntmps6
  go_wp2_with fail
  have hb0 := below_alloc (Below.refl w.heap.size w) (.cells #[.int .i64 a, .int .i64 b, .int .i64 d] 23)
  refine (fit_c _).mono ?_
  rintro e w1 ⟨rfl, hb⟩
  have HB := Aside0.mk (below_then hb0 (Nat.le_trans (Nat.le_refl _) hb0.size) hb)
  clear hb hb0
  rcases hbi with h | ⟨h, h4⟩
  · go_wp2
    go_ret
    exact ⟨rfl, HB.out⟩
  · go_wp2
    go_ret
    exact ⟨rfl, HB.out⟩
theorem row {w : World} (A : Option Addr) (c : Nat) (l : List S54) (hC : Kd.C k54 w A l.length l) (_ : l.length ≤ c) (_ : ∀ x ∈ l, EvOpen.evwf x) (a b d : Int) (_ : (Lit.int .i64 a).wf = true) (_ : (Lit.int .i64 b).wf = true) (_ : (Lit.int .i64 d).wf = true) (B : Option Addr) (cb : Nat) (ts : List SD) (hT : Kd.C kD w B ts.length ts) (_ : ts.length ≤ cb) (_ : ∀ x ∈ ts, deedwf x) :
    Calls Try.prog 6 #[.slice A l.length c, .agg #[.int .i64 a, .int .i64 b, .int .i64 d], .slice B ts.length cb] w fun e w' => e = .returned (.bool true) ∧ Below w.heap.size w w' := by
  by_cases h1 : 60 < l.length
  · exact once_big A B c cb _ _ a b d w (by have := hC.2.1; unfold maxLen; omega) (by have := hT.2.1; unfold maxLen; omega) (.inl h1)
  · by_cases h2 : 60 < ts.length
    · exact once_big A B c cb _ _ a b d w (by have := hC.2.1; unfold maxLen; omega) (by have := hT.2.1; unfold maxLen; omega) (.inr ⟨by omega, h2⟩)
    · exact once_small A B c cb l ts a b d w hC hT (by omega) (by omega)
end Go.Proofs.Ytmongghhagbokaa.PlOnce
