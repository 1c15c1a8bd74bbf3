/- The law VtCaps returns true: a walk through its text; the library's two tables hold what their texts lay. -/
import Derived.Test.YtkdkajcokoggiaaDoorVtFit
import Derived.Test.YtkdkajcokoggiaaDoorVtRightAll
namespace Go.Proofs.YtkdkajcokoggiaaDoor.VtCaps
open Go.RowKit Go.Proofs.YtkdkajcokoggiaaDoor.Kit Go.Proofs.YtkdkajcokoggiaaDoor.Plain Go.Proofs.YtkdkajcokoggiaaDoor.Mine Go.Proofs.YtkdkajcokoggiaaDoor.UtfPure Go.Proofs.YtkdkajcokoggiaaDoor.UtfFull Go.Proofs.YtkdkajcokoggiaaDoor.UtfFeed Go.Proofs.YtkdkajcokoggiaaDoor.UtfRunes Go.Proofs.YtkdkajcokoggiaaDoor.UtfPart Go.Proofs.YtkdkajcokoggiaaDoor.VtPure Go.Proofs.YtkdkajcokoggiaaDoor.VtSmall Go.Proofs.YtkdkajcokoggiaaDoor.VtInv Go.Proofs.YtkdkajcokoggiaaDoor.VtFeedAll Go.Proofs.YtkdkajcokoggiaaDoor.VtAll Go.Proofs.YtkdkajcokoggiaaDoor.VtSame Go.Proofs.YtkdkajcokoggiaaDoor.VtFit Go.Proofs.YtkdkajcokoggiaaDoor.VtRightC Go.Proofs.YtkdkajcokoggiaaDoorW.PrintWords Go.Proofs.YtkdkajcokoggiaaDoorW.PrintLast Go.Proofs.YtkdkajcokoggiaaDoorW.PrintMore
open Go.Lib (Utf8Tabs)
open Go.Proofs.YtkdkajcokoggiaaDoor.PVtParts (S37 k37 k37_open k37_openM k37_mk k37_mkM)
set_option linter.unusedVariables false
set_option linter.unusedSimpArgs false
set_option maxHeartbeats 800000 in
set_option maxRecDepth 100000 in
theorem caps_big (s : ByteArray) (w : World) (hT : Utf8Tabs 0 1 w) (h : 2000 < s.size) : Calls Tryd.prog 8 #[.string s] w fun e w' => e = .returned (.bool true) ∧ Below w.heap.size w w' := by
  have HF := Aside0.mk (fit_c w hT)
  have h2 : 2000 < (s.size : Int) := by omega
  clear h hT
  go_enter Tryd.func8, Tryd.ntmps8
  go_wp2_with fail
  refine HF.out.mono ?_
  rintro e w1 ⟨rfl, hb⟩
  have HB := Aside0.mk hb
  clear hb HF
  go_wp2
  go_ret
  exact ⟨rfl, HB.out⟩
set_option maxHeartbeats 6400000 in
set_option maxRecDepth 100000 in
theorem caps_small (s : ByteArray) (w : World) (hT : Utf8Tabs 0 1 w) (hs : s.size ≤ 2000) : Calls Tryd.prog 8 #[.string s] w fun e w' => e = .returned (.bool true) ∧ Below w.heap.size w w' := by
  have hup := Tryd.underlying28
  have hua := Tryd.underlying37
  have HF := Aside0.mk (fit_c w hT)
  have hsz : (s.size : Int) ≤ 2000 := by omega
  have HT := Aside0.mk hT
  clear hT hs
  go_enter Tryd.func8, Tryd.ntmps8
  go_wp2_with fail
  refine HF.out.mono ?_
  rintro e w1 ⟨rfl, hb⟩
  have HB1 := Aside0.mk hb
  clear hb HF
  go_upto_region 5 with fail
  go_cut [3] (fun v3 W => ∃ g : Nat, v3 = .pointer (some ⟨g, 0, none⟩) ∧ Aside0 (Held W g (atP 0) none 0 0) ∧ Aside0 (w.heap.size ≤ g) ∧ Aside0 (Below w.heap.size w W))
  case first =>
    go_wp2_with fail
    go_meet
    case rel => exact ⟨_, rfl, ⟨Held.new (v := atP 0) (A := none) (n := 0) (cp := 0) (Kd.C_nil _ _)⟩, ⟨HB1.out.size⟩, ⟨below_alloc HB1.out _⟩⟩
  case rest =>
    obtain ⟨g3, rfl, HH0, HG3, HB0⟩ := hcut
    go_wp2_with fail
    go_loopg [17] s.size (fun gk v17 W => ∃ (i : Nat) (v : PR) (A : Option Addr) (n cp : Nat), v17 = .int .i64 (i : Int) ∧ Aside0 (gk + i = s.size) ∧ Aside0 (PForm v) ∧ Aside0 (Held W g3 v A n cp) ∧ Aside0 (Below w.heap.size w W))
    case atStart => exact ⟨0, atP 0, none, 0, 0, rfl, ⟨by omega⟩, ⟨good_zero⟩, HH0, HB0⟩
    case round =>
      obtain ⟨i, v, A, n, cp, rfl, HGK, HFM, HH, HB⟩ := hrel
      have hgi := HGK.out
      by_cases hi : i < s.size
      · obtain ⟨g0, rfl⟩ : ∃ g0, gk = g0 + 1 := ⟨gk - 1, by omega⟩
        have hcb : (0 : Int) ≤ (s[i].toNat : Int) ∧ (s[i].toNat : Int) < 256 := ⟨by omega, by have := UInt8.toNat_lt s[i]; omega⟩
        obtain ⟨cI, hcI⟩ : ∃ cI, (s[i].toNat : Int) = cI := ⟨_, rfl⟩
        rw [hcI] at hcb
        have HGN := Aside0.mk (good_feed HFM.out hcb)
        have hfl := feed_len HFM.out cI
        have hcp := cap_feed HFM.out cI
        have HT3 := tabs_below HT.out (below_drew HB.out)
        have hfc := (show Calls Tryd.prog 14 #[.agg #[.int .i64 v.st, .int .u8 (v.u[0]?.getD 0), .int .u8 (v.u[1]?.getD 0), .int .u8 (v.u[2]?.getD 0), .int .i64 v.u.length, .string v.mr, .slice A n cp, .string v.tx, .int .i64 v.wi], .int .u8 cI] wr.drew (PT wr.drew A n (feedP v cI)) from feed_c v HFM.out A n cp cI wr.drew hcb HH.out.drew.2.1 HT3)
        obtain ⟨rr, hrr⟩ : ∃ rr, rr = feedP v cI := ⟨_, rfl⟩
        rw [← hrr] at hfc HGN hfl hcp
        have HFC := Aside0.mk (hfc.mono (fun e w5 h => PT.told h))
        have HFL := Aside0.mk hfl
        have HCP := Aside0.mk hcp
        have hil : (i : Int) < s.size := by omega
        obtain ⟨k0, k1, k2, k3, k4, k5, k6, k7, k8⟩ := HH.out.drew.cells
        clear hcb HT3 hfc hrr hfl hcp hgi
        go_upto_region 10 with fail
        refine start_ (n := 10) (S := fun w' => w'.cell? ⟨g3, 0, none⟩ = some (.int .i64 v.st) ∧ w'.cell? ⟨g3, 1, none⟩ = some (.int .u8 (v.u[0]?.getD 0)) ∧ w'.cell? ⟨g3, 2, none⟩ = some (.int .u8 (v.u[1]?.getD 0)) ∧ w'.cell? ⟨g3, 3, none⟩ = some (.int .u8 (v.u[2]?.getD 0)) ∧ w'.cell? ⟨g3, 4, none⟩ = some (.int .i64 v.u.length) ∧ w'.cell? ⟨g3, 5, none⟩ = some (.string v.mr) ∧ w'.cell? ⟨g3, 6, none⟩ = some (.slice A n cp) ∧ w'.cell? ⟨g3, 7, none⟩ = some (.string v.tx) ∧ w'.cell? ⟨g3, 8, none⟩ = some (.int .i64 v.wi)) (ds := [8]) #[false, false, false, false, false, false, false, false, false, false] (by kernel_rfl) rfl rfl ⟨k0, k1, k2, k3, k4, k5, k6, k7, k8⟩ (fun hHeld => ?_)
        refine pure_ (i := 1) (N := some 22) (v := ?_) (a' := ?_) #[false, true, false, false, false, false, false, false, false, false] rfl rfl (by kernel_rfl) (fun _ _ _ h => h) (Or.inl ⟨by rfl, ?_⟩) ?_ ?_
        rotate_left
        · intro w'
          go_simp
          with_reducible rfl
        rotate_left
        · simp only [Act.put, List.setIfInBounds_toArray, List.set_cons_zero, List.set_cons_succ, i64_w, i32_w]
          rfl
        refine pure_ (i := 2) (N := some 23) (v := ?_) (a' := ?_) #[false, true, true, false, false, false, false, false, false, false] rfl rfl (by kernel_rfl) (fun _ _ _ h => h) (Or.inl ⟨by rfl, ?_⟩) ?_ ?_
        rotate_left
        · intro w'
          go_simp
          with_reducible rfl
        rotate_left
        · simp only [Act.put, List.setIfInBounds_toArray, List.set_cons_zero, List.set_cons_succ, i64_w, i32_w]
          rfl
        refine take_ (i := 0) (N := some 21) (v := ?_) (a' := ?_) #[true, true, true, false, false, false, false, false, false, false] rfl rfl (by kernel_rfl) (fun _ _ _ h => h) (Or.inl ⟨by rfl, ?_⟩) hHeld ?_ ?_
        rotate_left
        · rintro w' ⟨s0, s1, s2, s3, s4, s5, s6, s7, s8⟩
          go_simp
          with_reducible rfl
        rotate_left
        · simp only [Act.put, List.setIfInBounds_toArray, List.set_cons_zero, List.set_cons_succ, i64_w, i32_w]
          rfl
        refine take_ (i := 3) (N := some 24) (v := ?_) (a' := ?_) #[true, true, true, true, false, false, false, false, false, false] rfl rfl (by kernel_rfl) (fun _ _ _ h => h) (Or.inl ⟨by rfl, ?_⟩) hHeld ?_ ?_
        rotate_left
        · rintro w' ⟨s0, s1, s2, s3, s4, s5, s6, s7, s8⟩
          go_simp
          with_reducible rfl
        rotate_left
        · simp only [Act.put, List.setIfInBounds_toArray, List.set_cons_zero, List.set_cons_succ, i64_w, i32_w]
          rfl
        refine one_ (i := 4) (N := some 25) #[true, true, true, true, true, false, false, false, false, false] rfl rfl (by kernel_rfl) (by decide) (fun K hK => ?_)
        refine goes_ Tryd.func14 (by kernel_rfl) rfl #[.agg #[.int .i64 v.st, .int .u8 (v.u[0]?.getD 0), .int .u8 (v.u[1]?.getD 0), .int .u8 (v.u[2]?.getD 0), .int .i64 v.u.length, .string v.mr, .slice A n cp, .string v.tx, .int .i64 v.wi], .int .u8 cI] (by rfl) rfl rfl (by simp only [List.map_toArray, List.map_cons, List.map_nil]; rfl) ?_
        with_reducible refine (HFC.out).mono ?_
        rintro e w5 ⟨A5, n5, cp5, AA, ca, rfl, hx5, hy5, hz5, hcl5⟩
        refine ⟨_, rfl, ?_⟩
        have HX5 := Aside0.mk hx5
        have HY5 := Aside0.mk hy5
        have HZ5 := Aside0.mk hz5
        have HCL5 := Aside0.mk hcl5
        have HH5 := Aside0.mk (HH.out.drew.on hz5)
        clear hx5 hy5 hz5 hcl5
        obtain ⟨c0, c1, c2, c3, c4, c5, c6, c7, c8⟩ := HH5.out.cells
        obtain ⟨f0, f1, f2, f3, f4, f5, f6, f7, f8⟩ := HH5.out.thaw
        refine hK.out _ _ ⟨c0, c1, c2, c3, c4, c5, c6, c7, c8⟩ (fun hHeld => ?_)
        clear hK K
        refine norm_ (a' := ?_) ?_ ?_
        rotate_left
        · show Act.put _ (some 25) _ = _
          simp only [Act.put, List.setIfInBounds_toArray, List.set_cons_zero, List.set_cons_succ, i64_w, i32_w]
          rfl
        refine pure_ (i := 5) (N := some 20) (v := ?_) (a' := ?_) #[true, true, true, true, true, true, false, false, false, false] rfl rfl (by kernel_rfl) (fun _ _ _ h => h) (Or.inl ⟨by rfl, ?_⟩) ?_ ?_
        rotate_left
        · intro w'
          go_simp
          with_reducible rfl
        rotate_left
        · simp only [Act.put, List.setIfInBounds_toArray, List.set_cons_zero, List.set_cons_succ, i64_w, i32_w]
          rfl
        refine pure_ (i := 6) (N := some 26) (v := ?_) (a' := ?_) #[true, true, true, true, true, true, true, false, false, false] rfl rfl (by kernel_rfl) (fun _ _ _ h => h) (Or.inl ⟨by rfl, ?_⟩) ?_ ?_
        rotate_left
        · intro w'
          go_simp
          with_reducible rfl
        rotate_left
        · simp only [Act.put, List.setIfInBounds_toArray, List.set_cons_zero, List.set_cons_succ, i64_w, i32_w]
          rfl
        refine pure_ (i := 7) (N := some 27) (v := ?_) (a' := ?_) #[true, true, true, true, true, true, true, true, false, false] rfl rfl (by kernel_rfl) (fun _ _ _ h => h) (Or.inl ⟨by rfl, ?_⟩) ?_ ?_
        rotate_left
        · intro w'
          go_simp
          with_reducible rfl
        rotate_left
        · simp only [Act.put, List.setIfInBounds_toArray, List.set_cons_zero, List.set_cons_succ, i64_w, i32_w]
          rfl
        refine last_ (i := 8) (N := none) #[true, true, true, true, true, true, true, true, true, false] rfl rfl (by kernel_rfl) (by decide) (fun K hK => ?_)
        refine skip_ (w1 := ?_) (by rfl) rfl ?_ ?_
        rotate_left
        · go_simp
          rfl
        refine hK.out _ _ ?_
        clear hK K
        refine pure_ (i := 9) (N := some 5) (v := ?_) (a' := ?_) #[true, true, true, true, true, true, true, true, true, true] rfl rfl (by kernel_rfl) (fun _ _ _ h => h) (Or.inl ⟨by rfl, ?_⟩) ?_ ?_
        rotate_left
        · intro w'
          go_simp
          with_reducible rfl
        rotate_left
        · simp only [Act.put, List.setIfInBounds_toArray, List.set_cons_zero, List.set_cons_succ, i64_w, i32_w]
          rfl
        refine done_ (by kernel_rfl) ?_
        obtain ⟨w6, hw6⟩ : ∃ w6, w6 = ((((((((w5.setCell ⟨g3, 0, none⟩ (.int .i64 rr.1.st)).setCell ⟨g3, 1, none⟩ (.int .u8 (rr.1.u[0]?.getD 0))).setCell ⟨g3, 2, none⟩ (.int .u8 (rr.1.u[1]?.getD 0))).setCell ⟨g3, 3, none⟩ (.int .u8 (rr.1.u[2]?.getD 0))).setCell ⟨g3, 4, none⟩ (.int .i64 rr.1.u.length)).setCell ⟨g3, 5, none⟩ (.string rr.1.mr)).setCell ⟨g3, 6, none⟩ (.slice A5 n5 cp5)).setCell ⟨g3, 7, none⟩ (.string rr.1.tx)).setCell ⟨g3, 8, none⟩ (.int .i64 rr.1.wi) := ⟨_, rfl⟩
        have hk : KeepBut w5 w6 g3 none := by rw [hw6]; exact keep9 w5 g3 _ _ _ _ _ _ _ _ _
        have hh6 : Held w6 g3 rr.1 A5 n5 cp5 := by rw [hw6]; exact Held.set9 HH.out.drew HZ5.out HX5.out HCL5.out
        have hb6 := below9 (below_kept (below_drew HB.out) HZ5.out) HG3.out (.int .i64 rr.1.st) (.int .u8 (rr.1.u[0]?.getD 0)) (.int .u8 (rr.1.u[1]?.getD 0)) (.int .u8 (rr.1.u[2]?.getD 0)) (.int .i64 rr.1.u.length) (.string rr.1.mr) (.slice A5 n5 cp5) (.string rr.1.tx) (.int .i64 rr.1.wi)
        rw [← hw6] at hb6
        have hglt : g3 < wr.drew.heap.size := blk_lt HH.out.1
        have hy6 := Kd.R_keep HY5.out hk (fun k h => by have := h.1; omega)
        have HY6 := Aside0.mk (Kd.R_reads' hy6).2.2
        have HH6 := Aside0.mk hh6
        have HB6 := Aside0.mk hb6
        have hm2 : (rr.1.mr.size : Int) ≤ 2 := by have := HGN.out.mr2; omega
        have hn8 : (n5 : Int) ≤ 8 := by have := HGN.out.ps8; have := hh6.2.1.1; omega
        have ht40 : (rr.1.tx.size : Int) ≤ 40 := by have := HGN.out.tx40; omega
        have j5 : w6.cell? ⟨g3, 5, none⟩ = some (.string rr.1.mr) := hh6.cells.2.2.2.2.2.1
        have j6 : w6.cell? ⟨g3, 6, none⟩ = some (.slice A5 n5 cp5) := hh6.cells.2.2.2.2.2.2.1
        have j7 : w6.cell? ⟨g3, 7, none⟩ = some (.string rr.1.tx) := hh6.cells.2.2.2.2.2.2.2.1
        rw [← hw6]
        clear hw6 hk hh6 hb6 hglt hy6 c0 c1 c2 c3 c4 c5 c6 c7 c8 f0 f1 f2 f3 f4 f5 f6 f7 f8 k0 k1 k2 k3 k4 k5 k6 k7 k8 hHeld HFC HX5 HY5 HZ5 HCL5 HH5 HH HB hcI hi
        go_wp2_with fail
        go_loopg [46] rr.2.length (fun gk v46 W => ∃ j : Nat, v46 = .int .i64 (j : Int) ∧ Aside0 (gk + j = rr.2.length) ∧ Aside0 (Below w6.heap.size w6 W))
        case atStart => exact ⟨0, rfl, ⟨by omega⟩, ⟨Below.refl _ _⟩⟩
        case round =>
          obtain ⟨j, rfl, HGJ, HBJ⟩ := hrel
          have hgj := HGJ.out
          have hl7 : (rr.2.length : Int) ≤ 7 := by have := HFL.out; omega
          clear j5 j6 j7
          by_cases hj : j < rr.2.length
          · obtain ⟨g1, rfl⟩ : ∃ g1, gk = g1 + 1 := ⟨gk - 1, by omega⟩
            have hcap := HCP.out rr.2[j] (List.getElem_mem hj)
            obtain ⟨ad, A6, c6, ead, hc0, hc1, hc2, hc3, hc4, hc5, hC6⟩ := at_act (Kd.C_below HY6.out HBJ.out) j hj
            obtain ⟨x, hx⟩ : ∃ x, x = rr.2[j] := ⟨_, rfl⟩
            rw [← hx] at hc0 hc1 hc2 hc3 hc4 hc5 hC6 hcap
            obtain ⟨x0, x1, x2, x3, x4, x5⟩ := x
            dsimp only at hc0 hc1 hc2 hc3 hc4 hc5 hC6
            obtain ⟨hz3, hz4, hzb, hz5⟩ := hcap
            dsimp only at hz3 hz4 hzb hz5
            have HX4 := Aside0.mk hC6
            have HZB := Aside0.mk hzb
            have hx3 : (x3.size : Int) ≤ 2 := by omega
            have hx4 : (x4.length : Int) ≤ 8 := by omega
            have hx5 : (x5.size : Int) ≤ 40 := by omega
            have hjl : (j : Int) < rr.2.length := by omega
            obtain ⟨pl, hpl⟩ : ∃ pl, pl = x4.length := ⟨_, rfl⟩
            rw [← hpl] at hc4 hx4 HX4
            have HPL := Aside0.mk hpl
            subst ead
            clear hx hC6 hz3 hz4 hzb hz5 hj hgj hpl
            go_upto_region 15 with fail
            go_cut [7] (fun v7 W => ∃ gx : Nat, v7 = .pointer (some ⟨gx, 0, none⟩) ∧ Aside0 (W.heap[gx]? = some (.cells #[.int .i64 x0, .int .i32 x1, .int .u8 x2, .string x3, .slice A6 pl c6, .string x5] 37 (0, 0))) ∧ Aside0 (Below wr.heap.size wr W))
            case first =>
              go_wp2
              go_meet
              case rel => exact ⟨_, rfl, ⟨blk_new _ _⟩, ⟨below_alloc (Below.refl _ _) _⟩⟩
            case rest =>
              obtain ⟨gx, rfl, HGX, HB1⟩ := hcut
              have HBJ1 := Aside0.mk (HBJ.out.trans (HB1.out.mono HBJ.out.size))
              have HX41 := Aside0.mk (Kd.C_below HX4.out HB1.out)
              have q3 : wc.cell? ⟨gx, 3, none⟩ = some (.string x3) := (blk_cell HGX.out 3).trans rfl
              have q4 : wc.cell? ⟨gx, 4, none⟩ = some (.slice A6 pl c6) := (blk_cell HGX.out 4).trans rfl
              have q5 : wc.cell? ⟨gx, 5, none⟩ = some (.string x5) := (blk_cell HGX.out 5).trans rfl
              clear hc0 hc1 hc2 hc3 hc4 hc5
              go_wp2_with fail
              go_loopg [69] pl (fun gk v69 W => ∃ k : Nat, v69 = .int .i64 (k : Int) ∧ Aside0 (gk + k = pl) ∧ W = wc)
              case atStart => exact ⟨0, rfl, ⟨by omega⟩, rfl⟩
              case round =>
                obtain ⟨k, rfl, HGN2, rfl⟩ := hrel
                have hgk := HGN2.out
                clear q3 q4 q5
                by_cases hk : k < pl
                · obtain ⟨g2, rfl⟩ : ∃ g2, gk = g2 + 1 := ⟨gk - 1, by omega⟩
                  obtain ⟨adn, ean, hcn⟩ := Kd.at_int HX41.out (k : Int) (by omega) (by omega)
                  have hyb := HZB.out (rd x4 (k : Int)) (by
                    unfold rd
                    rw [Int.toNat_natCast, List.getD_eq_getElem?_getD, List.getElem?_eq_getElem (by have := HPL.out; omega)]
                    exact List.getElem_mem _)
                  obtain ⟨y, hy⟩ : ∃ y, y = rd x4 (k : Int) := ⟨_, rfl⟩
                  rw [Int.toNat_natCast, ← hy] at hcn
                  rw [← hy] at hyb
                  have hy0 : (0 : Int) ≤ y := hyb.1
                  have hy9 : y ≤ 9999 := hyb.2
                  have hkl : (k : Int) < pl := by omega
                  subst ean
                  clear hy hyb hk hgk
                  go_wp2_with fail
                  go_roundg g2
                  case measure => omega
                  case rel => exact ⟨k + 1, by first | go_num | (congr 1; unfold wrap64; omega), ⟨by have := HGN2.out; omega⟩, rfl⟩
                · have hkl : (pl : Int) ≤ k := by omega
                  clear hk hgk
                  go_wp2_with fail
                  go_roundg g1
                  case measure => omega
                  case rel => exact ⟨j + 1, by first | go_num | (congr 1; unfold wrap64; omega), ⟨by have := HGJ.out; omega⟩, HBJ1⟩
          · have hjl : (rr.2.length : Int) ≤ j := by omega
            clear hj hgj
            go_wp2_with fail
            go_roundg g0
            case measure => omega
            case rel => exact ⟨i + 1, rr.1, A5, n5, cp5, by first | go_num | (congr 1; unfold wrap64; omega), ⟨by have := HGK.out; omega⟩, HGN, ⟨HH6.out.on HBJ.out⟩, ⟨below_kept HB6.out HBJ.out⟩⟩
      · have hil : (s.size : Int) ≤ i := by omega
        obtain ⟨k0, k1, k2, k3, k4, k5, k6, k7, k8⟩ := HH.out.cells
        clear hgi hi
        go_wp2_with fail
        refine (form_c v HFM.out A n cp wr HH.out.2.1 (tabs_below HT.out HB.out)).mono ?_
        rintro e w5 ⟨rfl, hb⟩
        have HB5 := Aside0.mk (below_kept HB.out hb)
        clear hb k0 k1 k2 k3 k4 k5 k6 k7 k8
        go_wp2
        go_ret
        exact ⟨rfl, HB5.out⟩
theorem caps_row {w : World} (s : ByteArray) (_ : s.size ≤ 140737488351232) (hT : Utf8Tabs 0 1 w) : Calls Tryd.prog 8 #[.string s] w fun e w' => e = .returned (.bool true) ∧ Below w.heap.size w w' := by
  by_cases h : 2000 < s.size
  · exact caps_big s w hT h
  · exact caps_small s w hT (by omega)
end Go.Proofs.YtkdkajcokoggiaaDoor.VtCaps
