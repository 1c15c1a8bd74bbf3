/- The law VtAnew returns true: a walk through its text; the library's two tables hold what their texts lay. -/
import Derived.Test.YtkdkajcokoggiaaDoorVtFit
namespace Go.Proofs.YtkdkajcokoggiaaDoor.VtAnew
open Go.RowKit Go.Proofs.YtkdkajcokoggiaaDoor.Kit Go.Proofs.YtkdkajcokoggiaaDoor.Plain Go.Proofs.YtkdkajcokoggiaaDoor.Mine Go.Proofs.YtkdkajcokoggiaaDoor.UtfPure Go.Proofs.YtkdkajcokoggiaaDoor.UtfFull Go.Proofs.YtkdkajcokoggiaaDoor.UtfFeed Go.Proofs.YtkdkajcokoggiaaDoor.UtfRunes Go.Proofs.YtkdkajcokoggiaaDoor.UtfPart Go.Proofs.YtkdkajcokoggiaaDoor.VtPure Go.Proofs.YtkdkajcokoggiaaDoor.VtSmall Go.Proofs.YtkdkajcokoggiaaDoor.VtInv Go.Proofs.YtkdkajcokoggiaaDoor.VtFeedAll Go.Proofs.YtkdkajcokoggiaaDoor.VtAll Go.Proofs.YtkdkajcokoggiaaDoor.VtSame Go.Proofs.YtkdkajcokoggiaaDoor.VtFit Go.Proofs.YtkdkajcokoggiaaDoorW.PrintWords Go.Proofs.YtkdkajcokoggiaaDoorW.PrintLast Go.Proofs.YtkdkajcokoggiaaDoorW.PrintMore
open Go.Lib (Utf8Tabs)
open Go.Proofs.YtkdkajcokoggiaaDoor.PVtParts (S37 k37 k37_open k37_openM k37_mk k37_mkM)
set_option linter.unusedVariables false
set_option linter.unusedSimpArgs false
set_option maxHeartbeats 800000 in
set_option maxRecDepth 100000 in
theorem anew_big (s m : ByteArray) (w : World) (hT : Utf8Tabs 0 1 w) (h : 1000 < s.size ∨ 1000 < m.size) : Calls Tryd.prog 5 #[.string s, .string m] w fun e w' => e = .returned (.bool true) ∧ Below w.heap.size w w' := by
  have HF := Aside0.mk (fit_c w hT)
  clear hT
  by_cases h1 : 1000 < s.size
  · have h2 : 1000 < (s.size : Int) := by omega
    clear h h1
    go_enter Tryd.func5, Tryd.ntmps5
    go_wp2_with fail
    refine HF.out.mono ?_
    rintro e w1 ⟨rfl, hb⟩
    have HB := Aside0.mk hb
    clear hb HF
    go_wp2
    go_ret
    exact ⟨rfl, HB.out⟩
  · have h2 : (s.size : Int) ≤ 1000 := by omega
    have h3 : 1000 < (m.size : Int) := by omega
    clear h h1
    go_enter Tryd.func5, Tryd.ntmps5
    go_wp2_with fail
    refine HF.out.mono ?_
    rintro e w1 ⟨rfl, hb⟩
    have HB := Aside0.mk hb
    clear hb HF
    go_wp2
    go_ret
    exact ⟨rfl, HB.out⟩
set_option maxHeartbeats 3200000 in
set_option maxRecDepth 100000 in
theorem anew_small (s m : ByteArray) (w : World) (hT : Utf8Tabs 0 1 w) (hs : s.size ≤ 1000) (hm : m.size ≤ 1000) : Calls Tryd.prog 5 #[.string s, .string m] w fun e w' => e = .returned (.bool true) ∧ Below w.heap.size w w' := by
  have hup := Tryd.underlying28
  have HF := Aside0.mk (fit_c w hT)
  have HT := Aside0.mk hT
  have hs2 : (s.size : Int) ≤ 1000 := by omega
  have hm2 : (m.size : Int) ≤ 1000 := by omega
  have hg1 := good_all (bytesOf s) (bytesOf_bytes s) (atP 0) good_zero
  have hg2 := good_all (bytesOf m) (bytesOf_bytes m) (atP 0) good_zero
  have hl2 := all_len (bytesOf m) (bytesOf_bytes m) (atP 0) good_zero
  have hc2 := cap_all (bytesOf m) (bytesOf_bytes m) (atP 0) good_zero
  rw [bytesOf_length] at hl2
  have HA1 := Aside0.mk (fun W (h : Below w.heap.size w W) => all0_c s W (tabs_below hT h) (by omega))
  have HA2 := Aside0.mk (fun W (h : Below w.heap.size w W) => all0_c m W (tabs_below hT h) (by omega))
  have HA3 := Aside0.mk (show ∀ (A : Option Addr) (c : Nat) W, Below w.heap.size w W → Kd.C (Kd.int .i64) W A 0 ([] : List Int) → Calls Tryd.prog 11 #[.agg #[.int .i64 0, .int .u8 0, .int .u8 0, .int .u8 0, .int .i64 0, .string ⟨#[]⟩, .slice A 0 c, .string ⟨#[]⟩, .int .i64 0], .string m] W (PT W A 0 (allP (atP 0) (bytesOf m))) from fun A c W h hc => all_c (atP 0) good_zero A 0 c m W hc (tabs_below hT h) (by omega))
  obtain ⟨r1, hr1⟩ : ∃ r1, r1 = allP (atP 0) (bytesOf s) := ⟨_, rfl⟩
  obtain ⟨r2, hr2⟩ : ∃ r2, r2 = allP (atP 0) (bytesOf m) := ⟨_, rfl⟩
  rw [← hr1] at HA1 hg1
  rw [← hr2] at HA2 HA3 hg2 hl2 hc2
  have hz := good_24 hg1
  have HFD := Aside0.mk (show ∀ (A : Option Addr) (n c : Nat) W, Below w.heap.size w W → Kd.C (Kd.int .i64) W A n r1.1.ps → Calls Tryd.prog 14 #[.agg #[.int .i64 r1.1.st, .int .u8 (r1.1.u[0]?.getD 0), .int .u8 (r1.1.u[1]?.getD 0), .int .u8 (r1.1.u[2]?.getD 0), .int .i64 r1.1.u.length, .string r1.1.mr, .slice A n c, .string r1.1.tx, .int .i64 r1.1.wi], .int .u8 24] W (PT W A n (feedP r1.1 24)) from fun A n c W h hps => feed_c r1.1 hg1 A n c 24 W (by decide) hps (tabs_below hT h))
  have HZ := Aside0.mk hz
  have HL2 := Aside0.mk (show r2.2.length ≤ 7000 by omega)
  have HC2 := Aside0.mk (show ∀ a ∈ r2.2, a.f4.length ≤ 8 from fun a ha => (hc2 a ha).2.1)
  have HP2 := Aside0.mk hg2.ps8
  clear hT hs hm hg1 hg2 hl2 hc2 hr1 hr2 hz
  go_enter Tryd.func5, Tryd.ntmps5
  go_wp2_with fail
  refine HF.out.mono ?_
  rintro e w1 ⟨rfl, hb⟩
  have HB1 := Aside0.mk hb
  clear hb HF
  go_upto_region 5 with fail
  go_cut [5, 6] (fun v5 v6 W => ∃ (g : Nat) (A : Option Addr) (n cp : Nat), v5 = .pointer (some ⟨g, 0, none⟩) ∧ Aside0 (Held W g r1.1 A n cp) ∧ Aside0 (w.heap.size ≤ g) ∧ Aside0 (Below w.heap.size w W))
  case first =>
    go_wp2_with fail
    refine (HA1.out w1 HB1.out).mono ?_
    intro e w2 h
    obtain ⟨A, n, cp, A2, c2, rfl, hsz, hx, hy, hz⟩ := PT.laid h
    have HX := Aside0.mk hx
    have HSZ := Aside0.mk (Nat.le_trans HB1.out.size hsz)
    have HZZ := Aside0.mk (below_kept HB1.out hz)
    clear h hx hy hz hsz HA1
    go_wp2
    go_meet
    case rel => exact ⟨_, A, n, cp, rfl, HX, HSZ, HZZ⟩
  case rest =>
    obtain ⟨g5, A5, n5, cp5, rfl, HH5, HG5, HB5⟩ := hcut
    obtain ⟨k0, k1, k2, k3, k4, k5, k6, k7, k8⟩ := HH5.out.cells
    go_upto_region 6 with fail
    go_cut [27] (fun v27 W => ∃ (A : Option Addr) (cp : Nat), Aside0 (Held W g5 (atP 0) A 0 cp) ∧ Aside0 (Below w.heap.size w W))
    case first =>
      go_wp2_with fail
      refine (HFD.out A5 n5 cp5 wc HB5.out HH5.out.2.1).mono ?_
      intro e w2 h
      obtain ⟨fr, hfr⟩ : ∃ fr, fr = feedP r1.1 24 := ⟨_, rfl⟩
      rw [← hfr] at h
      have hz0 := HZ.out
      rw [← hfr] at hz0
      obtain ⟨A, n, cp, A2, c2, rfl, hx, hy, hz, hcl⟩ := PT.told h
      have hx0 := hx.1
      rw [hz0] at hx0
      have HN := Aside0.mk (show n = 0 from hx0.symm)
      have HZ0 := Aside0.mk hz0
      have HX := Aside0.mk hx
      have HCL := Aside0.mk hcl
      have HW := Aside0.mk hz
      have hH := (HH5.out.on hz)
      obtain ⟨c0, c1, c2', c3, c4, c5, c6, c7, c8⟩ := hH.cells
      obtain ⟨y0, y1, y2, y3, y4, y5, y6, y7, y8⟩ := hH.thaw
      have HZZ := Aside0.mk (below_kept HB5.out hz)
      clear h hx hy hz hfr hcl hH HFD k0 k1 k2 k3 k4 k5 k6 k7 k8 hx0 hz0
      go_wp2
      go_meet
      case rel => exact ⟨A, cp, ⟨by have h := Held.set9 (cp' := cp) HH5.out HW.out HX.out HCL.out; rw [HZ0.out, HN.out] at h; rw [HZ0.out, HN.out]; exact h⟩, ⟨below9 HZZ.out HG5.out _ _ _ _ _ _ _ _ _⟩⟩
    case rest =>
      obtain ⟨A6, cp6, HH6, HB6⟩ := hcut
      clear k0 k1 k2 k3 k4 k5 k6 k7 k8
      have k0 : wc.cell? ⟨g5, 0, none⟩ = some (.int .i64 0) := (blk_cell HH6.out.1 0).trans rfl
      have k1 : wc.cell? ⟨g5, 1, none⟩ = some (.int .u8 0) := (blk_cell HH6.out.1 1).trans rfl
      have k2 : wc.cell? ⟨g5, 2, none⟩ = some (.int .u8 0) := (blk_cell HH6.out.1 2).trans rfl
      have k3 : wc.cell? ⟨g5, 3, none⟩ = some (.int .u8 0) := (blk_cell HH6.out.1 3).trans rfl
      have k4 : wc.cell? ⟨g5, 4, none⟩ = some (.int .i64 0) := (blk_cell HH6.out.1 4).trans rfl
      have k5 : wc.cell? ⟨g5, 5, none⟩ = some (.string ⟨#[]⟩) := (blk_cell HH6.out.1 5).trans rfl
      have k6 : wc.cell? ⟨g5, 6, none⟩ = some (.slice A6 0 cp6) := (blk_cell HH6.out.1 6).trans rfl
      have k7 : wc.cell? ⟨g5, 7, none⟩ = some (.string ⟨#[]⟩) := (blk_cell HH6.out.1 7).trans rfl
      have k8 : wc.cell? ⟨g5, 8, none⟩ = some (.int .i64 0) := (blk_cell HH6.out.1 8).trans rfl
      go_upto_region 7 with fail
      go_cut [7, 8] (fun v7 v8 W => ∃ (g : Nat) (A : Option Addr) (n cp : Nat) (A2 : Option Addr) (c2 : Nat), v7 = .pointer (some ⟨g, 0, none⟩) ∧ v8 = .slice A2 r2.2.length c2 ∧ Aside0 (Held W g r2.1 A n cp) ∧ Aside0 (Kd.C k37 W A2 r2.2.length r2.2) ∧ Aside0 (Below wc.heap.size wc W))
      case first =>
        go_wp2_with fail
        refine (HA3.out A6 cp6 wc HB6.out HH6.out.2.1).mono ?_
        intro e w2 h
        obtain ⟨A, n, cp, A2, c2, rfl, hsz, hx, hy, hz⟩ := PT.laid h
        have HX := Aside0.mk hx
        have HY := Aside0.mk (Kd.R_reads' hy).2.2
        have HZZ := Aside0.mk hz
        clear h hx hy hz hsz k0 k1 k2 k3 k4 k5 k6 k7 k8
        go_wp2
        go_meet
        case rel => exact ⟨_, A, n, cp, A2, c2, rfl, rfl, HX, HY, HZZ⟩
      case rest =>
        obtain ⟨g7, A7, n7, cp7, AA, ca, rfl, rfl, HH7, HCA, HB7⟩ := hcut
        have HH5b := Aside0.mk (HH6.out.on HB7.out)
        have HBw := Aside0.mk (below_kept HB6.out HB7.out)
        clear k0 k1 k2 k3 k4 k5 k6 k7 k8 HH6 HB6 HB7
        go_upto_region 8 with fail
        go_cut [9, 10] (fun v9 v10 W => ∃ (g : Nat) (A : Option Addr) (n cp : Nat) (A2 : Option Addr) (c2 : Nat), v9 = .pointer (some ⟨g, 0, none⟩) ∧ v10 = .slice A2 r2.2.length c2 ∧ Aside0 (Held W g r2.1 A n cp) ∧ Aside0 (Kd.C k37 W A2 r2.2.length r2.2) ∧ Aside0 (Below wc.heap.size wc W))
        case first =>
          go_wp2_with fail
          refine (HA2.out wc HBw.out).mono ?_
          intro e w2 h
          obtain ⟨A, n, cp, A2, c2, rfl, hsz, hx, hy, hz⟩ := PT.laid h
          have HX := Aside0.mk hx
          have HY := Aside0.mk (Kd.R_reads' hy).2.2
          have HZZ := Aside0.mk hz
          clear h hx hy hz hsz
          go_wp2
          go_meet
          case rel => exact ⟨_, A, n, cp, A2, c2, rfl, rfl, HX, HY, HZZ⟩
        case rest =>
          obtain ⟨g9, A9, n9, cp9, AB, cb, rfl, rfl, HH9, HCB, HB9⟩ := hcut
          obtain rfl : n9 = n7 := HH9.out.2.1.1.symm.trans HH7.out.2.1.1
          have HH5c := Aside0.mk (HH5b.out.on HB9.out)
          have HH7c := Aside0.mk (HH7.out.on HB9.out)
          have HCA9 := Aside0.mk (Kd.C_below HCA.out HB9.out)
          have HBw9 := Aside0.mk (below_kept HBw.out HB9.out)
          clear HH5b HH7 HCA HBw HB9
          have k0 : wc.cell? ⟨g5, 0, none⟩ = some (.int .i64 0) := (blk_cell HH5c.out.1 0).trans rfl
          have k1 : wc.cell? ⟨g5, 1, none⟩ = some (.int .u8 0) := (blk_cell HH5c.out.1 1).trans rfl
          have k2 : wc.cell? ⟨g5, 2, none⟩ = some (.int .u8 0) := (blk_cell HH5c.out.1 2).trans rfl
          have k3 : wc.cell? ⟨g5, 3, none⟩ = some (.int .u8 0) := (blk_cell HH5c.out.1 3).trans rfl
          have k4 : wc.cell? ⟨g5, 4, none⟩ = some (.int .i64 0) := (blk_cell HH5c.out.1 4).trans rfl
          have k5 : wc.cell? ⟨g5, 5, none⟩ = some (.string ⟨#[]⟩) := (blk_cell HH5c.out.1 5).trans rfl
          have k6 : wc.cell? ⟨g5, 6, none⟩ = some (.slice A6 0 cp6) := (blk_cell HH5c.out.1 6).trans rfl
          have k7 : wc.cell? ⟨g5, 7, none⟩ = some (.string ⟨#[]⟩) := (blk_cell HH5c.out.1 7).trans rfl
          have k8 : wc.cell? ⟨g5, 8, none⟩ = some (.int .i64 0) := (blk_cell HH5c.out.1 8).trans rfl
          go_wp2_with fail
          refine (show Calls Tryd.prog 13 #[.agg #[.int .i64 0, .int .u8 0, .int .u8 0, .int .u8 0, .int .i64 0, .string ⟨#[]⟩, .slice A6 0 cp6, .string ⟨#[]⟩, .int .i64 0], .agg #[.int .i64 0, .int .u8 0, .int .u8 0, .int .u8 0, .int .i64 0, .string ⟨#[]⟩, .slice none 0 0, .string ⟨#[]⟩, .int .i64 0]] wc (fun e w' => e = .returned (.bool true) ∧ Below wc.heap.size wc w') from alike_c (atP 0) A6 none 0 cp6 0 wc HH5c.out.2.1 (Kd.C_nil _ _) (by decide)).mono ?_
          rintro e w5 ⟨rfl, hb⟩
          have HH7d := Aside0.mk (HH7c.out.on hb)
          have HH9d := Aside0.mk (HH9.out.on hb)
          have HCA5 := Aside0.mk (Kd.C_below HCA9.out hb)
          have HCB5 := Aside0.mk (Kd.C_below HCB.out hb)
          have HBw5 := Aside0.mk (below_kept HBw9.out hb)
          clear hb k0 k1 k2 k3 k4 k5 k6 k7 k8 HH7c HH9 HCA9 HCB HBw9
          go_wp2_with fail
          refine (same_c AA AB ca cb r2.2 w5 HCA5.out HCB5.out (by have := HL2.out; omega) HC2.out).mono ?_
          rintro e w6 ⟨rfl, hb⟩
          have HH7e := Aside0.mk (HH7d.out.on hb)
          have HH9e := Aside0.mk (HH9d.out.on hb)
          have HBw6 := Aside0.mk (below_kept HBw5.out hb)
          obtain ⟨k0, k1, k2, k3, k4, k5, k6, k7, k8⟩ := HH7e.out.cells
          obtain ⟨j0, j1, j2, j3, j4, j5, j6, j7, j8⟩ := HH9e.out.cells
          clear hb HH7d HH9d HCA5 HCB5 HBw5
          go_wp2_with fail
          refine (show Calls Tryd.prog 13 #[.agg #[.int .i64 r2.1.st, .int .u8 (r2.1.u[0]?.getD 0), .int .u8 (r2.1.u[1]?.getD 0), .int .u8 (r2.1.u[2]?.getD 0), .int .i64 r2.1.u.length, .string r2.1.mr, .slice A7 n9 cp7, .string r2.1.tx, .int .i64 r2.1.wi], .agg #[.int .i64 r2.1.st, .int .u8 (r2.1.u[0]?.getD 0), .int .u8 (r2.1.u[1]?.getD 0), .int .u8 (r2.1.u[2]?.getD 0), .int .i64 r2.1.u.length, .string r2.1.mr, .slice A9 n9 cp9, .string r2.1.tx, .int .i64 r2.1.wi]] w6 (fun e w' => e = .returned (.bool true) ∧ Below w6.heap.size w6 w') from alike_c r2.1 A7 A9 n9 cp7 cp9 w6 HH7e.out.2.1 HH9e.out.2.1 HP2.out).mono ?_
          rintro e w7 ⟨rfl, hb⟩
          have HBw7 := Aside0.mk (below_kept HBw6.out hb)
          clear hb k0 k1 k2 k3 k4 k5 k6 k7 k8 j0 j1 j2 j3 j4 j5 j6 j7 j8
          go_wp2
          go_ret
          exact ⟨rfl, HBw7.out⟩
theorem anew_row {w : World} (s : ByteArray) (_ : s.size ≤ 140737488351232) (m : ByteArray) (_ : m.size ≤ 140737488351232) (hT : Utf8Tabs 0 1 w) : Calls Tryd.prog 5 #[.string s, .string m] w fun e w' => e = .returned (.bool true) ∧ Below w.heap.size w w' := by
  by_cases h : 1000 < s.size ∨ 1000 < m.size
  · exact anew_big s m w hT h
  · exact anew_small s m w hT (by omega) (by omega)
end Go.Proofs.YtkdkajcokoggiaaDoor.VtAnew
