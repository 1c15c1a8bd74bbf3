/- The law VtPlain returns true: a walk through its text; the library's two tables hold what their texts lay. -/
import Derived.Test.YtkdkajcokoggiaaDoorVtFit
import Derived.Test.YtkdkajcokoggiaaDoorVtTexts
import Derived.Laws.Cover4
namespace Go.Proofs.YtkdkajcokoggiaaDoor.VtPlain
open Go.RowKit Go.Proofs.YtkdkajcokoggiaaDoor.Kit Go.Proofs.YtkdkajcokoggiaaDoor.Plain Go.Proofs.YtkdkajcokoggiaaDoor.Mine Go.Proofs.YtkdkajcokoggiaaDoor.UtfPure Go.Proofs.YtkdkajcokoggiaaDoor.UtfFull Go.Proofs.YtkdkajcokoggiaaDoor.UtfFeed Go.Proofs.YtkdkajcokoggiaaDoor.UtfRunes Go.Proofs.YtkdkajcokoggiaaDoor.UtfPart Go.Proofs.YtkdkajcokoggiaaDoor.VtPure Go.Proofs.YtkdkajcokoggiaaDoor.VtSmall Go.Proofs.YtkdkajcokoggiaaDoor.VtInv Go.Proofs.YtkdkajcokoggiaaDoor.VtFeedAll Go.Proofs.YtkdkajcokoggiaaDoor.VtAll Go.Proofs.YtkdkajcokoggiaaDoor.VtSame Go.Proofs.YtkdkajcokoggiaaDoor.VtFit Go.Proofs.YtkdkajcokoggiaaDoor.VtTexts Go.Proofs.YtkdkajcokoggiaaDoorW.PrintWords Go.Proofs.YtkdkajcokoggiaaDoorW.PrintLast Go.Proofs.YtkdkajcokoggiaaDoorW.PrintMore
open Go.Lib (Utf8Tabs)
open Go.Proofs.YtkdkajcokoggiaaDoor.PVtParts (S37 k37 k37_open k37_openM k37_mk k37_mkM)
set_option linter.unusedVariables false
set_option linter.unusedSimpArgs false
/-- What a parser tells of plain text: its runes, but for what is under way. -/
theorem got_runes (bs : List Int) (hb : ∀ b ∈ bs, 32 ≤ b ∧ b < 256 ∧ b ≠ 127) : allP (atP 0) bs = ({ atP 0 with u := (feedAll [] bs).2 }, printedP (feedAll [] bs).1) := plain_all bs hb [] part_nil
theorem conv_runes {W : World} {A : Option Addr} {n c : Nat} {xs : List Int} (h : Kd.C (Kd.int .i32) W A n xs) : (convert 35 9 (.slice A n c)).run Tryd.prog W = .ok (.string (runesBytes xs)) W := by
  have hr := Kd.reads_of_C (enc := Value.int .i32) (d := (0 : Int)) (h1 := fun _ => rfl) h
  obtain rfl : xs.length = n := hr.1
  rcases A with _ | ad
  · have h0 : xs.length = 0 := by
      rcases Nat.eq_zero_or_pos xs.length with h0 | h0
      · exact h0
      · obtain ⟨ad, h', _⟩ := hr.2.2 h0
        cases h'
    obtain rfl : xs = [] := List.eq_nil_of_length_eq_zero h0
    exact run_convert_runes_nil W _ _ _ _ _ Tryd.underlying35 Tryd.underlying21 Tryd.underlying9
  · have h2 := run_convert_runes W 35 9 21 ad xs.length c xs (Nat.le_refl _) Tryd.underlying35 Tryd.underlying21 Tryd.underlying9 (fun j hj => by
      obtain ⟨ad', he', hc⟩ := hr.2.2 (by omega)
      injection he' with he'
      subst he'
      exact hc j hj)
    rw [List.take_length] at h2
    exact h2
set_option maxHeartbeats 800000 in
set_option maxRecDepth 100000 in
theorem plain_big (s : ByteArray) (w : World) (hT : Utf8Tabs 0 1 w) (h : 1000 < s.size) : Calls Tryd.prog 4 #[.string s] w fun e w' => e = .returned (.bool true) ∧ Below w.heap.size w w' := by
  have HF := Aside0.mk (fit_c w hT)
  have h2 : 1000 < (s.size : Int) := by omega
  clear h hT
  go_enter Tryd.func4, Tryd.ntmps4
  go_wp2_with fail
  refine HF.out.mono ?_
  rintro e w1 ⟨rfl, hb⟩
  have HB := Aside0.mk hb
  clear hb HF
  go_wp2
  go_ret
  exact ⟨rfl, HB.out⟩
set_option maxHeartbeats 6400000 in
set_option maxRecDepth 100000 in
theorem plain_small (s : ByteArray) (w : World) (hT : Utf8Tabs 0 1 w) (hs : s.size ≤ 1000) : Calls Tryd.prog 4 #[.string s] w fun e w' => e = .returned (.bool true) ∧ Below w.heap.size w w' := by
  have hup := Tryd.underlying28
  have hua := Tryd.underlying37
  have HF := Aside0.mk (fit_c w hT)
  have hsz : (s.size : Int) ≤ 1000 := by omega
  have HA := Aside0.mk (fun W (h : Below w.heap.size w W) => all0_c s W (tabs_below hT h) (by omega))
  have HRR := Aside0.mk (fun W => run_runes W s (by omega))
  have HSZ := Aside0.mk hs
  clear hT hs
  go_enter Tryd.func4, Tryd.ntmps4
  go_wp2_with fail
  refine HF.out.mono ?_
  rintro e w1 ⟨rfl, hb⟩
  have HB1 := Aside0.mk hb
  clear hb HF
  go_wp2_with fail
  go_loopg [16] s.size (fun gk v16 W => ∃ i : Nat, v16 = .int .i64 (i : Int) ∧ Aside0 (gk + i = s.size) ∧ Aside0 (Below w.heap.size w W) ∧ Aside0 (∀ (j : Nat) (h : j < s.size), j < i → 32 ≤ s[j].toNat ∧ s[j].toNat ≠ 127))
  case atStart => exact ⟨0, rfl, ⟨by omega⟩, HB1, ⟨fun j _ h => absurd h (Nat.not_lt_zero _)⟩⟩
  case round =>
    obtain ⟨i, rfl, HG, HB, HALL⟩ := hrel
    have hgi := HG.out
    by_cases hi : i < s.size
    · obtain ⟨g0, rfl⟩ : ∃ g0, gk = g0 + 1 := ⟨gk - 1, by omega⟩
      have hil : (i : Int) < s.size := by omega
      obtain ⟨c, hc⟩ : ∃ c : Int, (s[i].toNat : Int) = c := ⟨_, rfl⟩
      have HC := Aside0.mk hc
      by_cases h32 : c < 32
      · clear hgi
        go_wp2
        go_ret
        exact ⟨rfl, HB.out⟩
      · by_cases h127 : c = 127
        · subst h127
          clear hgi
          go_wp2
          go_ret
          exact ⟨rfl, HB.out⟩
        · have h32' : 32 ≤ c := by omega
          have hne : (c == 127) = false := beq_eq_false_iff_ne.mpr h127
          have HNE := Aside0.mk h127
          clear hgi h127 h32
          go_wp2_with fail
          go_roundg g0
          case measure => omega
          case rel => exact ⟨i + 1, by first | go_num | (congr 1; unfold wrap64; omega), ⟨by have := HG.out; omega⟩, HB, ⟨fun j hj hji => by
            rcases Nat.lt_or_ge j i with h | h
            · exact HALL.out j hj h
            · obtain rfl : j = i := by omega
              have h1 := HC.out
              have h2 := HNE.out
              omega⟩⟩
    · have hil : (s.size : Int) ≤ i := by omega
      have hpl : ∀ b ∈ bytesOf s, 32 ≤ b ∧ b < 256 ∧ b ≠ 127 := fun b hb => by
        obtain ⟨j, hj, e⟩ := List.getElem_of_mem hb
        have hj2 : j < s.size := by rw [← bytesOf_length s]; exact hj
        have h1 := bytesOf_get s j hj2 hj
        have h2 := HALL.out j hj2 (by omega)
        have h3 := (bytesOf_bytes s b hb).2
        omega
      have hgot := got_runes (bytesOf s) hpl
      have hwh := feedAll_whole (bytesOf s) (bytesOf_bytes s)
      have hpt := feedAll_part (bytesOf s) (bytesOf_bytes s) [] part_nil
      have hln := feedAll_len (bytesOf s) (bytesOf_bytes s) [] part_nil
      rw [bytesOf_length] at hln
      rw [hgot] at HA
      obtain ⟨D, hD⟩ : ∃ D, D = feedAll [] (bytesOf s) := ⟨_, rfl⟩
      rw [← hD] at HA hwh hpt hln
      obtain ⟨rs, us⟩ := D
      obtain ⟨ru, hru⟩ : ∃ ru, ru = runes (bytesOf s) := ⟨_, rfl⟩
      rw [← hru] at hwh HRR
      dsimp only at HA hwh hpt hln
      obtain ⟨P, hP⟩ : ∃ P : PR, P = { atP 0 with u := us } := ⟨_, rfl⟩
      rw [← hP] at HA
      have HP0 := Aside0.mk (show P.st = 0 from by rw [hP]; rfl)
      have HPU := Aside0.mk (show P.u.length = us.length from by rw [hP])
      have HWH := Aside0.mk hwh
      have HU3 := Aside0.mk hpt.2.2
      have HLN := Aside0.mk (show rs.length ≤ 4000 from by have := HSZ.out; omega)
      have hrs4 : (rs.length : Int) ≤ 4000 := by have := HLN.out; omega
      have hus3 : (us.length : Int) ≤ 3 := by have := HU3.out; omega
      have hpl2 : (printedP rs).length = rs.length := by unfold printedP; rw [List.length_map]
      clear hgi hi hpl hgot hwh hpt hln hD hru hP HALL HG
      go_upto_region 11 with fail
      go_cut [4, 5] (fun v4 v5 W => ∃ (g : Nat) (A : Option Addr) (n cp : Nat) (A2 : Option Addr) (c2 : Nat), v4 = .pointer (some ⟨g, 0, none⟩) ∧ v5 = .slice A2 rs.length c2 ∧ Aside0 (Held W g P A n cp) ∧ Aside0 (Kd.C k37 W A2 (printedP rs).length (printedP rs)) ∧ Aside0 (Below w.heap.size w W))
      case first =>
        go_wp2_with fail
        refine (HA.out wr HB.out).mono ?_
        intro e w2 h
        obtain ⟨A, n, cp, A2, c2, rfl, hsz, hx, hy, hz⟩ := PT.laid h
        rw [show ((P, printedP rs) : PR × List S37).2.length = rs.length from hpl2]
        have HX := Aside0.mk hx
        have HY := Aside0.mk (Kd.R_reads' hy).2.2
        have HZZ := Aside0.mk (below_kept HB.out hz)
        clear h hx hy hz hsz HA hpl2
        go_wp2
        go_meet
        case rel => exact ⟨_, A, n, cp, A2, c2, rfl, rfl, HX, HY, HZZ⟩
      case rest =>
        obtain ⟨g4, A4, n4, cp4, A5, c5, rfl, rfl, HH, HC5, HB2⟩ := hcut
        obtain ⟨wb, hwb⟩ : ∃ wb, wb = wc := ⟨_, rfl⟩
        subst hwb
        go_wp2_with fail
        go_loopg [6, 38] rs.length (fun gk v6 v38 W => ∃ (i : Nat) (u : Value), u = v6 ∧ v38 = .int .i64 (i : Int) ∧ Aside0 (gk + i = rs.length) ∧ Aside0 (Kd.R (Kd.int .i32) 21 W wb.heap.size (fun _ => True) u (rs.take i)) ∧ Aside0 (Below wb.heap.size wb W))
        case atStart => exact ⟨0, _, rfl, rfl, ⟨by omega⟩, ⟨Kd.R_nil _ _ _ _ _⟩, ⟨Below.refl _ _⟩⟩
        case round =>
          obtain ⟨i2, u, rfl, rfl, HG, HO, HBL⟩ := hrel
          have hgi := HG.out
          by_cases hi : i2 < rs.length
          · obtain ⟨g0, rfl⟩ : ∃ g0, gk = g0 + 1 := ⟨gk - 1, by omega⟩
            have hi2 : i2 < (printedP rs).length := by rw [hpl2]; exact hi
            obtain ⟨ad, A6, c6, ead, hc0, hc1, hc2, hc3, hc4, hc5, -⟩ := at_act (Kd.C_below HC5.out HBL.out) i2 hi2
            have ex : (printedP rs)[i2] = printA rs[i2] := by simp [printedP]
            rw [ex] at hc0 hc1 hc2 hc3 hc4 hc5
            obtain ⟨x, hx⟩ : ∃ x, x = rs[i2] := ⟨_, rfl⟩
            rw [← hx] at hc0 hc1 hc2 hc3 hc4 hc5
            have p0 : wr.cell? (ad.add (i2 * 6)) = some (.int .i64 0) := hc0
            have p1 : wr.cell? ⟨(ad.add (i2 * 6)).block, (ad.add (i2 * 6)).off + 1, none⟩ = some (.int .i32 x) := hc1
            have p2 : wr.cell? ⟨(ad.add (i2 * 6)).block, (ad.add (i2 * 6)).off + 2, none⟩ = some (.int .u8 0) := hc2
            have p3 : wr.cell? ⟨(ad.add (i2 * 6)).block, (ad.add (i2 * 6)).off + 3, none⟩ = some (.string ⟨#[]⟩) := hc3
            have p4 : wr.cell? ⟨(ad.add (i2 * 6)).block, (ad.add (i2 * 6)).off + 4, none⟩ = some (.slice A6 0 c6) := hc4
            have p5 : wr.cell? ⟨(ad.add (i2 * 6)).block, (ad.add (i2 * 6)).off + 5, none⟩ = some (.string ⟨#[]⟩) := hc5
            have HTK := Aside0.mk (show rs.take i2 ++ [x] = rs.take (i2 + 1) from by rw [List.take_succ_eq_append_getElem hi, hx])
            have HXL := Aside0.mk (show ((rs.take i2).length + 1) * 4 ≤ 140737488355328 from by rw [List.length_take]; have := HLN.out; omega)
            have hil2 : (i2 : Int) < rs.length := by omega
            subst ead
            clear hc0 hc1 hc2 hc3 hc4 hc5 ex hx hi hi2 hgi
            go_upto_region 15 with fail
            go_cut [8] (fun v8 W => ∃ gx : Nat, v8 = .pointer (some ⟨gx, 0, none⟩) ∧ Aside0 (W.heap[gx]? = some (.cells #[.int .i64 0, .int .i32 x, .int .u8 0, .string ⟨#[]⟩, .slice A6 0 c6, .string ⟨#[]⟩] 37 (0, 0))) ∧ Aside0 (Below wr.heap.size wr W))
            case first =>
              go_wp2
              go_meet
              case rel => exact ⟨_, rfl, ⟨blk_new _ _⟩, ⟨below_alloc (Below.refl _ _) _⟩⟩
            case rest =>
              obtain ⟨gx, rfl, HGX, HB1⟩ := hcut
              have HO1 := Aside0.mk (Kd.R_below HO.out HB1.out)
              have HBL1 := Aside0.mk (Below.trans HBL.out (Below.mono HB1.out HBL.out.size))
              have q0 : wc.cell? ⟨gx, 0, none⟩ = some (.int .i64 0) := (blk_cell HGX.out 0).trans rfl
              have q1 : wc.cell? ⟨gx, 1, none⟩ = some (.int .i32 x) := (blk_cell HGX.out 1).trans rfl
              clear p0 p1 p2 p3 p4 p5
              go_wp2_with (first
                | ((with_reducible refine gate_builtin (b := .append) (xs := #[.tmp 45, .tmp 48]) rfl ?_); at_builtin; go_must ((refine Kd.R_append (Kd.int .i32) (w0 := wb) wb.heap.size rfl (.tmp 45) (.tmp 48) 35 21 (.int .i32 0) 4 rfl Tryd.underlying35 info_i32 rfl (by decide) (by omega) u (rs.take i2) (x) [.int .i32 (x)] (fun _ => True) (fun _ => False) rfl rfl ?aP (fun _ hk => hk.elim) ?aF HO1.out HBL1.out HBL1.out.size HXL.out ?_; (case aP => rfl); (case aF => exact fun _ _ => trivial); intro v1 w4 ho hb hg hat; have HO4 := Aside0.mk ho; have HB4 := Aside0.mk hb; clear ho hb hg hat)))
                | fail)
              go_roundg g0
              case measure => omega
              case rel => exact ⟨i2 + 1, v1, rfl, by first | go_num | (congr 1; unfold wrap64; omega), ⟨by have := HG.out; omega⟩, ⟨by have h := HO4.out; rw [HTK.out] at h; exact h⟩, HB4⟩
          · have hil2 : (rs.length : Int) ≤ i2 := by omega
            have ho2 := HO.out
            rw [List.take_of_length_le (by omega)] at ho2
            have HO2 := Aside0.mk ho2
            have HPU2 := HPU.out
            have k4 : wr.cell? ⟨g4, 4, none⟩ = some (.int .i64 us.length) := by
              have h := (HH.out.on HBL.out).cells.2.2.2.2.1
              rw [HPU2] at h
              exact h
            clear hgi hi ho2 HO HPU2
            go_wp2_with fail
            rw [show decide (i2 < rs.length) = false from decide_eq_false (by omega)]
            go_loopg [6, 54] us.length (fun gk v6 v54 W => ∃ (i : Nat) (u : Value), u = v6 ∧ v54 = .int .i64 (i : Int) ∧ Aside0 (gk + i = us.length) ∧ Aside0 (Kd.R (Kd.int .i32) 21 W wb.heap.size (fun _ => True) u (rs ++ List.replicate i 65533)) ∧ Aside0 (Below wb.heap.size wb W))
            case atStart => exact ⟨0, _, rfl, rfl, ⟨by omega⟩, ⟨by rw [List.replicate_zero, List.append_nil]; exact HO2.out⟩, HBL⟩
            case round =>
              obtain ⟨i3, u3', rfl, rfl, HG3, HO3, HBL3⟩ := hrel
              have hgi := HG3.out
              by_cases hi : i3 < us.length
              · obtain ⟨g0, rfl⟩ : ∃ g0, gk = g0 + 1 := ⟨gk - 1, by omega⟩
                have hil3 : (i3 : Int) < us.length := by omega
                have HXL := Aside0.mk (show ((rs ++ List.replicate i3 65533).length + 1) * 4 ≤ 140737488355328 from by rw [List.length_append, List.length_replicate]; have := HLN.out; have := HU3.out; omega)
                clear hi hgi k4
                go_wp2_with (first
                  | ((with_reducible refine gate_builtin (b := .append) (xs := #[.tmp 56, .tmp 57]) rfl ?_); at_builtin; go_must ((refine Kd.R_append (Kd.int .i32) (w0 := wb) wb.heap.size rfl (.tmp 56) (.tmp 57) 35 21 (.int .i32 0) 4 rfl Tryd.underlying35 info_i32 rfl (by decide) (by omega) u3' (rs ++ List.replicate i3 65533) (65533) [.int .i32 (65533)] (fun _ => True) (fun _ => False) rfl rfl ?aP (fun _ hk => hk.elim) ?aF HO3.out HBL3.out HBL3.out.size HXL.out ?_; (case aP => rfl); (case aF => exact fun _ _ => trivial); intro v1 w4 ho hb hg hat; have HO4 := Aside0.mk ho; have HB4 := Aside0.mk hb; clear ho hb hg hat)))
                  | fail)
                go_roundg g0
                case measure => omega
                case rel => exact ⟨i3 + 1, v1, rfl, by first | go_num | (congr 1; unfold wrap64; omega), ⟨by have := HG3.out; omega⟩, ⟨by have h := HO4.out; rw [List.append_assoc, ← List.replicate_succ'] at h; exact h⟩, HB4⟩
              · have hil3 : (us.length : Int) ≤ i3 := by omega
                obtain rfl : i3 = us.length := by omega
                have ho3 := HO3.out
                rw [HWH.out] at ho3
                obtain ⟨A7, c7, rfl⟩ := Kd.R_slice ho3
                have hv1 := conv_runes (c := c7) (Kd.R_reads' ho3).2.2
                obtain ⟨cap, w3, hcv, hb3, hC3⟩ := HRR.out wr
                have hv2 := conv_runes (c := cap) hC3
                have HBL4 := Aside0.mk (Below.trans HBL3.out (Below.mono hb3 HBL3.out.size))
                have k0 : w3.cell? ⟨g4, 0, none⟩ = some (.int .i64 0) := by
                  have h := (HH.out.on HBL4.out).cells.1
                  rw [HP0.out] at h
                  exact h
                have HBE := Aside0.mk (below_kept HB2.out HBL4.out)
                obtain ⟨sb, hsb⟩ : ∃ sb, sb = runesBytes ru := ⟨_, rfl⟩
                rw [← hsb] at hv1 hv2
                clear hgi hi ho3 hb3 hC3 HO3 HRR hsb k4
                go_wp2
                go_ret
                exact ⟨rfl, HBE.out⟩
theorem plain_row {w : World} (s : ByteArray) (_ : s.size ≤ 140737488351232) (hT : Utf8Tabs 0 1 w) : Calls Tryd.prog 4 #[.string s] w fun e w' => e = .returned (.bool true) ∧ Below w.heap.size w w' := by
  by_cases h : 1000 < s.size
  · exact plain_big s w hT h
  · exact plain_small s w hT (by omega)
end Go.Proofs.YtkdkajcokoggiaaDoor.VtPlain
