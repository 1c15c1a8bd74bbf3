/- The law LayoutTiles is true: panes' and lines' boxes tile the screen. -/
import Derived.Test.YtnidcnmeonjjbaaLayIn
namespace Go.Proofs.Ytnidcnmeonjjbaa.LayTiles
open Go.RowKit Go.Proofs.Ytnidcnmeonjjbaa.Kit Go.Proofs.Ytnidcnmeonjjbaa.Plain Go.Proofs.Ytnidcnmeonjjbaa.Mine Go.Proofs.Ytnidcnmeonjjbaa.LayPure Go.Proofs.Ytnidcnmeonjjbaa.LayNode Go.Proofs.Ytnidcnmeonjjbaa.LayPanes Go.Proofs.Ytnidcnmeonjjbaa.LayMake Go.Proofs.Ytnidcnmeonjjbaa.LayDeed Go.Proofs.Ytnidcnmeonjjbaa.LayDeedK Go.Proofs.Ytnidcnmeonjjbaa.LaySmall Go.Proofs.Ytnidcnmeonjjbaa.LayPlace Go.Proofs.Ytnidcnmeonjjbaa.LayBoxes Go.Proofs.Ytnidcnmeonjjbaa.LayTilePure Go.Proofs.Ytnidcnmeonjjbaa.LayMade Go.Proofs.Ytnidcnmeonjjbaa.LayIn Go.Proofs.YtnidcnmeonjjbaaW.PrintWords Go.Proofs.YtnidcnmeonjjbaaW.PrintLast Go.Proofs.YtnidcnmeonjjbaaW.PrintMore
set_option linter.unusedVariables false
set_option linter.unusedSimpArgs false
theorem side_int (u : Int) : (if 60 < (if u < 0 then (0 : Int) else u) then 60 else (if u < 0 then (0 : Int) else u)) = (side u : Int) := by
  unfold side
  split <;> split <;> omega
theorem mul_le_3600 (X Y : Nat) (h1 : (X : Int) ≤ 60) (h2 : (Y : Int) ≤ 60) : X * Y ≤ 3600 := Nat.le_trans (Nat.mul_le_mul (show X ≤ 60 by omega) (show Y ≤ 60 by omega)) (Nat.le_refl 3600)
theorem mul_wrap (a b k : Nat) (hk : k = a * b) (h : k ≤ 3600) : wrap64 ((a : Int) * (b : Int)) = (k : Int) := by
  rw [← Int.natCast_mul, ← hk]
  unfold wrap64
  omega
section
set_option maxHeartbeats 6400000
set_option maxRecDepth 100000
theorem tiles_big (A : Option Addr) (c n : Nat) (u v : Int) (w : World) (h100 : 100 < n) (hm : n ≤ maxLen) :
    Calls Try.prog 5 #[.slice A n c, .int .i64 u, .int .i64 v] w fun e w' => e = .returned (.bool true) ∧ Below w.heap.size w w' := by
  have hd : (100 : Int) < n := by omega
  have h2 : (n : Int) ≤ 9223372036854775807 := by unfold maxLen at hm; omega
  clear h100 hm
  go_enter Try.func5, Try.ntmps5
  go_wp2_with fail
  refine (fit_c _).mono ?_
  rintro e w1 ⟨rfl, hb⟩
  have HB := Aside0.mk hb
  clear hb
  go_wp2_with fail
  go_returns
  exact ⟨rfl, HB.out⟩
set_option pp.deepTerms true in
set_option pp.maxSteps 1000000 in
theorem tiles_c (A : Option Addr) (c : Nat) (ds : List SD) (u v : Int) (w : World) (hr : Kd.C kD w A ds.length ds) (hn : ds.length ≤ 100) (hwf : ∀ d ∈ ds, deedwf d) :
    Calls Try.prog 5 #[.slice A ds.length c, .int .i64 u, .int .i64 v] w fun e w' => e = .returned (.bool true) ∧ Below w.heap.size w w' := by
  have hd : (ds.length : Int) ≤ 100 := by omega
  have hub := Try.underlying50
  have HR := Aside0.mk hr
  have HN := Aside0.mk hn
  obtain ⟨T, hT⟩ : ∃ T, T = afterT (.leaf 0) ds := ⟨_, rfl⟩
  have HT := Aside0.mk hT
  have HG := Aside0.mk (show LayPure.Good T from by rw [hT]; exact good_after (good_leaf 0) ds)
  have HW := Aside0.mk (show ∀ x ∈ T.leaves, (Lit.int .i64 x).wf = true from by rw [hT]; exact wf_after (good_leaf 0) ds wf_zero hwf)
  clear hr hn hwf hT
  go_enter Try.func5, Try.ntmps5
  go_wp2_with fail
  refine (fit_c w).mono ?_
  rintro e w3 ⟨rfl, hb⟩
  have HB3 := Aside0.mk hb
  clear hb
  go_wp2_with fail
  refine (made_c A c ds w3 (Kd.C_below HR.out HB3.out) HN.out).mono ?_
  rintro e w4 ⟨h, t, rfl, hL, ht, hb⟩
  rw [← HT.out] at ht
  have HL4 := Aside0.mk (LAY.lower hL HB3.out.size)
  have HT4 := Aside0.mk ht
  have HB4 := Aside0.mk (below_then HB3.out HB3.out.size hb)
  clear hb hL ht
  go_wp2_with fail
  refine (boxes_c h t u v w4 HL4.out.lb HL4.out.lies (by rw [HT4.out]; exact HW.out) HL4.out.good).mono ?_
  rw [HT4.out]
  rintro e w5 ⟨M, A5, c5, rfl, hm, hrow, hM, hb⟩
  obtain ⟨bx, hbx⟩ : ∃ bx, bx = boxesT T (whole u v) := ⟨_, rfl⟩
  obtain ⟨ls, hls⟩ : ∃ ls, ls = linesT T (whole u v) := ⟨_, rfl⟩
  rw [← hbx] at hm
  rw [← hls] at hrow ⊢
  have HBX := Aside0.mk hbx
  have HLS := Aside0.mk hls
  have HM5 := Aside0.mk hm
  have HML := Aside0.mk hm.lt
  have HC5 := Aside0.mk (Kd.R_reads' hrow).2.2
  have HL5 := Aside0.mk (HL4.out.on hb)
  have HB5 := Aside0.mk (below_then HB4.out HB4.out.size hb)
  have HLL := Aside0.mk (show ls.length + 1 = T.leaves.length from by rw [hls]; exact lines_len _ _)
  have HLE := Aside0.mk (show T.leaves.length ≤ 6 from HG.out.2)
  clear hb hm hrow hM hbx hls
  obtain ⟨a1, ha1⟩ : ∃ a1 : Int, a1 = if u < 0 then 0 else u := ⟨_, rfl⟩
  obtain ⟨a2, ha2⟩ : ∃ a2 : Int, a2 = if v < 0 then 0 else v := ⟨_, rfl⟩
  have q1 := side_int u
  have q2 := side_int v
  rw [← ha1] at q1
  rw [← ha2] at q2
  obtain ⟨X, hX⟩ : ∃ X, X = side u := ⟨_, rfl⟩
  obtain ⟨Y, hY⟩ : ∃ Y, Y = side v := ⟨_, rfl⟩
  rw [← hX] at q1
  rw [← hY] at q2
  have hXX : (X : Int) ≤ 60 := by rw [hX]; have := side_le u; omega
  have hYY : (Y : Int) ≤ 60 := by rw [hY]; have := side_le v; omega
  have p1 := ha1.symm
  have p2 := ha2.symm
  have HWH := Aside0.mk (show whole u v = ⟨0, 0, X, Y⟩ from by rw [hX, hY]; rfl)
  clear ha1 ha2 hX hY
  go_wp2_with (first
    | ((with_reducible refine gate_builtin (b := .append) (xs := #[.const (.slice none 0 0), .tmp 43]) rfl ?_); at_builtin; go_must ((refine Kd.R_append_rows kB (w0 := w5) w5.heap.size rfl (.const (.slice none 0 0)) (.tmp 43) 44 50 (.agg #[.int .i64 0, .int .i64 0, .int .i64 0, .int .i64 0]) 32 rfl Try.underlying44 info_box rfl (by decide) (by omega) (.slice none 0 0) [] ls A5 ls.length c5 (fun _ => True) (fun _ => False) rfl rfl (Kd.R_nil _ _ _ _ _) HC5.out ?aK (fun _ hk => hk.elim) ?aF (Below.refl _ _) (Nat.le_refl _) ?aL ?_; (case aK => exact fun x cs h => by rw [kB_open h]; exact kB_mkM _ _ _ x); (case aF => exact fun _ _ => trivial); (case aL => have := HLL.out; have := HLE.out; simp; omega); intro v6 w6 ho hb hg hat; rw [List.nil_append] at ho; have HO6 := Aside0.mk ho; have HM6 := Aside0.mk (HM5.out.below hb); have HL6 := Aside0.mk (HL5.out.on hb); have HX6 := Aside0.mk hb; clear ho hb hg hat)))
    | fail)
  clear q1 q2 p1 p2
  refine (panes_c h t w6 HL6.out.lb HL6.out.lies (by have := HL6.out.few; omega)).mono ?_
  rw [HT4.out]
  rintro e w7 ⟨vp, rfl, hv, hb⟩
  obtain ⟨A7, c7, rfl⟩ := Kd.R_slice hv
  have HRP7 := Aside0.mk hv
  have HO7 := Aside0.mk (Kd.R_below HO6.out hb)
  have HM7 := Aside0.mk (HM6.out.below hb)
  have HB7 := Aside0.mk (below_then HX6.out HX6.out.size hb)
  obtain ⟨n, hn⟩ : ∃ n, n = T.leaves.length := ⟨_, rfl⟩
  have HNn := Aside0.mk hn
  have hn6 : (n : Int) ≤ 6 := by have := HLE.out; omega
  rw [← hn]
  clear hb hv hn HL6 HL5 HL4 HM6 HM5 HC5
  go_wp2_with fail
  go_loopg [10, 48] n (fun g v10 v48 W => ∃ (i : Nat), v48 = .int .i64 (i : Int) ∧ Aside0 (g + i = n) ∧ Aside0 (Kd.R kB 50 W w5.heap.size (fun _ => True) v10 (ls ++ (bx.take i).map Prod.snd)) ∧ Aside0 (MP W M bx) ∧ Aside0 (Kd.R (Kd.int .i64) 3 W w6.heap.size (fun _ => True) (.slice A7 T.leaves.length c7) T.leaves) ∧ Aside0 (Below w5.heap.size w5 W))
  case atStart => exact ⟨0, rfl, ⟨by omega⟩, ⟨by simpa using HO7.out⟩, HM7, HRP7, HB7⟩
  case round =>
    clear HO7 HM7 HRP7 HO6
    obtain ⟨i, rfl, HGi, HO, HM, HRP, HBi⟩ := hrel
    have hgi := HGi.out
    by_cases hi : i < n
    · obtain ⟨g0, rfl⟩ : ∃ g0, gk = g0 + 1 := ⟨gk - 1, by omega⟩
      have hil : (i : Int) < n := by omega
      have hil2 : i < T.leaves.length := by have := HNn.out; omega
      have hil3 : i < bx.length := by rw [HBX.out, boxes_len]; exact hil2
      obtain ⟨ad, ead, k0⟩ := Kd.at_int (Kd.R_reads' HRP.out).2.2 (i : Int) (by omega) (by omega)
      obtain ⟨x, hx⟩ : ∃ x, x = rd T.leaves (i : Int) := ⟨_, rfl⟩
      obtain ⟨b, hb⟩ : ∃ b, b = bx[i].2 := ⟨_, rfl⟩
      have hxb : (x, b) ∈ bx := by
        have e : bx[i] = (x, b) := by
          have e1 : bx[i].1 = x := by
            rw [hx, rd_nth _ i hil2]
            simp only [HBX.out]
            exact box_at T (whole u v) i hil2 (by rw [← HBX.out]; exact hil3)
          rw [hb, ← e1]
        rw [← e]; exact List.getElem_mem hil3
      have hwx : (Lit.int .i64 x).wf = true := HW.out x (by rw [hx, rd_nth _ i hil2]; exact List.getElem_mem hil2)
      rw [Int.toNat_natCast, ← hx] at k0
      have HTK := Aside0.mk (show (bx.take (i + 1)).map Prod.snd = (bx.take i).map Prod.snd ++ [b] from by rw [List.take_succ_eq_append_getElem hil3, List.map_append, hb]; rfl)
      have HLN := Aside0.mk (show (ls ++ (bx.take i).map Prod.snd).length ≤ 100 from by rw [List.length_append, List.length_map, List.length_take]; have := HLL.out; have := HLE.out; omega)
      have l1 := HM.out.look_ok x b hxb hwx
      unfold BX.val at l1
      subst ead
      clear hgi hi hil2 hil3 hx hb hxb hwx
      obtain ⟨b0, b1, b2, b3⟩ := b
      dsimp only at l1
      go_wp2_with (first
        | ((with_reducible refine gate_builtin (b := .append) (xs := #[.tmp 60, .tmp 62]) rfl ?_); at_builtin; go_must ((refine Kd.R_append kB (w0 := wr.alloc (.cells #[.int .i64 b0, .int .i64 b1, .int .i64 b2, .int .i64 b3] 50)) w5.heap.size rfl (.tmp 60) (.tmp 62) 44 50 (.agg #[.int .i64 0, .int .i64 0, .int .i64 0, .int .i64 0]) 32 rfl Try.underlying44 info_box rfl (by decide) (by omega) u10 (ls ++ (bx.take i).map Prod.snd) (⟨b0, b1, b2, b3⟩ : BX) [.int .i64 b0, .int .i64 b1, .int .i64 b2, .int .i64 b3] (fun _ => True) (fun _ => False) rfl (by first | rfl | (go_simp; done) | (go_simp; rfl)) ?aP (fun _ hk => hk.elim) ?aF (Kd.R_alloc HO.out _) (Below.refl _ _) ?aB ?aL ?_; (case aP => exact kB_mkM _ _ _ ⟨b0, b1, b2, b3⟩); (case aF => exact fun _ _ => trivial); (case aB => exact (below_alloc HBi.out _).size); (case aL => have := HLN.out; omega); intro v8 w8 ho hb hg hat; rw [List.append_assoc, ← HTK.out] at ho; have HO8 := Aside0.mk ho; have HG8 := Aside0.mk hg; have HB8 := Aside0.mk hb; clear ho hb hg hat)))
        | fail)
      go_roundg g0
      case measure => omega
      case rel =>
        have hM2 : MP w8 M bx := (HM.out.kept (World.grownBy_alloc wr (.cells #[.int .i64 b0, .int .i64 b1, .int .i64 b2, .int .i64 b3] 50) none) (by simp)).move (HB8.out.block M HML.out)
        have hR2 : Kd.R (Kd.int .i64) 3 w8 w6.heap.size (fun _ => True) (.slice (some ad) T.leaves.length c7) T.leaves :=
          Kd.R_mono (Kd.R_grown (Kd.R_apartR (Kd.R_alloc HRP.out _) (Kd.R_alloc HO.out (.cells #[.int .i64 b0, .int .i64 b1, .int .i64 b2, .int .i64 b3] 50)) (by intro q hq; simp [Kd.int, Kd.scalar] at hq; rw [hq]; decide)) HG8.out (fun k hk => hk.2)) (fun _ _ => trivial)
        exact ⟨i + 1, by first | go_num | (congr 1; unfold wrap64; omega), ⟨by have := HGi.out; omega⟩, HO8, ⟨hM2⟩, ⟨hR2⟩, ⟨(below_alloc HBi.out _).trans (HB8.out)⟩⟩
    · have hil : (n : Int) ≤ i := by omega
      have HAL := Aside0.mk (show ls ++ (bx.take i).map Prod.snd = allB T ⟨0, 0, X, Y⟩ from by
        have h1 := HNn.out
        have h2 : bx.length = T.leaves.length := by rw [HBX.out, boxes_len]
        rw [List.take_of_length_le (by omega), HLS.out, HBX.out, HWH.out]; rfl)
      obtain ⟨A8, c8, rfl⟩ := Kd.R_slice HO.out
      have HRO := Aside0.mk (show Kd.C kB wr A8 (allB T ⟨0, 0, X, Y⟩).length (allB T ⟨0, 0, X, Y⟩) from by rw [← HAL.out]; exact (Kd.R_reads' HO.out).2.2)
      rw [HAL.out]
      obtain ⟨al, hal⟩ : ∃ al, al = allB T ⟨0, 0, X, Y⟩ := ⟨_, rfl⟩
      rw [← hal] at HRO ⊢
      have HALL := Aside0.mk hal
      have hll : (al.length : Int) ≤ 11 := by rw [hal]; have := all_len T ⟨0, 0, X, Y⟩; have := HLE.out; omega
      clear hgi hi HAL hal HO HRP
      go_wp2_with fail
      have HAR := Aside0.mk (show area al = X * Y from by
        rw [HALL.out]; unfold allB; rw [area_append]; exact area_all T ⟨0, 0, X, Y⟩)
      have HXY := Aside0.mk (mul_le_3600 X Y hXX hYY)
      obtain ⟨wo, rfl⟩ : ∃ wo : World, wo = wr := ⟨_, rfl⟩
      go_loopg [15, 67] al.length (fun g v15 v67 W => ∃ (j s : Nat), v67 = .int .i64 (j : Int) ∧ v15 = .int .i64 (s : Int) ∧ Aside0 (g + j = al.length) ∧ Aside0 (s = area (al.take j)) ∧ Aside0 (Below wo.heap.size wo W))
      case atStart => exact ⟨0, 0, rfl, rfl, ⟨by omega⟩, ⟨rfl⟩, ⟨Below.refl _ _⟩⟩
      case round =>
        obtain ⟨j, s, rfl, rfl, HGj, HS, HBj⟩ := hrel
        have hgj := HGj.out
        by_cases hj : j < al.length
        · obtain ⟨g0, rfl⟩ : ∃ g0, gk = g0 + 1 := ⟨gk - 1, by omega⟩
          have hjl : (j : Int) < al.length := by omega
          obtain ⟨ad, ead, k0, k1, k2, k3⟩ := at_B (Kd.C_below HRO.out HBj.out) j hj
          obtain ⟨b, hb⟩ : ∃ b, b = al.getD j BX.zero := ⟨_, rfl⟩
          have hbj : al[j] = b := by rw [hb, List.getD_eq_getElem?_getD, List.getElem?_eq_getElem hj]; rfl
          have hin := within_all T ⟨0, 0, X, Y⟩ b (by rw [← HALL.out, ← hbj]; exact List.getElem_mem hj)
          have hts := area_take_succ al j hj
          have hle := area_take_le al (j + 1)
          rw [hbj] at hts
          rw [← hb] at k0 k1 k2 k3
          obtain ⟨b0, b1, b2, b3⟩ := b
          dsimp only at k0 k1 k2 k3 hin hts
          obtain ⟨k, hk⟩ : ∃ k, k = b2 * b3 := ⟨_, rfl⟩
          rw [← hk] at hts
          have HTS := Aside0.mk (show area (al.take (j + 1)) = s + k from by rw [hts, ← HS.out])
          have hsk : s + k ≤ 3600 := by rw [← HTS.out]; have := HAR.out; have := HXY.out; omega
          have i1 : (b0 : Int) + b2 ≤ X := by omega
          have i2 : (b1 : Int) + b3 ≤ Y := by omega
          have i3 : (0 : Int) ≤ (b0 : Int) + b2 := by omega
          have i4 : (0 : Int) ≤ (b1 : Int) + b3 := by omega
          have i5 : (s : Int) + k ≤ 3600 := by omega
          have i6 : (0 : Int) ≤ (s : Int) + k := by omega
          have e0 : decide ((b0 : Int) < 0) = false := decide_eq_false (by omega)
          have e1 : decide ((b1 : Int) < 0) = false := decide_eq_false (by omega)
          have e2 : decide ((b2 : Int) < 0) = false := decide_eq_false (by omega)
          have e3 : decide ((b3 : Int) < 0) = false := decide_eq_false (by omega)
          have e4 : decide ((X : Int) < (b0 : Int) + b2) = false := decide_eq_false (by omega)
          have e5 : decide ((Y : Int) < (b1 : Int) + b3) = false := decide_eq_false (by omega)
          have HGn := Aside0.mk (show g0 + (j + 1) = al.length by omega)
          have m1 : wrap64 ((b2 : Int) * (b3 : Int)) = (k : Int) := mul_wrap b2 b3 k hk (by omega)
          subst ead
          clear hgj hj hb hbj hin hts hle hk hsk
          go_wp2_with fail
          clear m1
          go_roundg g0
          case measure => omega
          case rel => exact ⟨j + 1, s + k, by first | go_num | (congr 1; unfold wrap64; omega), by first | go_num | (congr 1; unfold wrap64; omega), HGn, ⟨HTS.out.symm⟩, ⟨below_alloc HBj.out _⟩⟩
        · have hjl : (al.length : Int) ≤ j := by omega
          have HSA := Aside0.mk (show s = X * Y from by rw [HS.out, List.take_of_length_le (by omega)]; exact HAR.out)
          have hjd : decide (j < al.length) = false := decide_eq_false (by omega)
          clear hgj hj HAR HS HGj
          go_wp2_with fail
          clear hjd
          obtain ⟨wy, rfl⟩ : ∃ wy : World, wy = wr := ⟨_, rfl⟩
          go_loopg [116] Y (fun g v116 W => ∃ (y : Nat), v116 = .int .i64 (y : Int) ∧ Aside0 (g + y = Y) ∧ Aside0 (Below wo.heap.size wo W))
          case atStart => exact ⟨0, rfl, ⟨by omega⟩, HBj⟩
          case round =>
            obtain ⟨y, rfl, HGy, HBy⟩ := hrel
            have hgy := HGy.out
            by_cases hy : y < Y
            · obtain ⟨gy, rfl⟩ : ∃ gy, gk = gy + 1 := ⟨gk - 1, by omega⟩
              have hyl : (y : Int) < Y := by omega
              clear hgy hy
              go_wp2_with fail
              obtain ⟨wx, rfl⟩ : ∃ wx : World, wx = wr := ⟨_, rfl⟩
              go_loopg [120] X (fun g v120 W => ∃ (x : Nat), v120 = .int .i64 (x : Int) ∧ Aside0 (g + x = X) ∧ Aside0 (Below wo.heap.size wo W))
              case atStart => exact ⟨0, rfl, ⟨by omega⟩, HBy⟩
              case round =>
                obtain ⟨x, rfl, HGx, HBx⟩ := hrel
                have hgx := HGx.out
                by_cases hx : x < X
                · obtain ⟨gx, rfl⟩ : ∃ gx, gk = gx + 1 := ⟨gk - 1, by omega⟩
                  have hxl : (x : Int) < X := by omega
                  clear hgx hx
                  go_wp2_with fail
                  obtain ⟨wi, rfl⟩ : ∃ wi : World, wi = wr := ⟨_, rfl⟩
                  go_loopg [20, 125] al.length (fun g v20 v125 W => ∃ (j n : Nat), v125 = .int .i64 (j : Int) ∧ v20 = .int .i64 (n : Int) ∧ Aside0 (g + j = al.length) ∧ Aside0 (n = cnt x y (al.take j)) ∧ Aside0 (Below wo.heap.size wo W))
                  case atStart => exact ⟨0, 0, rfl, rfl, ⟨by omega⟩, ⟨rfl⟩, HBx⟩
                  case round =>
                    obtain ⟨j, m, rfl, rfl, HGj, HS, HBj⟩ := hrel
                    have hgj := HGj.out
                    by_cases hj : j < al.length
                    · obtain ⟨gj, rfl⟩ : ∃ gj, gk = gj + 1 := ⟨gk - 1, by omega⟩
                      have hjl : (j : Int) < al.length := by omega
                      obtain ⟨ad, ead, k0, k1, k2, k3⟩ := at_B (Kd.C_below HRO.out HBj.out) j hj
                      obtain ⟨b, hb⟩ : ∃ b, b = al.getD j BX.zero := ⟨_, rfl⟩
                      have hbj : al[j] = b := by rw [hb, List.getD_eq_getElem?_getD, List.getElem?_eq_getElem hj]; rfl
                      have hin := within_all T ⟨0, 0, X, Y⟩ b (by rw [← HALL.out, ← hbj]; exact List.getElem_mem hj)
                      have hts := cnt_take_succ x y al j hj
                      have hle := cnt_le x y (al.take j)
                      rw [List.length_take] at hle
                      rw [hbj] at hts
                      rw [← hb] at k0 k1 k2 k3
                      have HIN := Aside0.mk (fun W => in_c x y b W ⟨by have := hin.1; dsimp only at this; omega, by have := hin.2; dsimp only at this; omega⟩ (by omega) (by omega))
                      have hm12 : (m : Int) ≤ 11 := by have := HS.out; omega
                      obtain ⟨b0, b1, b2, b3⟩ := b
                      dsimp only at k0 k1 k2 k3 HIN
                      subst ead
                      cases hi : inB x y ⟨b0, b1, b2, b3⟩ with
                      | true =>
                        rw [hi, if_pos rfl] at hts
                        rw [hi] at HIN
                        have HTS := Aside0.mk (show cnt x y (al.take (j + 1)) = m + 1 from by rw [hts, ← HS.out])
                        clear hgj hj hb hbj hin hts hle hi
                        go_wp2_with fail
                        refine (HIN.out _).mono ?_
                        rintro e w9 ⟨rfl, hb⟩
                        have HB9 := Aside0.mk (below_then (below_alloc HBj.out (.cells #[.int .i64 b0, .int .i64 b1, .int .i64 b2, .int .i64 b3] 50)) (below_alloc HBj.out _).size hb)
                        clear hb k0 k1 k2 k3
                        go_wp2_with fail
                        go_roundg gj
                        case measure => omega
                        case rel => exact ⟨j + 1, m + 1, by first | go_num | (congr 1; unfold wrap64; omega), by first | go_num | (congr 1; unfold wrap64; omega), ⟨by have := HGj.out; omega⟩, ⟨HTS.out.symm⟩, HB9⟩
                      | false =>
                        rw [hi, if_neg (by decide)] at hts
                        rw [hi] at HIN
                        have HTS := Aside0.mk (show cnt x y (al.take (j + 1)) = m from by rw [hts, ← HS.out]; rfl)
                        clear hgj hj hb hbj hin hts hle hi
                        go_wp2_with fail
                        refine (HIN.out _).mono ?_
                        rintro e w9 ⟨rfl, hb⟩
                        have HB9 := Aside0.mk (below_then (below_alloc HBj.out (.cells #[.int .i64 b0, .int .i64 b1, .int .i64 b2, .int .i64 b3] 50)) (below_alloc HBj.out _).size hb)
                        clear hb k0 k1 k2 k3
                        go_wp2_with fail
                        go_roundg gj
                        case measure => omega
                        case rel => exact ⟨j + 1, m, by first | go_num | (congr 1; unfold wrap64; omega), rfl, ⟨by have := HGj.out; omega⟩, ⟨HTS.out.symm⟩, HB9⟩
                    · have hjl : (al.length : Int) ≤ j := by omega
                      have hm1 : m = 1 := by
                        have h1 := HS.out
                        rw [List.take_of_length_le (by omega), HALL.out] at h1
                        unfold allB at h1
                        rw [cnt_append, cnt_all x y T ⟨0, 0, X, Y⟩, if_pos (by unfold inB; exact decide_eq_true ⟨Nat.zero_le _, Nat.zero_le _, by dsimp only; omega, by dsimp only; omega⟩)] at h1
                        exact h1
                      subst hm1
                      clear hgj hj HS
                      go_wp2_with fail
                      go_roundg gx
                      case measure => omega
                      case rel => exact ⟨x + 1, by first | go_num | (congr 1; unfold wrap64; omega), ⟨by have := HGx.out; omega⟩, HBj⟩
                · have hxl : (X : Int) ≤ x := by omega
                  clear hgx hx
                  go_wp2_with fail
                  go_roundg gy
                  case measure => omega
                  case rel => exact ⟨y + 1, by first | go_num | (congr 1; unfold wrap64; omega), ⟨by have := HGy.out; omega⟩, HBx⟩
            · have hyl : (Y : Int) ≤ y := by omega
              clear hgy hy
              have hxy := HXY.out
              obtain ⟨k, hk⟩ : ∃ k, k = X * Y := ⟨_, rfl⟩
              have hsk : s = k := by rw [hk]; exact HSA.out
              subst hsk
              have l1 := fun ty => (HM.out.below HBy.out).len ty
              have hbl : bx.length = ls.length + 1 := by rw [HBX.out, boxes_len]; exact HLL.out.symm
              rw [hbl] at l1
              have hll2 : (ls.length : Int) ≤ 6 := by have := HLL.out; have := HLE.out; omega
              have m1 : wrap64 ((X : Int) * (Y : Int)) = (s : Int) := mul_wrap X Y s hk (by rw [hk]; exact hxy)
              have g1 : (((ls.length + 1 : Nat) : Int) == (ls.length : Int) + 1) = true := by rw [Int.natCast_add]; simp
              clear hxy hk hbl
              go_wp2_with fail
              go_returns
              exact ⟨by simp, below_then (below_then HB5.out HB5.out.size HBi.out) (below_then HB5.out HB5.out.size HBi.out).size HBy.out⟩
end
theorem row {w : World} (A : Option Addr) (c : Nat) (l : List SD) (hC : Kd.C kD w A l.length l) (_ : l.length ≤ c) (hl : ∀ x ∈ l, deedwf x) (u : Int) (_ : (Lit.int .i64 u).wf = true) (v : Int) (_ : (Lit.int .i64 v).wf = true) :
    Calls Try.prog 5 #[.slice A l.length c, .int .i64 u, .int .i64 v] w fun e w' => e = .returned (.bool true) ∧ Below w.heap.size w w' := by
  by_cases h : 100 < l.length
  · exact tiles_big A c _ u v w h (by have := hC.2.1; unfold maxLen; omega)
  · exact tiles_c A c l u v w hC (by omega) hl
end Go.Proofs.Ytnidcnmeonjjbaa.LayTiles
