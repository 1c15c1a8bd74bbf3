/- The law LayoutFew is true: there are one to six panes, no two of one number. -/
import Derived.Test.YtnidcnmeonjjbaaLayBoxes
import Derived.Test.YtnidcnmeonjjbaaLayDeedK
import Derived.Deep.CutBlock
namespace Go.Proofs.Ytnidcnmeonjjbaa.LayFew
open Go.RowKit Go.Proofs.Ytnidcnmeonjjbaa.Kit Go.Proofs.Ytnidcnmeonjjbaa.Plain Go.Proofs.Ytnidcnmeonjjbaa.Mine Go.Proofs.Ytnidcnmeonjjbaa.LayPure Go.Proofs.Ytnidcnmeonjjbaa.LayNode Go.Proofs.Ytnidcnmeonjjbaa.LayPanes Go.Proofs.Ytnidcnmeonjjbaa.LayMake Go.Proofs.Ytnidcnmeonjjbaa.LayDeed Go.Proofs.Ytnidcnmeonjjbaa.LayDeedK Go.Proofs.Ytnidcnmeonjjbaa.LaySmall Go.Proofs.Ytnidcnmeonjjbaa.LayPlace Go.Proofs.Ytnidcnmeonjjbaa.LayBoxes Go.Proofs.YtnidcnmeonjjbaaW.PrintWords Go.Proofs.YtnidcnmeonjjbaaW.PrintLast Go.Proofs.YtnidcnmeonjjbaaW.PrintMore
set_option linter.unusedVariables false
set_option linter.unusedSimpArgs false
section
set_option maxHeartbeats 3200000
set_option maxRecDepth 100000
theorem few_c (A : Option Addr) (c : Nat) (ds : List SD) (w : World) (hr : Kd.C kD w A ds.length ds) :
    Calls Try.prog 7 #[.slice A ds.length c] w fun e w' => e = .returned (.bool true) ∧ Below w.heap.size w w' := by
  have HF := Aside0.mk (fit_c w)
  by_cases h100 : 100 < ds.length
  · have hd : (100 : Int) < ds.length := by omega
    clear h100
    go_enter Try.func7, Try.ntmps7
    go_wp2_with fail
    refine HF.out.mono ?_
    rintro e w1 ⟨rfl, hb⟩
    have HB1 := Aside0.mk hb
    clear hb HF
    go_wp2_with fail
    go_returns
    exact ⟨rfl, HB1.out⟩
  · have hd : (ds.length : Int) ≤ 100 := by omega
    have HR := Aside0.mk hr
    have hud := Try.underlying29
    clear h100 hr
    go_enter Try.func7, Try.ntmps7
    go_wp2_with fail
    refine HF.out.mono ?_
    rintro e w1 ⟨rfl, hb⟩
    have HB1 := Aside0.mk hb
    clear hb HF
    go_wp2_with fail
    refine (new_l 0 w1).mono ?_
    rintro e w2 ⟨h, t0, rfl, hL, ht, hb⟩
    have HL0 := Aside0.mk (show ∃ t, LAY w.heap.size w2 h t from ⟨t0, hL.lb, hL.lies, hL.nd, hL.good, Nat.le_trans HB1.out.size hL.bh, fun k hk => Nat.le_trans HB1.out.size (hL.bt k hk)⟩)
    have HB2 := Aside0.mk (below_kept HB1.out hb)
    clear hL ht hb
    go_wp2_with fail
    go_loopg [17] ds.length (fun g v17 W => ∃ (i : Nat), v17 = .int .i64 (i : Int) ∧ Aside0 (g + i = ds.length) ∧ Aside0 (Below w.heap.size w W) ∧ Aside0 (∃ t, LAY w.heap.size W h t))
    case atStart => exact ⟨0, rfl, ⟨by omega⟩, HB2, HL0⟩
    case round =>
      obtain ⟨i, rfl, HG, HB, HL⟩ := hrel
      clear HL0 HB2
      have hgi := HG.out
      by_cases hi : i < ds.length
      · obtain ⟨g0, rfl⟩ : ∃ g0, gk = g0 + 1 := ⟨gk - 1, by omega⟩
        have hil : (i : Int) < ds.length := by omega
        obtain ⟨ad, ead, c0, c1, c2, c3⟩ := at_D (Kd.C_below HR.out HB.out) i hi
        obtain ⟨dp, hdp⟩ : ∃ z, z = ds[i].p := ⟨_, rfl⟩
        obtain ⟨dq, hdq⟩ : ∃ z, z = ds[i].q := ⟨_, rfl⟩
        obtain ⟨df, hdf⟩ : ∃ z, z = ds[i].f := ⟨_, rfl⟩
        obtain ⟨da, hda⟩ : ∃ z, z = ds[i].a := ⟨_, rfl⟩
        rw [← hdp] at c0
        rw [← hdq] at c1
        rw [← hdf] at c2
        rw [← hda] at c3
        subst ead
        clear hgi hi hdp hdq hdf hda
        obtain ⟨t, hL⟩ := HL.out
        have HLt := Aside0.mk hL
        clear hL HL
        go_upto_region 8 with fail
        go_cut [5] (fun v5 W => ∃ gx : Nat, v5 = .pointer (some ⟨gx, 0, none⟩) ∧ Aside0 (W.heap[gx]? = some (.cells #[.int .i64 dp, .int .i64 dq, .bool df, .bool da] 29 (0, 0))) ∧ Aside0 (Below wr.heap.size wr W))
        case first =>
          go_wp2
          go_meet
          case rel => exact ⟨_, rfl, ⟨blk_new _ _⟩, ⟨below_alloc (Below.refl _ _) _⟩⟩
        case rest =>
          obtain ⟨gx, rfl, HGX, HBX⟩ := hcut
          clear c0 c1 c2 c3
          have k0 := (blk_cell HGX.out 0).trans (rfl : _ = some (Value.int .i64 dp))
          have k1 := (blk_cell HGX.out 1).trans (rfl : _ = some (Value.int .i64 dq))
          have k2 := (blk_cell HGX.out 2).trans (rfl : _ = some (Value.bool df))
          have k3 := (blk_cell HGX.out 3).trans (rfl : _ = some (Value.bool da))
          have HLc := Aside0.mk (HLt.out.on HBX.out)
          have HBc := Aside0.mk (below_kept HB.out HBX.out)
          have HDO := Aside0.mk (do_c w.heap.size h t dp dq df da wc HLc.out)
          go_wp2_with fail
          refine HDO.out.mono ?_
          rintro e w4 ⟨t', rfl, hp, hd⟩
          have HL4 := Aside0.mk hd.lay
          have HB4 := Aside0.mk (HBc.out.trans hd.below)
          clear hp hd k0 k1 k2 k3 HDO HGX
          go_wp2_with fail
          refine (panes_c h t' w4 HL4.out.lb HL4.out.lies (by have := HL4.out.few; omega)).mono ?_
          rintro e w5 ⟨v, rfl, hv, hb⟩
          obtain ⟨A5, c5, rfl⟩ := Kd.R_slice hv
          obtain ⟨l, hl⟩ : ∃ l, l = t'.plain.leaves := ⟨_, rfl⟩
          rw [← hl] at hv
          have h1 := leaves_pos t'.plain
          have h6 := HL4.out.good.2
          have hn := HL4.out.good.1
          rw [← hl] at h1 h6 hn ⊢
          have HC5 := Aside0.mk (Kd.R_reads' hv).2.2
          have HL5 := Aside0.mk (HL4.out.on hb)
          have HB5 := Aside0.mk (below_then HB4.out HB4.out.size hb)
          have HND := Aside0.mk hn
          have h1i : (1 : Int) ≤ l.length := by omega
          have h6i : (l.length : Int) ≤ 6 := by omega
          clear hl hv hb h1 h6 hn
          have e1 : decide ((l.length : Int) < 1) = false := decide_eq_false (by omega)
          have e2 : decide ((6 : Int) < l.length) = false := decide_eq_false (by omega)
          go_wp2_with fail
          obtain ⟨wo, rfl⟩ : ∃ wo : World, wo = w5 := ⟨_, rfl⟩
          go_loopg [36] l.length (fun g v36 W => ∃ (a : Nat), v36 = .int .i64 (a : Int) ∧ Aside0 (g + a = l.length) ∧ Aside0 (Below wo.heap.size wo W))
          case atStart => exact ⟨0, rfl, ⟨by omega⟩, ⟨Below.refl _ _⟩⟩
          case round =>
            obtain ⟨a, rfl, HGa, HBa⟩ := hrel
            have hga := HGa.out
            by_cases ha : a < l.length
            · obtain ⟨ga, rfl⟩ : ∃ ga, gk = ga + 1 := ⟨gk - 1, by omega⟩
              have hal : (a : Int) < l.length := by omega
              obtain ⟨ad2, ead2, ca⟩ := Kd.at_int (Kd.C_below HC5.out HBa.out) (a : Int) (by omega) (by omega)
              obtain ⟨x, hx⟩ : ∃ x, x = rd l (a : Int) := ⟨_, rfl⟩
              rw [Int.toNat_natCast, ← hx] at ca
              have HX := Aside0.mk (show l[a]? = some x from by rw [hx, rd_nth l a ha]; exact List.getElem?_eq_getElem ha)
              subst ead2
              clear hga ha hx
              go_wp2_with fail
              obtain ⟨wi, rfl⟩ : ∃ wi : World, wi = wr := ⟨_, rfl⟩
              go_loopg [40] a (fun g v40 W => ∃ (b : Nat), v40 = .int .i64 (b : Int) ∧ Aside0 (g + b = a) ∧ Aside0 (Below wo.heap.size wo W))
              case atStart => exact ⟨0, rfl, ⟨by omega⟩, HBa⟩
              case round =>
                obtain ⟨b, rfl, HGb, HBb⟩ := hrel
                have hgb := HGb.out
                by_cases hb : b < a
                · obtain ⟨gb, rfl⟩ : ∃ gb, gk = gb + 1 := ⟨gk - 1, by omega⟩
                  have hbl : (b : Int) < a := by omega
                  have hbl2 : (b : Int) < l.length := by omega
                  obtain ⟨ad3, ead3, cb⟩ := Kd.at_int (Kd.C_drew (Kd.C_below HC5.out HBb.out)) (b : Int) (by omega) (by omega)
                  obtain ⟨ad4, ead4, ca⟩ := Kd.at_int (Kd.C_drew (Kd.C_below HC5.out HBb.out)) (a : Int) (by omega) (by omega)
                  injection ead3 with ead3
                  injection ead4 with ead4
                  subst ead3
                  subst ead4
                  obtain ⟨y, hy⟩ : ∃ y, y = rd l (b : Int) := ⟨_, rfl⟩
                  obtain ⟨x, hx⟩ : ∃ x, x = rd l (a : Int) := ⟨_, rfl⟩
                  rw [Int.toNat_natCast, ← hx] at ca
                  rw [Int.toNat_natCast, ← hy] at cb
                  have hxy : (x == y) = false := by
                    rw [hx, hy, rd_nth l a (by omega), rd_nth l b (by omega)]
                    refine beq_eq_false_iff_ne.mpr (fun e => ?_)
                    have := List.nodup_iff_pairwise_ne.1 HND.out
                    have := List.pairwise_iff_getElem.1 this b a (by omega) (by omega) (by omega)
                    exact this e.symm
                  clear hx hy hgb hb
                  go_upto_region 19 with fail
                  go_cut [51] (fun v51 W => v51 = .bool false ∧ Aside0 (Below wo.heap.size wo W))
                  case first =>
                    refine start_ (n := 9) (S := fun w' => w'.cell? (ad2.add a) = some (.int .i64 x) ∧ w'.cell? (ad2.add b) = some (.int .i64 y)) (ds := []) #[false, false, false, false, false, false, false, false, false] (by kernel_rfl) rfl rfl ⟨ca, cb⟩ (fun hHeld => ?_)
                    refine pure_ (i := 0) (N := some 43) (v := ?_) (a' := ?_) #[true, false, false, false, false, false, false, false, false] rfl rfl (by kernel_rfl) (fun _ _ _ h => h) (Or.inl ⟨by rfl, ?_⟩) ?_ ?_
                    rotate_left
                    · intro w'
                      go_simp
                      with_reducible rfl
                    rotate_left
                    · simp only [Act.put, List.setIfInBounds_toArray, List.set_cons_zero, List.set_cons_succ, i64_w, i32_w]
                      rfl
                    refine pure_ (i := 1) (N := some 44) (v := ?_) (a' := ?_) #[true, true, false, false, false, false, false, false, false] rfl rfl (by kernel_rfl) (fun _ _ _ h => h) (Or.inl ⟨by rfl, ?_⟩) ?_ ?_
                    rotate_left
                    · intro w'
                      go_simp
                      with_reducible rfl
                    rotate_left
                    · simp only [Act.put, List.setIfInBounds_toArray, List.set_cons_zero, List.set_cons_succ, i64_w, i32_w]
                      rfl
                    refine pure_ (i := 2) (N := some 45) (v := ?_) (a' := ?_) #[true, true, true, false, false, false, false, false, false] rfl rfl (by kernel_rfl) (fun _ _ _ h => h) (Or.inl ⟨by rfl, ?_⟩) ?_ ?_
                    rotate_left
                    · intro w'
                      go_simp
                      with_reducible rfl
                    rotate_left
                    · simp only [Act.put, List.setIfInBounds_toArray, List.set_cons_zero, List.set_cons_succ, i64_w, i32_w]
                      rfl
                    refine pure_ (i := 4) (N := some 47) (v := ?_) (a' := ?_) #[true, true, true, false, true, false, false, false, false] rfl rfl (by kernel_rfl) (fun _ _ _ h => h) (Or.inl ⟨by rfl, ?_⟩) ?_ ?_
                    rotate_left
                    · intro w'
                      go_simp
                      with_reducible rfl
                    rotate_left
                    · simp only [Act.put, List.setIfInBounds_toArray, List.set_cons_zero, List.set_cons_succ, i64_w, i32_w]
                      rfl
                    refine pure_ (i := 5) (N := some 48) (v := ?_) (a' := ?_) #[true, true, true, false, true, true, false, false, false] rfl rfl (by kernel_rfl) (fun _ _ _ h => h) (Or.inl ⟨by rfl, ?_⟩) ?_ ?_
                    rotate_left
                    · intro w'
                      go_simp
                      with_reducible rfl
                    rotate_left
                    · simp only [Act.put, List.setIfInBounds_toArray, List.set_cons_zero, List.set_cons_succ, i64_w, i32_w]
                      rfl
                    refine pure_ (i := 6) (N := some 49) (v := ?_) (a' := ?_) #[true, true, true, false, true, true, true, false, false] rfl rfl (by kernel_rfl) (fun _ _ _ h => h) (Or.inl ⟨by rfl, ?_⟩) ?_ ?_
                    rotate_left
                    · intro w'
                      go_simp
                      with_reducible rfl
                    rotate_left
                    · simp only [Act.put, List.setIfInBounds_toArray, List.set_cons_zero, List.set_cons_succ, i64_w, i32_w]
                      rfl
                    refine take_ (i := 3) (N := some 46) (v := ?_) (a' := ?_) #[true, true, true, true, true, true, true, false, false] rfl rfl (by kernel_rfl) (fun _ _ _ h => h) (Or.inl ⟨by rfl, ?_⟩) hHeld ?_ ?_
                    rotate_left
                    · rintro w' ⟨s0, s1⟩
                      go_simp
                      with_reducible rfl
                    rotate_left
                    · simp only [Act.put, List.setIfInBounds_toArray, List.set_cons_zero, List.set_cons_succ, i64_w, i32_w]
                      rfl
                    refine take_ (i := 7) (N := some 50) (v := ?_) (a' := ?_) #[true, true, true, true, true, true, true, true, false] rfl rfl (by kernel_rfl) (fun _ _ _ h => h) (Or.inl ⟨by rfl, ?_⟩) hHeld ?_ ?_
                    rotate_left
                    · rintro w' ⟨s0, s1⟩
                      go_simp
                      with_reducible rfl
                    rotate_left
                    · simp only [Act.put, List.setIfInBounds_toArray, List.set_cons_zero, List.set_cons_succ, i64_w, i32_w]
                      rfl
                    refine pure_ (i := 8) (N := some 51) (v := ?_) (a' := ?_) #[true, true, true, true, true, true, true, true, true] rfl rfl (by kernel_rfl) (fun _ _ _ h => h) (Or.inl ⟨by rfl, ?_⟩) ?_ ?_
                    rotate_left
                    · intro w'
                      go_simp
                      with_reducible rfl
                    rotate_left
                    · simp only [Act.put, List.setIfInBounds_toArray, List.set_cons_zero, List.set_cons_succ, i64_w, i32_w]
                      rfl
                    refine done_ (by kernel_rfl) ?_
                    go_wp2
                    go_meet
                    case rel => exact ⟨by first | rfl | (simp; done), ⟨below_drew HBb.out⟩⟩
                  case rest =>
                    obtain ⟨rfl, HBC⟩ := hcut
                    clear ca cb hxy
                    go_wp2_with fail
                    go_roundg gb
                    case measure => omega
                    case rel => exact ⟨b + 1, by first | go_num | (congr 1; unfold wrap64; omega), ⟨by have := HGb.out; omega⟩, HBC⟩
                · have hbl : (a : Int) ≤ b := by omega
                  clear hgb hb
                  go_wp2_with fail
                  go_roundg ga
                  case measure => omega
                  case rel => exact ⟨a + 1, by first | go_num | (congr 1; unfold wrap64; omega), ⟨by have := HGa.out; omega⟩, HBb⟩
            · have hal : (l.length : Int) ≤ a := by omega
              clear hga ha
              go_wp2_with fail
              go_roundg g0
              case measure => omega
              case rel => exact ⟨i + 1, by first | go_num | (congr 1; unfold wrap64; omega), ⟨by have := HG.out; omega⟩, ⟨below_then HB5.out HB5.out.size HBa.out⟩, ⟨t', HL5.out.on HBa.out⟩⟩
      · have hil : (ds.length : Int) ≤ i := by omega
        clear hgi hi
        go_wp2_with fail
        go_returns
        exact ⟨rfl, HB.out⟩
end
theorem row {w : World} (A : Option Addr) (c : Nat) (l : List SD) (hC : Kd.C kD w A l.length l) (_ : l.length ≤ c) (_ : ∀ x ∈ l, deedwf x) :
    Calls Try.prog 7 #[.slice A l.length c] w fun e w' => e = .returned (.bool true) ∧ Below w.heap.size w w' := few_c A c l w hC
end Go.Proofs.Ytnidcnmeonjjbaa.LayFew
