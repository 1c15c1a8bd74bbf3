/- The law LayoutUndoes is true: a split that is undone leaves all boxes as they were. -/
import Derived.Test.YtnidcnmeonjjbaaLayMade
namespace Go.Proofs.Ytnidcnmeonjjbaa.LayUndo
open Go.RowKit Go.Proofs.Ytnidcnmeonjjbaa.Kit Go.Proofs.Ytnidcnmeonjjbaa.Plain Go.Proofs.Ytnidcnmeonjjbaa.Mine Go.Proofs.Ytnidcnmeonjjbaa.LayPure Go.Proofs.Ytnidcnmeonjjbaa.LayNode Go.Proofs.Ytnidcnmeonjjbaa.LayPanes Go.Proofs.Ytnidcnmeonjjbaa.LayMake Go.Proofs.Ytnidcnmeonjjbaa.LayDeed Go.Proofs.Ytnidcnmeonjjbaa.LayDeedK Go.Proofs.Ytnidcnmeonjjbaa.LaySmall Go.Proofs.Ytnidcnmeonjjbaa.LayPlace Go.Proofs.Ytnidcnmeonjjbaa.LayBoxes Go.Proofs.Ytnidcnmeonjjbaa.LayTilePure Go.Proofs.Ytnidcnmeonjjbaa.LayMade Go.Proofs.YtnidcnmeonjjbaaW.PrintWords Go.Proofs.YtnidcnmeonjjbaaW.PrintLast Go.Proofs.YtnidcnmeonjjbaaW.PrintMore
set_option linter.unusedVariables false
set_option linter.unusedSimpArgs false
/-- A split either changes nothing, or is one. -/
theorem split_ways {t : T} (p q : Int) (f : Bool) : ((deedT t p q f false).2 = 0 ∧ p ∈ t.leaves ∧ q ∉ t.leaves ∧ t.leaves.length ≠ 6 ∧ (deedT t p q f false).1 = t.split p q f) ∨ ((4 ≤ (deedT t p q f false).2 ∧ (deedT t p q f false).2 ≤ 6) ∧ (deedT t p q f false).1 = t) := by
  unfold deedT
  rw [if_neg (by decide)]
  by_cases hp : p ∈ t.leaves
  · rw [if_pos hp]
    by_cases hq : q ∈ t.leaves
    · rw [if_pos hq]; exact .inr ⟨⟨show (4 : Int) ≤ 6 by decide, show (6 : Int) ≤ 6 by decide⟩, rfl⟩
    · rw [if_neg hq]
      by_cases h6 : t.leaves.length = 6
      · rw [if_pos h6]; exact .inr ⟨⟨show (4 : Int) ≤ 5 by decide, show (5 : Int) ≤ 6 by decide⟩, rfl⟩
      · rw [if_neg h6]; exact .inl ⟨rfl, hp, hq, h6, rfl⟩
  · rw [if_neg hp]; exact .inr ⟨⟨show (4 : Int) ≤ 4 by decide, show (4 : Int) ≤ 6 by decide⟩, rfl⟩
/-- .. and the new one's going out takes it back. -/
theorem undo {t : T} (hg : LayPure.Good t) {p q : Int} {f : Bool} (hp : p ∈ t.leaves) (hq : q ∉ t.leaves) (f2 : Bool) (r : Int) : deedT (t.split p q f) q r f2 true = (t, 0) := by
  have hm : q ∈ (t.split p q f).leaves := by
    rw [leaves_split]
    exact List.mem_flatMap.2 ⟨p, hp, by rw [if_pos rfl]; simp⟩
  have hw := without_split p q f t hg.1 hq hp (not_leaf_of_two hq)
  cases e : t.split p q f with
  | leaf x =>
    exfalso
    cases t with
    | leaf y =>
      have : p = y := by simpa [T.leaves] using hp
      rw [T.split, if_pos this.symm] at e
      cases e
    | part g a b => cases e
  | part g a b =>
    rw [e] at hm hw
    unfold deedT
    rw [if_pos rfl, if_pos hm]
    show ((T.part g a b).without q, (0 : Int)) = (t, 0)
    rw [hw]
section
set_option maxHeartbeats 6400000
set_option maxRecDepth 100000
theorem undo_big (A : Option Addr) (c n : Nat) (p q : Int) (f a : Bool) (u v : Int) (w : World) (h100 : 100 < n) (hm : n ≤ maxLen) :
    Calls Try.prog 6 #[.slice A n c, .agg #[.int .i64 p, .int .i64 q, .bool f, .bool a], .agg #[.int .i64 u, .int .i64 v]] w fun e w' => e = .returned (.bool true) ∧ Below w.heap.size w w' := by
  have hd : (100 : Int) < n := by omega
  have h2 : (n : Int) ≤ 9223372036854775807 := by unfold maxLen at hm; omega
  clear h100 hm
  go_enter Try.func6, Try.ntmps6
  go_wp2_with fail
  have hb0 := below_alloc (below_alloc (Below.refl w.heap.size w) (.cells #[.int .i64 p, .int .i64 q, .bool f, .bool a] 29)) (.cells #[.int .i64 u, .int .i64 v] 56)
  refine (fit_c _).mono ?_
  rintro e w1 ⟨rfl, hb⟩
  have HB := Aside0.mk (below_then hb0 hb0.size hb)
  clear hb hb0
  go_wp2_with fail
  go_returns
  exact ⟨rfl, HB.out⟩
theorem undo_c (A : Option Addr) (c : Nat) (ds : List SD) (p q : Int) (f a : Bool) (u v : Int) (w : World) (hr : Kd.C kD w A ds.length ds) (hn : ds.length ≤ 100) (hwf : ∀ d ∈ ds, deedwf d) (hq : (Lit.int .i64 q).wf = true) :
    Calls Try.prog 6 #[.slice A ds.length c, .agg #[.int .i64 p, .int .i64 q, .bool f, .bool a], .agg #[.int .i64 u, .int .i64 v]] w fun e w' => e = .returned (.bool true) ∧ Below w.heap.size w w' := by
  have hd : (ds.length : Int) ≤ 100 := by omega
  have hud := Try.underlying29
  have HR := Aside0.mk hr
  have HN := Aside0.mk hn
  obtain ⟨T, hT⟩ : ∃ T, T = afterT (.leaf 0) ds := ⟨_, rfl⟩
  have HT := Aside0.mk hT
  have HG := Aside0.mk (show LayPure.Good T from by rw [hT]; exact good_after (good_leaf 0) ds)
  have HW := Aside0.mk (show ∀ x ∈ T.leaves, (Lit.int .i64 x).wf = true from by rw [hT]; exact wf_after (good_leaf 0) ds wf_zero hwf)
  have HQ := Aside0.mk hq
  clear hr hn hwf hq hT
  obtain ⟨w2, hw2⟩ : ∃ w2, w2 = (w.alloc (.cells #[.int .i64 p, .int .i64 q, .bool f, .bool a] 29)).alloc (.cells #[.int .i64 u, .int .i64 v] 56) := ⟨_, rfl⟩
  obtain ⟨gd, hgd⟩ : ∃ g, g = w.heap.size := ⟨_, rfl⟩
  have hb2 : Below w.heap.size w w2 := by rw [hw2]; exact below_alloc (below_alloc (Below.refl _ _) _) _
  have HB2 := Aside0.mk hb2
  have HKD := Aside0.mk (show w2.heap[gd]? = some (.cells #[.int .i64 p, .int .i64 q, .bool f, .bool a] 29 (0, 0)) from by rw [hw2, hgd]; exact blk_alloc (blk_new w _) _)
  have HKS := Aside0.mk (show w2.heap[gd + 1]? = some (.cells #[.int .i64 u, .int .i64 v] 56 (0, 0)) from by
    have := blk_new (w.alloc (.cells #[.int .i64 p, .int .i64 q, .bool f, .bool a] 29)) (.cells #[.int .i64 u, .int .i64 v] 56)
    rw [show (w.alloc (.cells #[.int .i64 p, .int .i64 q, .bool f, .bool a] 29)).heap.size = w.heap.size + 1 from by simp] at this
    rw [hw2, hgd]; exact this)
  clear hb2
  go_enter Try.func6, Try.ntmps6
  go_wp2_with fail
  rw [← hw2, ← hgd]
  clear hw2 hgd
  refine (fit_c w2).mono ?_
  rintro e w3 ⟨rfl, hb⟩
  have HB3 := Aside0.mk (below_then HB2.out HB2.out.size hb)
  have HKD3 := Aside0.mk (blk_below HKD.out hb)
  have HKS3 := Aside0.mk (blk_below HKS.out hb)
  clear hb HKD HKS
  go_wp2_with fail
  refine (made_c A c ds w3 (Kd.C_below HR.out HB3.out) HN.out).mono ?_
  rintro e w4 ⟨h, t, rfl, hL, ht, hb⟩
  rw [← HT.out] at ht
  have HL4 := Aside0.mk (LAY.lower hL HB3.out.size)
  have HT4 := Aside0.mk ht
  have HB4 := Aside0.mk (below_then HB3.out HB3.out.size hb)
  have HKD4 := Aside0.mk (blk_below HKD3.out hb)
  have HKS4 := Aside0.mk (blk_below HKS3.out hb)
  have s0 := (blk_cell HKS4.out 0).trans (rfl : _ = some (Value.int .i64 u))
  have s1 := (blk_cell HKS4.out 1).trans (rfl : _ = some (Value.int .i64 v))
  clear hb hL ht HKD3 HKS3
  go_wp2_with fail
  refine (boxes_c h t u v w4 HL4.out.lb HL4.out.lies (by rw [HT4.out]; exact HW.out) HL4.out.good).mono ?_
  rw [HT4.out]
  rintro e w5 ⟨M, A5, c5, rfl, hm, hrow, hM, hb⟩
  obtain ⟨bx, hbx⟩ : ∃ bx, bx = boxesT T (whole u v) := ⟨_, rfl⟩
  obtain ⟨nl, hnl⟩ : ∃ nl, nl = (linesT T (whole u v)).length := ⟨_, rfl⟩
  rw [← hbx] at hm
  rw [← hnl]
  have HBX := Aside0.mk hbx
  have HNL := Aside0.mk hnl
  have HM5 := Aside0.mk hm
  have HL5 := Aside0.mk (HL4.out.on hb)
  have HB5 := Aside0.mk (below_then HB4.out HB4.out.size hb)
  have HKD5 := Aside0.mk (blk_below HKD4.out hb)
  have HKS5 := Aside0.mk (blk_below HKS4.out hb)
  have HMs := Aside0.mk hM
  clear hb hm hrow hM hbx hnl HKD4 HKS4 s0 s1
  go_wp2_with fail
  refine (panes_c h t w5 HL5.out.lb HL5.out.lies (by have := HL5.out.few; omega)).mono ?_
  rw [HT4.out]
  rintro e w6 ⟨vp, rfl, hv, hb⟩
  obtain ⟨A6, c6, rfl⟩ := Kd.R_slice hv
  have HC6 := Aside0.mk (Kd.R_reads' hv).2.2
  have HRP6 := Aside0.mk hv
  have HL6 := Aside0.mk (HL5.out.on hb)
  have HM6 := Aside0.mk (HM5.out.below hb)
  have HB6 := Aside0.mk (below_then HB5.out HB5.out.size hb)
  have HKD6 := Aside0.mk (blk_below HKD5.out hb)
  have HKS6 := Aside0.mk (blk_below HKS5.out hb)
  have d0 := (blk_cell HKD6.out 0).trans (rfl : _ = some (Value.int .i64 p))
  have d1 := (blk_cell HKD6.out 1).trans (rfl : _ = some (Value.int .i64 q))
  have d2 := (blk_cell HKD6.out 2).trans (rfl : _ = some (Value.bool f))
  clear hb hv HKD5 HKS5 HM5
  have HS := Aside0.mk (split_c w.heap.size h t p q f w6 HL6.out)
  rw [HT4.out] at HS
  rcases split_ways (t := T) p q f with ⟨hz, hp, hq, h6, hs⟩ | ⟨hz, hs⟩
  · have HU := Aside0.mk (undo HG.out hp hq (f := f) false 0)
    have hlen := (good_split HG.out hp hq h6 (f := f)).2
    rw [hz, hs] at HS
    clear hz hp hq h6 hs
    go_wp2_with fail
    refine HS.out.mono ?_
    rintro e w7 ⟨t', rfl, hp, hdid⟩
    have HL7 := Aside0.mk hdid.lay
    have HP7 := Aside0.mk hp
    have HB7 := Aside0.mk (HB6.out.trans hdid.below)
    have HRP7 := Aside0.mk (Did.row hdid HL6.out HRP6.out (by intro q hq; simp [Kd.int, Kd.scalar] at hq; rw [hq]; decide))
    have HM7 := Aside0.mk (Did.map hdid HL6.out HM6.out)
    have HKD7 := Aside0.mk ((Did.apart hdid HL6.out HKD6.out (by decide) (by decide)).trans HKD6.out)
    have HKS7 := Aside0.mk ((Did.apart hdid HL6.out HKS6.out (by decide) (by decide)).trans HKS6.out)
    clear hp hdid HS d0 d1 d2 HRP6 HM6 HKD6 HKS6
    go_wp2_with fail
    refine (panes_c h t' w7 HL7.out.lb HL7.out.lies (by have := HL7.out.few; omega)).mono ?_
    rw [HP7.out]
    rintro e w8 ⟨vp, rfl, hv, hb⟩
    obtain ⟨A8, c8, rfl⟩ := Kd.R_slice hv
    rw [hlen]
    obtain ⟨n, hn⟩ : ∃ n, n = T.leaves.length := ⟨_, rfl⟩
    have HNn := Aside0.mk hn
    have hn6 : (n : Int) ≤ 6 := by have := HG.out.2; omega
    rw [← hn]
    have ge : (((n + 1 : Nat) : Int) != (n : Int) + 1) = false := by
      rw [Int.natCast_add]; simp
    have HL8 := Aside0.mk (HL7.out.on hb)
    have HRP8 := Aside0.mk (Kd.R_below HRP7.out hb)
    have HM8 := Aside0.mk (HM7.out.below hb)
    have HB8 := Aside0.mk (below_then HB7.out HB7.out.size hb)
    have HKD8 := Aside0.mk (blk_below HKD7.out hb)
    have HKS8 := Aside0.mk (blk_below HKS7.out hb)
    have d1 := (blk_cell HKD8.out 1).trans (rfl : _ = some (Value.int .i64 q))
    clear hb hv hlen hn HRP7 HM7 HKD7 HKS7
    have HRM := Aside0.mk (remove_c w.heap.size h t' q 0 false w8 HL8.out)
    rw [HP7.out, HU.out] at HRM
    go_wp2_with fail
    refine HRM.out.mono ?_
    rintro e w9 ⟨t2, rfl, hp, hdid⟩
    have HL9 := Aside0.mk hdid.lay
    have HP9 := Aside0.mk (show t2.plain = T from hp)
    have HB9 := Aside0.mk (HB8.out.trans hdid.below)
    have HRP9 := Aside0.mk (Did.row hdid HL8.out HRP8.out (by intro q hq; simp [Kd.int, Kd.scalar] at hq; rw [hq]; decide))
    have HM9 := Aside0.mk (Did.map hdid HL8.out HM8.out)
    have HKS9 := Aside0.mk ((Did.apart hdid HL8.out HKS8.out (by decide) (by decide)).trans HKS8.out)
    clear hp hdid HRM d1 HRP8 HM8 HKD8 HKS8
    go_wp2_with fail
    refine (panes_c h t2 w9 HL9.out.lb HL9.out.lies (by have := HL9.out.few; omega)).mono ?_
    rw [HP9.out]
    rintro e w10 ⟨vp, rfl, hv, hb⟩
    obtain ⟨A10, c10, rfl⟩ := Kd.R_slice hv
    have HC10 := Aside0.mk (Kd.R_reads' hv).2.2
    have HL10 := Aside0.mk (HL9.out.on hb)
    have HRP10 := Aside0.mk (Kd.R_reads' (Kd.R_below HRP9.out hb)).2.2
    have HM10 := Aside0.mk (HM9.out.below hb)
    have HB10 := Aside0.mk (below_then HB9.out HB9.out.size hb)
    have HKS10 := Aside0.mk (blk_below HKS9.out hb)
    have HINT := Aside0.mk (ints_c A10 A6 c10 c6 T.leaves w10 HC10.out HRP10.out (by have := HG.out.2; omega))
    rw [← HNn.out] at HINT ⊢
    clear hb hv HRP9 HM9 HKS9
    go_wp2_with fail
    refine HINT.out.mono ?_
    rintro e w11 ⟨rfl, hb⟩
    have HL11 := Aside0.mk (HL10.out.on hb)
    have HC11 := Aside0.mk (Kd.C_below HRP10.out hb)
    have HM11 := Aside0.mk (HM10.out.below hb)
    have HB11 := Aside0.mk (below_then HB10.out HB10.out.size hb)
    have HKS11 := Aside0.mk (blk_below HKS10.out hb)
    have s0 := (blk_cell HKS11.out 0).trans (rfl : _ = some (Value.int .i64 u))
    have s1 := (blk_cell HKS11.out 1).trans (rfl : _ = some (Value.int .i64 v))
    clear hb HINT HC10 HRP10 HM10 HKS10
    go_wp2_with fail
    refine (boxes_c h t2 u v w11 HL11.out.lb HL11.out.lies (by rw [HP9.out]; exact HW.out) HL11.out.good).mono ?_
    rw [HP9.out]
    rintro e w12 ⟨M2, A12, c12, rfl, hm, hrow, hM, hb⟩
    rw [← HBX.out] at hm
    rw [← HNL.out]
    have HC12 := Aside0.mk (Kd.C_below HC11.out hb)
    have HM12 := Aside0.mk (HM11.out.below hb)
    have HN12 := Aside0.mk hm
    have HB12 := Aside0.mk (below_then HB11.out HB11.out.size hb)
    clear hb hm hrow hM s0 s1 HKS11 HM11 HC11
    go_wp2_with fail
    go_loopg [78] n (fun g v78 W => ∃ (i : Nat), v78 = .int .i64 (i : Int) ∧ Aside0 (g + i = n) ∧ Aside0 (Below w12.heap.size w12 W))
    case atStart => exact ⟨0, rfl, ⟨by omega⟩, ⟨Below.refl _ _⟩⟩
    case round =>
      obtain ⟨i, rfl, HGi, HBi⟩ := hrel
      have hgi := HGi.out
      by_cases hi : i < n
      · obtain ⟨g0, rfl⟩ : ∃ g0, gk = g0 + 1 := ⟨gk - 1, by omega⟩
        have hil : (i : Int) < n := by omega
        have hil2 : i < T.leaves.length := by have := HNn.out; omega
        have hil3 : i < bx.length := by rw [HBX.out, boxes_len]; exact hil2
        obtain ⟨ad, ead, k0⟩ := Kd.at_int (Kd.C_below HC12.out HBi.out) (i : Int) (by omega) (by omega)
        obtain ⟨x, hx⟩ : ∃ x, x = rd T.leaves (i : Int) := ⟨_, rfl⟩
        obtain ⟨b, hb⟩ : ∃ b, b = bx[i].2 := ⟨_, rfl⟩
        have hxb : (x, b) ∈ bx := by
          have e : bx[i] = (x, b) := by
            have e1 : bx[i].1 = x := by
              rw [hx, rd_nth _ i hil2]
              simp only [HBX.out]
              exact box_at T (whole u v) i hil2 (by rw [← HBX.out]; exact hil3)
            rw [hb, ← e1]
          rw [← e]; exact List.getElem_mem hil3
        have hwx : (Lit.int .i64 x).wf = true := HW.out x (by rw [hx, rd_nth _ i hil2]; exact List.getElem_mem hil2)
        rw [Int.toNat_natCast, ← hx] at k0
        have l1 := (HM12.out.below HBi.out).look x b hxb hwx
        have l2 := (HN12.out.below HBi.out).look x b hxb hwx
        have l3 := fun W => neq_same b W
        have l4 := fun W o1 o2 => guard_box b b o1 o2 W
        obtain ⟨B, hB⟩ : ∃ B, B = b.val := ⟨_, rfl⟩
        rw [← hB] at l1 l2 l3 l4
        subst ead
        clear hgi hi hil2 hil3 hx hb hxb hwx hB
        go_wp2_with fail
        go_roundg g0
        case measure => omega
        case rel => exact ⟨i + 1, by first | go_num | (congr 1; unfold wrap64; omega), ⟨by have := HGi.out; omega⟩, HBi⟩
      · have hil : (n : Int) ≤ i := by omega
        have l1 := fun ty => (HM12.out.below HBi.out).len ty
        have l2 := fun ty => (HN12.out.below HBi.out).len ty
        obtain ⟨k, hk⟩ : ∃ k, k = bx.length := ⟨_, rfl⟩
        rw [← hk] at l1 l2
        clear hgi hi hk
        go_wp2_with fail
        go_returns
        exact ⟨by simp, below_then HB12.out HB12.out.size HBi.out⟩
  · obtain ⟨z, hzz⟩ : ∃ z, z = (deedT T p q f false).2 := ⟨_, rfl⟩
    rw [← hzz] at HS hz
    rw [hs] at HS
    have z1 : (z == 0) = false := beq_eq_false_iff_ne.mpr (by omega)
    have hz1 := hz.1
    have hz2 := hz.2
    clear hzz hs hz
    go_wp2_with fail
    refine HS.out.mono ?_
    rintro e w7 ⟨t', rfl, hp, hdid⟩
    have HL7 := Aside0.mk hdid.lay
    have HP7 := Aside0.mk hp
    have HB7 := Aside0.mk (HB6.out.trans hdid.below)
    have HC7 := Aside0.mk (Kd.R_reads' (Did.row hdid HL6.out HRP6.out (by intro q hq; simp [Kd.int, Kd.scalar] at hq; rw [hq]; decide))).2.2
    clear hp hdid HS d0 d1 d2
    go_wp2_with fail
    refine (panes_c h t' w7 HL7.out.lb HL7.out.lies (by have := HL7.out.few; omega)).mono ?_
    rw [HP7.out]
    rintro e w8 ⟨vp, rfl, hv, hb⟩
    obtain ⟨A8, c8, rfl⟩ := Kd.R_slice hv
    have HC8 := Aside0.mk (Kd.R_reads' hv).2.2
    have HC8' := Aside0.mk (Kd.C_below HC7.out hb)
    have HB8 := Aside0.mk (below_then HB7.out HB7.out.size hb)
    clear hb hv
    go_wp2_with fail
    refine (ints_c A8 A6 c8 c6 T.leaves w8 HC8.out HC8'.out (by have := HG.out.2; omega)).mono ?_
    rintro e w9 ⟨rfl, hb⟩
    have HB9 := Aside0.mk (below_then HB8.out HB8.out.size hb)
    clear hb
    go_wp2_with fail
    go_returns
    exact ⟨rfl, HB9.out⟩
end
theorem row {w : World} (A : Option Addr) (c : Nat) (l : List SD) (hC : Kd.C kD w A l.length l) (_ : l.length ≤ c) (hl : ∀ x ∈ l, deedwf x) (x : SD) (hx : deedwf x) (u v : Int) (_ : (Lit.int .i64 u).wf = true) (_ : (Lit.int .i64 v).wf = true) :
    Calls Try.prog 6 #[.slice A l.length c, .agg #[.int .i64 x.p, .int .i64 x.q, .bool x.f, .bool x.a], .agg #[.int .i64 u, .int .i64 v]] w fun e w' => e = .returned (.bool true) ∧ Below w.heap.size w w' := by
  by_cases h : 100 < l.length
  · exact undo_big A c _ _ _ _ _ u v w h (by have := hC.2.1; unfold maxLen; omega)
  · exact undo_c A c l _ _ _ _ u v w hC (by omega) hl hx.2
end Go.Proofs.Ytnidcnmeonjjbaa.LayUndo
