/- The reference's Remove, as a contract. -/
import Derived.Test.YtnidcnmeonjjbaaLayRefC
import Derived.Deep.CutBlock
namespace Go.Proofs.Ytnidcnmeonjjbaa.LayRefD
open Go.RowKit Go.Proofs.Ytnidcnmeonjjbaa.Kit Go.Proofs.Ytnidcnmeonjjbaa.Plain Go.Proofs.Ytnidcnmeonjjbaa.Mine Go.Proofs.Ytnidcnmeonjjbaa.LayPure Go.Proofs.Ytnidcnmeonjjbaa.LayRefPure Go.Proofs.Ytnidcnmeonjjbaa.LayRefA Go.Proofs.Ytnidcnmeonjjbaa.LayRefB Go.Proofs.Ytnidcnmeonjjbaa.LayRefC Go.Proofs.YtnidcnmeonjjbaaW.PrintWords Go.Proofs.YtnidcnmeonjjbaaW.PrintLast Go.Proofs.YtnidcnmeonjjbaaW.PrintMore
set_option linter.unusedVariables false
set_option linter.unusedSimpArgs false
/-- What stands at the end of a Remove. -/
structure Ended (base : Nat) (w w' : World) (m g cap : Nat) (ps : List PN) (t : BT) (p : Int) : Prop where
  ref : ∃ ps' t', REF base w' m g cap ps' t' ∧ t'.plain = t.plain.without p ∧ ps'.length ≤ ps.length + 2
  turn : Turn base w w'
theorem ended {base : Nat} {w w1 w2 : World} {m g cap : Nat} {ps : List PN} {t : BT} {p : Int} {i k o : Nat} {x y : PN} (R : REF base w1 m g cap ps t) (hb : Below w.heap.size w w1) (hbase : base ≤ w.heap.size) (C : Cut ps t p i k o) (hi : ps[i]? = some x) (hy : ps[o]? = some y) (hne : t.plain ≠ .leaf p)
    (hw : w2 = (((w1.setCell ⟨g, i * 4, none⟩ (.int .i64 y.p)).setCell ⟨g, i * 4 + 1, none⟩ (.bool y.f)).setCell ⟨g, i * 4 + 2, none⟩ (.int .i64 y.a)).setCell ⟨g, i * 4 + 3, none⟩ (.int .i64 y.b)) : Ended base w w2 m g cap ps t p := by
  obtain ⟨hs, hg⟩ := set_N R.row i x y hi
  rw [← hw] at hs hg
  have hmg : m ≠ g := fun e => R.row.1 g (by simp [Value.ownBlock]) e.symm
  have h6 : base ≤ g := Kd.R_base R.row g (by simp [Value.ownBlock])
  have hl : (ps.set i y).length = ps.length := List.length_set
  refine ⟨⟨ps.set i y, BT.withoutR t p, ⟨?_, ?_, ri_out R.ri C R.good.1 hy, ?_, R.hm⟩, plain_withoutR p t, by rw [hl]; omega⟩, ?_, ?_⟩
  · rw [hl, hw]
    exact blk_far (blk_far (blk_far (blk_far R.blk hmg _) hmg _) hmg _) hmg _
  · rw [hl]; exact hs
  · rw [plain_withoutR]; exact good_without R.good hne
  · rw [hw]
    exact ((((hb.mono hbase).setCell h6 _).setCell h6 _).setCell h6 _).setCell h6 _
  · intro z u hu hty
    have h1 : w1.heap[z]? = some u := blk_below hu hb
    have e3 : z ≠ g := by
      rintro rfl
      obtain ⟨inner, hown⟩ := Kd.R_own R.row
      obtain ⟨cs, hcs⟩ := own_typed hown z (by simp [Value.ownBlock])
      rw [hcs] at h1
      exact (hty _ _ (Option.some.inj h1).symm).2 rfl
    rw [hw, Below.heap_setCell _ _ _ z e3, Below.heap_setCell _ _ _ z e3, Below.heap_setCell _ _ _ z e3, Below.heap_setCell _ _ _ z e3]
    exact h1
section
set_option maxHeartbeats 6400000
set_option maxRecDepth 100000
theorem rremove_c (base m g cap : Nat) (ps : List PN) (t : BT) (p q : Int) (f : Bool) (w : World) (R : REF base w m g cap ps t) (hl : ps.length < 1000) :
    Calls Try.prog 11 #[.pointer (some ⟨m, 0, none⟩), .int .i64 p] w fun e w' => ∃ g' cap' ps' t', e = .returned (.int .i64 (deedT t.plain p q f true).2) ∧ REF base w' m g' cap' ps' t' ∧ t'.plain = (deedT t.plain p q f true).1 ∧ ps'.length ≤ ps.length + 2 ∧ Turn base w w' := by
  have hun := Try.underlying67
  have hul := Try.underlying40
  have HFP := Aside0.mk (fun W h => rfind_c m (some ⟨g, 0, none⟩) cap ps p t R.ri.rep W h)
  rw [R.ri.root] at HFP
  have HR := Aside0.mk R
  have HL := Aside0.mk hl
  have c1 := (blk_cell R.blk 1).trans (rfl : _ = some (Value.int .i64 0))
  cases hp : BT.findL t p with
  | none =>
    rw [hp] at HFP
    have HD := Aside0.mk (show deedT t.plain p q f true = (t.plain, 4) from by unfold deedT; rw [if_pos rfl, if_neg ((findL_none t p).1 hp)])
    clear R hp hl
    rw [HD.out]
    rw [show resI none = (-1 : Int) from rfl] at HFP
    go_enter Try.func11, Try.ntmps11
    go_wp2_with fail
    refine (HFP.out w (HR.out.rf (by have := HL.out; omega))).mono ?_
    rintro e w1 ⟨rfl, hb⟩
    have HB1 := Aside0.mk hb
    clear hb c1
    go_wp2_with fail
    go_returns
    exact ⟨g, cap, ps, t, rfl, HR.out.on HB1.out, rfl, Nat.le_add_right _ _, Turn.of_below HB1.out HR.out.up⟩
  | some k =>
    rw [hp] at HFP
    rw [show resI (some k) = (k : Int) from rfl] at HFP
    have hp1 : p ∈ t.plain.leaves := by
      apply Classical.byContradiction
      intro e
      have := (findL_none t p).2 e
      rw [hp] at this
      cases this
    have e1 : decide ((k : Int) < 0) = false := decide_eq_false (by omega)
    cases hlf : t.isLeaf p with
    | true =>
      have hk : k = 0 := by
        have := findL_leaf hlf
        rw [hp, R.ri.root] at this
        exact Option.some.inj this
      have HD := Aside0.mk (show deedT t.plain p q f true = (t.plain, 3) from by
        unfold deedT
        rw [if_pos rfl, if_pos hp1, leaf_of hlf]
        rfl)
      subst hk
      clear R hp hl hp1 hlf
      rw [HD.out]
      go_enter Try.func11, Try.ntmps11
      go_wp2_with fail
      refine (HFP.out w (HR.out.rf (by have := HL.out; omega))).mono ?_
      rintro e w1 ⟨rfl, hb⟩
      have HR1 := Aside0.mk (HR.out.on hb)
      have HB1 := Aside0.mk hb
      clear c1
      have c1 := (blk_cell HR1.out.blk 1).trans (rfl : _ = some (Value.int .i64 0))
      clear hb
      go_wp2_with fail
      go_returns
      exact ⟨g, cap, ps, t, rfl, HR.out.on HB1.out, rfl, Nat.le_add_right _ _, Turn.of_below HB1.out HR.out.up⟩
    | false =>
      have hnl : t.plain ≠ .leaf p := fun e => by
        have := (t.isLeaf_plain p).2 e
        rw [hlf] at this; cases this
      have HNL := Aside0.mk hnl
      have HD := Aside0.mk (show deedT t.plain p q f true = (t.plain.without p, 0) from by
        unfold deedT
        rw [if_pos rfl, if_pos hp1]
        cases e : t.plain with
        | leaf x =>
          rw [e] at hp1
          have : p = x := List.mem_singleton.1 hp1
          rw [e, this] at hnl
          exact absurd rfl hnl
        | part _ _ _ => rfl)
      obtain ⟨i, k', o, C⟩ := cut_ex R.ri.rep R.ri.nd R.good.1 hp1 hlf
      have hkk : k' = k := by have := C.found; rw [hp] at this; exact (Option.some.inj this).symm
      subst hkk
      have HC := Aside0.mk C
      obtain ⟨x, hx, hxa, hxx⟩ := C.at_
      have HX := Aside0.mk hx
      have hop : o < ps.length := R.ri.rep.lt o (par_kid_blocks C.po)
      have hip : i < ps.length := R.ri.rep.lt i (par_mem C.pk)
      obtain ⟨y, hy⟩ : ∃ y, ps[o]? = some y := ⟨_, List.getElem?_eq_getElem hop⟩
      have HY := Aside0.mk hy
      have HXX := Aside0.mk (And.intro hxa hxx)
      have hik := R.ri.inc i k' C.pk
      have e2 : ((k' : Int) == 0) = false := beq_eq_false_iff_ne.mpr (by omega)
      have hopi : (o : Int) < ps.length := by omega
      have hipi : (i : Int) < ps.length := by omega
      have hll : (ps.length : Int) < 1000 := by omega
      have HKO := Aside0.mk C.ne
      clear R hp hp1 hl hlf hnl C hx hxa hxx hy hik
      rw [HD.out]
      go_enter Try.func11, Try.ntmps11
      go_wp2_with fail
      refine (HFP.out w (HR.out.rf (by have := HL.out; omega))).mono ?_
      rintro e w1 ⟨rfl, hb⟩
      have HR1 := Aside0.mk (HR.out.on hb)
      have HB1 := Aside0.mk hb
      clear c1
      have c1 := (blk_cell HR1.out.blk 1).trans (rfl : _ = some (Value.int .i64 0))
      clear hb
      go_wp2_with fail
      go_loopg [6, 7] i (fun gg v6 v7 W => ∃ (j : Nat), v6 = .int .i64 (-1) ∧ v7 = .int .i64 (j : Int) ∧ Aside0 (gg + j = i) ∧ Aside0 (Below w.heap.size w W))
      case atStart => exact ⟨0, rfl, rfl, ⟨by omega⟩, HB1⟩
      case round =>
        clear c1
        obtain ⟨j, rfl, rfl, HG, HB⟩ := hrel
        have HRr := Aside0.mk (HR.out.on HB.out)
        have m0 := (blk_cell HRr.out.blk 0).trans (rfl : _ = some (Value.slice (some ⟨g, 0, none⟩) ps.length cap))
        have hgi := HG.out
        have hjp : j < ps.length := by omega
        have hjl : (j : Int) < ps.length := by omega
        obtain ⟨z, hz⟩ : ∃ z, ps[j]? = some z := ⟨_, List.getElem?_eq_getElem hjp⟩
        have HZ := Aside0.mk hz
        obtain ⟨hcell, hfr, _⟩ := cells_N HRr.out.row j z hz
        obtain ⟨z0, z1, z2, z3⟩ := z
        have n0 : wr.cell? ⟨g, j * 4, none⟩ = some (.int .i64 z0) := hcell 0 _ rfl
        have n1 : wr.cell? ⟨g, j * 4 + 1, none⟩ = some (.bool z1) := hcell 1 _ rfl
        have n2 : wr.cell? ⟨g, j * 4 + 2, none⟩ = some (.int .i64 z2) := hcell 2 _ rfl
        have n3 : wr.cell? ⟨g, j * 4 + 3, none⟩ = some (.int .i64 z3) := hcell 3 _ rfl
        clear hz hcell hfr
        by_cases hji : j < i
        · obtain ⟨g0, rfl⟩ : ∃ g0, gk = g0 + 1 := ⟨gk - 1, by omega⟩
          have hna := none_ahead HRr.out.ri HC.out hji HZ.out
          dsimp only at hna
          have t1 : (z2 == (k' : Int)) = false := beq_eq_false_iff_ne.mpr hna.1
          have hna2 := hna.2
          clear hgi hji hna
          by_cases hz2 : 0 ≤ z2
          · have t2 : decide ((0 : Int) ≤ z2) = true := decide_eq_true hz2
            have t3 : (z3 == (k' : Int)) = false := beq_eq_false_iff_ne.mpr (fun e => hna2 ⟨hz2, e⟩)
            clear hna2
            go_wp2_with fail
            go_roundg g0
            case measure => omega
            case rel => exact ⟨j + 1, rfl, by first | go_num | (congr 1; unfold wrap64; omega), ⟨by have := HG.out; omega⟩, ⟨below_alloc HB.out _⟩⟩
          · have t2 : decide ((0 : Int) ≤ z2) = false := decide_eq_false hz2
            clear hna2 hz2
            go_wp2_with fail
            go_roundg g0
            case measure => omega
            case rel => exact ⟨j + 1, rfl, by first | go_num | (congr 1; unfold wrap64; omega), ⟨by have := HG.out; omega⟩, ⟨below_alloc HB.out _⟩⟩
        · obtain rfl : j = i := by omega
          have hxz := HZ.out
          rw [HX.out] at hxz
          have hxz := Option.some.inj hxz
          obtain ⟨hz2, hzz⟩ := HXX.out
          rw [hxz] at hz2 hzz
          dsimp only at hz2 hzz
          have t2 : decide ((0 : Int) ≤ z2) = true := decide_eq_true hz2
          have t4 : decide ((0 : Int) ≤ (o : Int)) = true := decide_eq_true (by omega)
          clear hgi hji hxz hz2
          rcases hzz with ⟨ha, hb⟩ | ⟨ha, hb⟩
          · subst ha hb
            go_upto_region 16 with fail
            have HR8 := Aside0.mk (HRr.out.on (below_alloc (Below.refl wr.heap.size wr) (.cells #[.int .i64 z0, .bool z1, .int .i64 k', .int .i64 o] 67)))
            have HB8 := Aside0.mk (below_kept HB.out (below_alloc (Below.refl wr.heap.size wr) (.cells #[.int .i64 z0, .bool z1, .int .i64 k', .int .i64 o] 67)))
            obtain ⟨w8, hw8⟩ : ∃ w8, w8 = wr.alloc (.cells #[.int .i64 z0, .bool z1, .int .i64 k', .int .i64 o] 67) := ⟨_, rfl⟩
            rw [← hw8] at HR8 HB8
            have HW8 := Aside0.mk hw8
            obtain ⟨ycell, yfr, _⟩ := cells_N HR8.out.row o y HY.out
            obtain ⟨xcell, xfr, _⟩ := cells_N HR8.out.row j _ HZ.out
            clear n0 n1 n2 n3 m0 hw8
            have m0 := (blk_cell HR8.out.blk 0).trans (rfl : _ = some (Value.slice (some ⟨g, 0, none⟩) ps.length cap))
            have y0 : w8.cell? ⟨g, o * 4, none⟩ = some (.int .i64 y.p) := ycell 0 _ rfl
            have y1 : w8.cell? ⟨g, o * 4 + 1, none⟩ = some (.bool y.f) := ycell 1 _ rfl
            have y2 : w8.cell? ⟨g, o * 4 + 2, none⟩ = some (.int .i64 y.a) := ycell 2 _ rfl
            have y3 : w8.cell? ⟨g, o * 4 + 3, none⟩ = some (.int .i64 y.b) := ycell 3 _ rfl
            have x0 : w8.cell? ⟨g, j * 4, none⟩ = some (.int .i64 z0) := xcell 0 _ rfl
            have x1 : w8.cell? ⟨g, j * 4 + 1, none⟩ = some (.bool z1) := xcell 1 _ rfl
            have x2 : w8.cell? ⟨g, j * 4 + 2, none⟩ = some (.int .i64 k') := xcell 2 _ rfl
            have x3 : w8.cell? ⟨g, j * 4 + 3, none⟩ = some (.int .i64 o) := xcell 3 _ rfl
            have f0 : w8.frozen? ⟨g, j * 4, none⟩ = false := xfr 0
            have f1 := xfr 1
            have f2 := xfr 2
            have f3 := xfr 3
            have HZZ := HZ
            obtain ⟨yp, yf, ya, yb⟩ := y
            dsimp only at y0 y1 y2 y3
            clear ycell yfr xcell xfr
            rw [HW8.out] at m0 y0 y1 y2 y3 x0 x1 x2 x3 f0 f1 f2 f3
            refine start_ (n := 14) (S := fun w' => w'.cell? ⟨m, 0, none⟩ = some (.slice (some ⟨g, 0, none⟩) ps.length cap) ∧ w'.cell? ⟨g, o * 4, none⟩ = some (.int .i64 yp) ∧ w'.cell? ⟨g, o * 4 + 1, none⟩ = some (.bool yf) ∧ w'.cell? ⟨g, o * 4 + 2, none⟩ = some (.int .i64 ya) ∧ w'.cell? ⟨g, o * 4 + 3, none⟩ = some (.int .i64 yb)) (ds := [13]) #[false, false, false, false, false, false, false, false, false, false, false, false, false, false] (by kernel_rfl) rfl rfl ⟨m0, y0, y1, y2, y3⟩ (fun hHeld => ?_)
            refine pure_ (i := 0) (N := some 59) (v := ?_) (a' := ?_) #[true, false, false, false, false, false, false, false, false, false, false, false, false, false] rfl rfl (by kernel_rfl) (fun _ _ _ h => h) (Or.inl ⟨by rfl, ?_⟩) ?_ ?_
            rotate_left
            · intro w'
              go_simp
              with_reducible rfl
            rotate_left
            · simp only [Act.put, List.setIfInBounds_toArray, List.set_cons_zero, List.set_cons_succ, i64_w, i32_w]
              rfl
            refine pure_ (i := 1) (N := some 60) (v := ?_) (a' := ?_) #[true, true, false, false, false, false, false, false, false, false, false, false, false, false] rfl rfl (by kernel_rfl) (fun _ _ _ h => h) (Or.inl ⟨by rfl, ?_⟩) ?_ ?_
            rotate_left
            · intro w'
              go_simp
              with_reducible rfl
            rotate_left
            · simp only [Act.put, List.setIfInBounds_toArray, List.set_cons_zero, List.set_cons_succ, i64_w, i32_w]
              rfl
            refine pure_ (i := 2) (N := some 61) (v := ?_) (a' := ?_) #[true, true, true, false, false, false, false, false, false, false, false, false, false, false] rfl rfl (by kernel_rfl) (fun _ _ _ h => h) (Or.inl ⟨by rfl, ?_⟩) ?_ ?_
            rotate_left
            · intro w'
              go_simp
              with_reducible rfl
            rotate_left
            · simp only [Act.put, List.setIfInBounds_toArray, List.set_cons_zero, List.set_cons_succ, i64_w, i32_w]
              rfl
            refine pure_ (i := 4) (N := some 63) (v := ?_) (a' := ?_) #[true, true, true, false, true, false, false, false, false, false, false, false, false, false] rfl rfl (by kernel_rfl) (fun _ _ _ h => h) (Or.inl ⟨by rfl, ?_⟩) ?_ ?_
            rotate_left
            · intro w'
              go_simp
              with_reducible rfl
            rotate_left
            · simp only [Act.put, List.setIfInBounds_toArray, List.set_cons_zero, List.set_cons_succ, i64_w, i32_w]
              rfl
            refine pure_ (i := 5) (N := some 64) (v := ?_) (a' := ?_) #[true, true, true, false, true, true, false, false, false, false, false, false, false, false] rfl rfl (by kernel_rfl) (fun _ _ _ h => h) (Or.inl ⟨by rfl, ?_⟩) ?_ ?_
            rotate_left
            · intro w'
              go_simp
              with_reducible rfl
            rotate_left
            · simp only [Act.put, List.setIfInBounds_toArray, List.set_cons_zero, List.set_cons_succ, i64_w, i32_w]
              rfl
            refine pure_ (i := 6) (N := some 65) (v := ?_) (a' := ?_) #[true, true, true, false, true, true, true, false, false, false, false, false, false, false] rfl rfl (by kernel_rfl) (fun _ _ _ h => h) (Or.inl ⟨by rfl, ?_⟩) ?_ ?_
            rotate_left
            · intro w'
              go_simp
              with_reducible rfl
            rotate_left
            · simp only [Act.put, List.setIfInBounds_toArray, List.set_cons_zero, List.set_cons_succ, i64_w, i32_w]
              rfl
            refine pure_ (i := 7) (N := some 66) (v := ?_) (a' := ?_) #[true, true, true, false, true, true, true, true, false, false, false, false, false, false] rfl rfl (by kernel_rfl) (fun _ _ _ h => h) (Or.inl ⟨by rfl, ?_⟩) ?_ ?_
            rotate_left
            · intro w'
              go_simp
              with_reducible rfl
            rotate_left
            · simp only [Act.put, List.setIfInBounds_toArray, List.set_cons_zero, List.set_cons_succ, i64_w, i32_w]
              rfl
            refine pure_ (i := 9) (N := some 68) (v := ?_) (a' := ?_) #[true, true, true, false, true, true, true, true, false, true, false, false, false, false] rfl rfl (by kernel_rfl) (fun _ _ _ h => h) (Or.inl ⟨by rfl, ?_⟩) ?_ ?_
            rotate_left
            · intro w'
              go_simp
              with_reducible rfl
            rotate_left
            · simp only [Act.put, List.setIfInBounds_toArray, List.set_cons_zero, List.set_cons_succ, i64_w, i32_w]
              rfl
            refine take_ (i := 3) (N := some 62) (v := ?_) (a' := ?_) #[true, true, true, true, true, true, true, true, false, true, false, false, false, false] rfl rfl (by kernel_rfl) (fun _ _ _ h => h) (Or.inl ⟨by rfl, ?_⟩) hHeld ?_ ?_
            rotate_left
            · rintro w' ⟨s0, s1, s2, s3, s4⟩
              go_simp
              with_reducible rfl
            rotate_left
            · simp only [Act.put, List.setIfInBounds_toArray, List.set_cons_zero, List.set_cons_succ, i64_w, i32_w]
              rfl
            refine take_ (i := 8) (N := some 67) (v := ?_) (a' := ?_) #[true, true, true, true, true, true, true, true, true, true, false, false, false, false] rfl rfl (by kernel_rfl) (fun _ _ _ h => h) (Or.inl ⟨by rfl, ?_⟩) hHeld ?_ ?_
            rotate_left
            · rintro w' ⟨s0, s1, s2, s3, s4⟩
              go_simp
              with_reducible rfl
            rotate_left
            · simp only [Act.put, List.setIfInBounds_toArray, List.set_cons_zero, List.set_cons_succ, i64_w, i32_w]
              rfl
            refine pure_ (i := 10) (N := some 69) (v := ?_) (a' := ?_) #[true, true, true, true, true, true, true, true, true, true, true, false, false, false] rfl rfl (by kernel_rfl) (fun _ _ _ h => h) (Or.inl ⟨by rfl, ?_⟩) ?_ ?_
            rotate_left
            · intro w'
              go_simp
              with_reducible rfl
            rotate_left
            · simp only [Act.put, List.setIfInBounds_toArray, List.set_cons_zero, List.set_cons_succ, i64_w, i32_w]
              rfl
            refine take_ (i := 11) (N := some 70) (v := ?_) (a' := ?_) #[true, true, true, true, true, true, true, true, true, true, true, true, false, false] rfl rfl (by kernel_rfl) (fun _ _ _ h => h) (Or.inl ⟨by rfl, ?_⟩) hHeld ?_ ?_
            rotate_left
            · rintro w' ⟨s0, s1, s2, s3, s4⟩
              go_simp
              with_reducible rfl
            rotate_left
            · simp only [Act.put, List.setIfInBounds_toArray, List.set_cons_zero, List.set_cons_succ, i64_w, i32_w]
              rfl
            refine pure_ (i := 12) (N := some 71) (v := ?_) (a' := ?_) #[true, true, true, true, true, true, true, true, true, true, true, true, true, false] rfl rfl (by kernel_rfl) (fun _ _ _ h => h) (Or.inl ⟨by rfl, ?_⟩) ?_ ?_
            rotate_left
            · intro w'
              go_simp
              with_reducible rfl
            rotate_left
            · simp only [Act.put, List.setIfInBounds_toArray, List.set_cons_zero, List.set_cons_succ, i64_w, i32_w]
              rfl
            refine last_ (i := 13) (N := none) #[true, true, true, true, true, true, true, true, true, true, true, true, true, true] rfl rfl (by kernel_rfl) (by decide) (fun K hK => ?_)
            refine skip_ (w1 := ?_) (by rfl) rfl ?_ ?_
            rotate_left
            · go_simp
              rfl
            refine hK.out _ _ ?_
            clear hK K
            refine done_ (by kernel_rfl) ?_
            go_wp2_with fail
            go_returns
            have hend := ended (w2 := _) HR8.out HB8.out HR.out.up HC.out HZ.out HY.out HNL.out rfl
            obtain ⟨⟨ps', t', h1, h2, h3⟩, h4⟩ := hend
            rw [HW8.out] at h1 h4
            exact ⟨g, cap, ps', t', rfl, h1.on (below_drew (Below.refl _ _)), h2, h3, ⟨below_drew h4.below, h4.rest⟩⟩
          · have t1 : (z2 == (k' : Int)) = false := beq_eq_false_iff_ne.mpr (by have := HKO.out; omega)
            subst ha hb
            go_upto_region 16 with fail
            have HR8 := Aside0.mk (HRr.out.on (below_alloc (Below.refl wr.heap.size wr) (.cells #[.int .i64 z0, .bool z1, .int .i64 o, .int .i64 k'] 67)))
            have HB8 := Aside0.mk (below_kept HB.out (below_alloc (Below.refl wr.heap.size wr) (.cells #[.int .i64 z0, .bool z1, .int .i64 o, .int .i64 k'] 67)))
            obtain ⟨w8, hw8⟩ : ∃ w8, w8 = wr.alloc (.cells #[.int .i64 z0, .bool z1, .int .i64 o, .int .i64 k'] 67) := ⟨_, rfl⟩
            rw [← hw8] at HR8 HB8
            have HW8 := Aside0.mk hw8
            obtain ⟨ycell, yfr, _⟩ := cells_N HR8.out.row o y HY.out
            obtain ⟨xcell, xfr, _⟩ := cells_N HR8.out.row j _ HZ.out
            clear n0 n1 n2 n3 m0 hw8
            have m0 := (blk_cell HR8.out.blk 0).trans (rfl : _ = some (Value.slice (some ⟨g, 0, none⟩) ps.length cap))
            have y0 : w8.cell? ⟨g, o * 4, none⟩ = some (.int .i64 y.p) := ycell 0 _ rfl
            have y1 : w8.cell? ⟨g, o * 4 + 1, none⟩ = some (.bool y.f) := ycell 1 _ rfl
            have y2 : w8.cell? ⟨g, o * 4 + 2, none⟩ = some (.int .i64 y.a) := ycell 2 _ rfl
            have y3 : w8.cell? ⟨g, o * 4 + 3, none⟩ = some (.int .i64 y.b) := ycell 3 _ rfl
            have x0 : w8.cell? ⟨g, j * 4, none⟩ = some (.int .i64 z0) := xcell 0 _ rfl
            have x1 : w8.cell? ⟨g, j * 4 + 1, none⟩ = some (.bool z1) := xcell 1 _ rfl
            have x2 : w8.cell? ⟨g, j * 4 + 2, none⟩ = some (.int .i64 o) := xcell 2 _ rfl
            have x3 : w8.cell? ⟨g, j * 4 + 3, none⟩ = some (.int .i64 k') := xcell 3 _ rfl
            have f0 : w8.frozen? ⟨g, j * 4, none⟩ = false := xfr 0
            have f1 := xfr 1
            have f2 := xfr 2
            have f3 := xfr 3
            have HZZ := HZ
            obtain ⟨yp, yf, ya, yb⟩ := y
            dsimp only at y0 y1 y2 y3
            clear ycell yfr xcell xfr
            rw [HW8.out] at m0 y0 y1 y2 y3 x0 x1 x2 x3 f0 f1 f2 f3
            refine start_ (n := 14) (S := fun w' => w'.cell? ⟨m, 0, none⟩ = some (.slice (some ⟨g, 0, none⟩) ps.length cap) ∧ w'.cell? ⟨g, o * 4, none⟩ = some (.int .i64 yp) ∧ w'.cell? ⟨g, o * 4 + 1, none⟩ = some (.bool yf) ∧ w'.cell? ⟨g, o * 4 + 2, none⟩ = some (.int .i64 ya) ∧ w'.cell? ⟨g, o * 4 + 3, none⟩ = some (.int .i64 yb)) (ds := [13]) #[false, false, false, false, false, false, false, false, false, false, false, false, false, false] (by kernel_rfl) rfl rfl ⟨m0, y0, y1, y2, y3⟩ (fun hHeld => ?_)
            refine pure_ (i := 0) (N := some 59) (v := ?_) (a' := ?_) #[true, false, false, false, false, false, false, false, false, false, false, false, false, false] rfl rfl (by kernel_rfl) (fun _ _ _ h => h) (Or.inl ⟨by rfl, ?_⟩) ?_ ?_
            rotate_left
            · intro w'
              go_simp
              with_reducible rfl
            rotate_left
            · simp only [Act.put, List.setIfInBounds_toArray, List.set_cons_zero, List.set_cons_succ, i64_w, i32_w]
              rfl
            refine pure_ (i := 1) (N := some 60) (v := ?_) (a' := ?_) #[true, true, false, false, false, false, false, false, false, false, false, false, false, false] rfl rfl (by kernel_rfl) (fun _ _ _ h => h) (Or.inl ⟨by rfl, ?_⟩) ?_ ?_
            rotate_left
            · intro w'
              go_simp
              with_reducible rfl
            rotate_left
            · simp only [Act.put, List.setIfInBounds_toArray, List.set_cons_zero, List.set_cons_succ, i64_w, i32_w]
              rfl
            refine pure_ (i := 2) (N := some 61) (v := ?_) (a' := ?_) #[true, true, true, false, false, false, false, false, false, false, false, false, false, false] rfl rfl (by kernel_rfl) (fun _ _ _ h => h) (Or.inl ⟨by rfl, ?_⟩) ?_ ?_
            rotate_left
            · intro w'
              go_simp
              with_reducible rfl
            rotate_left
            · simp only [Act.put, List.setIfInBounds_toArray, List.set_cons_zero, List.set_cons_succ, i64_w, i32_w]
              rfl
            refine pure_ (i := 4) (N := some 63) (v := ?_) (a' := ?_) #[true, true, true, false, true, false, false, false, false, false, false, false, false, false] rfl rfl (by kernel_rfl) (fun _ _ _ h => h) (Or.inl ⟨by rfl, ?_⟩) ?_ ?_
            rotate_left
            · intro w'
              go_simp
              with_reducible rfl
            rotate_left
            · simp only [Act.put, List.setIfInBounds_toArray, List.set_cons_zero, List.set_cons_succ, i64_w, i32_w]
              rfl
            refine pure_ (i := 5) (N := some 64) (v := ?_) (a' := ?_) #[true, true, true, false, true, true, false, false, false, false, false, false, false, false] rfl rfl (by kernel_rfl) (fun _ _ _ h => h) (Or.inl ⟨by rfl, ?_⟩) ?_ ?_
            rotate_left
            · intro w'
              go_simp
              with_reducible rfl
            rotate_left
            · simp only [Act.put, List.setIfInBounds_toArray, List.set_cons_zero, List.set_cons_succ, i64_w, i32_w]
              rfl
            refine pure_ (i := 6) (N := some 65) (v := ?_) (a' := ?_) #[true, true, true, false, true, true, true, false, false, false, false, false, false, false] rfl rfl (by kernel_rfl) (fun _ _ _ h => h) (Or.inl ⟨by rfl, ?_⟩) ?_ ?_
            rotate_left
            · intro w'
              go_simp
              with_reducible rfl
            rotate_left
            · simp only [Act.put, List.setIfInBounds_toArray, List.set_cons_zero, List.set_cons_succ, i64_w, i32_w]
              rfl
            refine pure_ (i := 7) (N := some 66) (v := ?_) (a' := ?_) #[true, true, true, false, true, true, true, true, false, false, false, false, false, false] rfl rfl (by kernel_rfl) (fun _ _ _ h => h) (Or.inl ⟨by rfl, ?_⟩) ?_ ?_
            rotate_left
            · intro w'
              go_simp
              with_reducible rfl
            rotate_left
            · simp only [Act.put, List.setIfInBounds_toArray, List.set_cons_zero, List.set_cons_succ, i64_w, i32_w]
              rfl
            refine pure_ (i := 9) (N := some 68) (v := ?_) (a' := ?_) #[true, true, true, false, true, true, true, true, false, true, false, false, false, false] rfl rfl (by kernel_rfl) (fun _ _ _ h => h) (Or.inl ⟨by rfl, ?_⟩) ?_ ?_
            rotate_left
            · intro w'
              go_simp
              with_reducible rfl
            rotate_left
            · simp only [Act.put, List.setIfInBounds_toArray, List.set_cons_zero, List.set_cons_succ, i64_w, i32_w]
              rfl
            refine take_ (i := 3) (N := some 62) (v := ?_) (a' := ?_) #[true, true, true, true, true, true, true, true, false, true, false, false, false, false] rfl rfl (by kernel_rfl) (fun _ _ _ h => h) (Or.inl ⟨by rfl, ?_⟩) hHeld ?_ ?_
            rotate_left
            · rintro w' ⟨s0, s1, s2, s3, s4⟩
              go_simp
              with_reducible rfl
            rotate_left
            · simp only [Act.put, List.setIfInBounds_toArray, List.set_cons_zero, List.set_cons_succ, i64_w, i32_w]
              rfl
            refine take_ (i := 8) (N := some 67) (v := ?_) (a' := ?_) #[true, true, true, true, true, true, true, true, true, true, false, false, false, false] rfl rfl (by kernel_rfl) (fun _ _ _ h => h) (Or.inl ⟨by rfl, ?_⟩) hHeld ?_ ?_
            rotate_left
            · rintro w' ⟨s0, s1, s2, s3, s4⟩
              go_simp
              with_reducible rfl
            rotate_left
            · simp only [Act.put, List.setIfInBounds_toArray, List.set_cons_zero, List.set_cons_succ, i64_w, i32_w]
              rfl
            refine pure_ (i := 10) (N := some 69) (v := ?_) (a' := ?_) #[true, true, true, true, true, true, true, true, true, true, true, false, false, false] rfl rfl (by kernel_rfl) (fun _ _ _ h => h) (Or.inl ⟨by rfl, ?_⟩) ?_ ?_
            rotate_left
            · intro w'
              go_simp
              with_reducible rfl
            rotate_left
            · simp only [Act.put, List.setIfInBounds_toArray, List.set_cons_zero, List.set_cons_succ, i64_w, i32_w]
              rfl
            refine take_ (i := 11) (N := some 70) (v := ?_) (a' := ?_) #[true, true, true, true, true, true, true, true, true, true, true, true, false, false] rfl rfl (by kernel_rfl) (fun _ _ _ h => h) (Or.inl ⟨by rfl, ?_⟩) hHeld ?_ ?_
            rotate_left
            · rintro w' ⟨s0, s1, s2, s3, s4⟩
              go_simp
              with_reducible rfl
            rotate_left
            · simp only [Act.put, List.setIfInBounds_toArray, List.set_cons_zero, List.set_cons_succ, i64_w, i32_w]
              rfl
            refine pure_ (i := 12) (N := some 71) (v := ?_) (a' := ?_) #[true, true, true, true, true, true, true, true, true, true, true, true, true, false] rfl rfl (by kernel_rfl) (fun _ _ _ h => h) (Or.inl ⟨by rfl, ?_⟩) ?_ ?_
            rotate_left
            · intro w'
              go_simp
              with_reducible rfl
            rotate_left
            · simp only [Act.put, List.setIfInBounds_toArray, List.set_cons_zero, List.set_cons_succ, i64_w, i32_w]
              rfl
            refine last_ (i := 13) (N := none) #[true, true, true, true, true, true, true, true, true, true, true, true, true, true] rfl rfl (by kernel_rfl) (by decide) (fun K hK => ?_)
            refine skip_ (w1 := ?_) (by rfl) rfl ?_ ?_
            rotate_left
            · go_simp
              rfl
            refine hK.out _ _ ?_
            clear hK K
            refine done_ (by kernel_rfl) ?_
            go_wp2_with fail
            go_returns
            have hend := ended (w2 := _) HR8.out HB8.out HR.out.up HC.out HZ.out HY.out HNL.out rfl
            obtain ⟨⟨ps', t', h1, h2, h3⟩, h4⟩ := hend
            rw [HW8.out] at h1 h4
            exact ⟨g, cap, ps', t', rfl, h1.on (below_drew (Below.refl _ _)), h2, h3, ⟨below_drew h4.below, h4.rest⟩⟩
end
end Go.Proofs.Ytnidcnmeonjjbaa.LayRefD
