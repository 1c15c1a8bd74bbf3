/- A layout is made, a part is asked, a part is taken out, as contracts. -/
import Derived.Test.YtnidcnmeonjjbaaLayPanes
namespace Go.Proofs.Ytnidcnmeonjjbaa.LayMake
open Go.RowKit Go.Proofs.Ytnidcnmeonjjbaa.Kit Go.Proofs.Ytnidcnmeonjjbaa.Plain Go.Proofs.Ytnidcnmeonjjbaa.Mine Go.Proofs.Ytnidcnmeonjjbaa.LayPure Go.Proofs.Ytnidcnmeonjjbaa.LayNode Go.Proofs.Ytnidcnmeonjjbaa.LayPanes Go.Proofs.YtnidcnmeonjjbaaW.PrintWords Go.Proofs.YtnidcnmeonjjbaaW.PrintLast Go.Proofs.YtnidcnmeonjjbaaW.PrintMore
set_option linter.unusedVariables false
set_option linter.unusedSimpArgs false
section
set_option maxHeartbeats 800000
set_option maxRecDepth 100000
theorem new_c (p : Int) (w : World) : Calls Try.prog 9 #[.int .i64 p] w fun e w' => e = .returned (.pointer (some ⟨w.heap.size + 1, 0, none⟩)) ∧ LB w' (w.heap.size + 1) w.heap.size ∧ NB w' w.heap.size p false none none ∧ Below w.heap.size w w' := by
  go_enter Try.func9, Try.ntmps9
  go_wp2_with fail
  go_returns
  refine ⟨by simp, ?_, blk_alloc (blk_new w _) _, below_alloc (below_alloc (Below.refl _ _) _) _⟩
  have := blk_new (w.alloc (.cells #[.int .i64 p, .bool false, .pointer none, .pointer none] 63 (0, 0))) (.cells #[.pointer (some ⟨w.heap.size, 0, none⟩)] 65 (0, 0))
  rw [show (w.alloc (.cells #[.int .i64 p, .bool false, .pointer none, .pointer none] 63 (0, 0))).heap.size = w.heap.size + 1 from by simp] at this
  exact this
theorem is_c (t : BT) (p : Int) (w : World) (ht : Lies w t) : Calls Try.prog 34 #[.pointer (some ⟨t.root, 0, none⟩), .int .i64 p] w fun e w' => e = .returned (.bool (t.isLeaf p)) ∧ Below w.heap.size w w' := by
  have hu := Try.underlying63
  cases t with
  | leaf g x =>
    rw [show (BT.leaf g x).root = g from rfl, show (BT.leaf g x).isLeaf p = (x == p) from rfl]
    have c0 : w.cell? ⟨g, 0, none⟩ = some (.int .i64 x) := (blk_cell ht 0).trans rfl
    have c2 : w.cell? ⟨g, 2, none⟩ = some (.pointer none) := (blk_cell ht 2).trans rfl
    clear ht
    go_enter Try.func34, Try.ntmps34
    go_wp2_with fail
    go_returns
    exact ⟨rfl, Below.refl _ _⟩
  | part g f a b =>
    rw [show (BT.part g f a b).root = g from rfl, show (BT.part g f a b).isLeaf p = false from rfl]
    have c2 : w.cell? ⟨g, 2, none⟩ = some (.pointer (some ⟨a.root, 0, none⟩)) := (blk_cell ht.1 2).trans rfl
    clear ht
    go_enter Try.func34, Try.ntmps34
    go_wp2_with fail
    go_returns
    exact ⟨rfl, Below.refl _ _⟩
end
theorem _root_.Go.Proofs.Ytnidcnmeonjjbaa.LayNode.Lies.apart {W W1 W2 : World} {t : BT} {S : Nat → Prop} (h : Lies W t) (hb : Below W.heap.size W W1) (hk : Kept W1 W2 S) (hs : ∀ k ∈ t.blocks, ¬ S k) : Lies W2 t :=
  (h.below hb).move (fun g hg => hk.2 g ((h.below hb).lt g hg) (hs g hg))
theorem _root_.Go.Proofs.Ytnidcnmeonjjbaa.LayNode.Lies.kept {W W2 : World} {t : BT} {S : Nat → Prop} (h : Lies W t) (hk : Kept W W2 S) (hs : ∀ k ∈ t.blocks, ¬ S k) : Lies W2 t :=
  h.move (fun g hg => hk.2 g (h.lt g hg) (hs g hg))
theorem _root_.Go.Proofs.Ytnidcnmeonjjbaa.LayNode.Lies.put {W : World} {t : BT} (h : Lies W t) {g : Nat} (hg : g ∉ t.blocks) (j : Nat) (u : Value) : Lies (W.setCell ⟨g, j, none⟩ u) t :=
  h.move (fun k hk => Below.heap_setCell _ _ _ k (fun e => hg (by have e : k = g := e; rw [← e]; exact hk)))
/-- What a part's going out does with the memory. -/
structure Out (base : Nat) (w w' : World) (t : BT) (p : Int) : Prop where
  lies : Lies w' (t.without p)
  kept : Kept w w' (fun k => k ∈ t.blocks)
  below : Below base w w'
section
set_option maxHeartbeats 1600000
set_option maxRecDepth 100000
theorem without_c (p : Int) (base : Nat) : ∀ (t : BT) (w : World), Lies w t → t.blocks.Nodup → (∀ k ∈ t.blocks, base ≤ k) → Calls Try.prog 28 #[.pointer (some ⟨t.root, 0, none⟩), .int .i64 p] w fun e w' => e = .returned (.pointer (some ⟨(t.without p).root, 0, none⟩)) ∧ Out base w w' t p
  | .leaf g x, w, ht, hn, hbase => by
    have hu := Try.underlying63
    rw [show (BT.leaf g x).root = g from rfl, show ((BT.leaf g x).without p).root = g from rfl]
    have c2 : w.cell? ⟨g, 2, none⟩ = some (.pointer none) := (blk_cell ht 2).trans rfl
    have HT := Aside0.mk ht
    clear ht hn hbase
    go_enter Try.func28, Try.ntmps28
    go_wp2_with fail
    go_returns
    exact ⟨rfl, HT.out, Kept.refl _ _, Below.refl _ _⟩
  | .part g f a b, w, ht, hn, hbase => by
    have hu := Try.underlying63
    have HIA := Aside0.mk (fun W h => is_c a p W h)
    have HIB := Aside0.mk (fun W h => is_c b p W h)
    obtain ⟨hk, ha, hb⟩ := ht
    have hka : ∀ k ∈ a.blocks, k ∈ (BT.part g f a b).blocks := fun k h => List.mem_cons_of_mem _ (List.mem_append_left _ h)
    have hkb : ∀ k ∈ b.blocks, k ∈ (BT.part g f a b).blocks := fun k h => List.mem_cons_of_mem _ (List.mem_append_right _ h)
    have hng : g ∉ a.blocks ++ b.blocks := (List.nodup_cons.1 hn).1
    obtain ⟨hna, hnb, hd⟩ := List.nodup_append.1 (List.nodup_cons.1 hn).2
    have HWA := Aside0.mk (fun W h => without_c p base a W h hna (fun k hk => hbase k (hka k hk)))
    have HWB := Aside0.mk (fun W h => without_c p base b W h hnb (fun k hk => hbase k (hkb k hk)))
    have HD := Aside0.mk hd
    have HNG := Aside0.mk hng
    have HKA := Aside0.mk hka
    have HKB := Aside0.mk hkb
    have HBG := Aside0.mk (hbase g List.mem_cons_self)
    have HK := Aside0.mk hk
    have HA := Aside0.mk ha
    have HB := Aside0.mk hb
    have c2 : w.cell? ⟨g, 2, none⟩ = some (.pointer (some ⟨a.root, 0, none⟩)) := (blk_cell hk 2).trans rfl
    rw [show (BT.part g f a b).root = g from rfl]
    have HW := Aside0.mk (show (BT.part g f a b).without p = if a.isLeaf p then b else if b.isLeaf p then a else .part g f (a.without p) (b.without p) from rfl)
    obtain ⟨ra, hra⟩ : ∃ ra, ra = a.root := ⟨_, rfl⟩
    obtain ⟨rb, hrb⟩ : ∃ rb, rb = b.root := ⟨_, rfl⟩
    rw [← hra] at c2 HIA HWA HK
    rw [← hrb] at HIB HWB HK
    have HRA := Aside0.mk hra
    have HRB := Aside0.mk hrb
    have hup : base ≤ w.heap.size := Nat.le_trans HBG.out (Nat.le_of_lt (blk_lt hk))
    have HUP := Aside0.mk hup
    clear hk ha hb hn hbase hna hnb hd hng hka hkb hra hrb hup
    cases hea : a.isLeaf p with
    | true =>
      rw [hea] at HIA
      have HE := Aside0.mk hea
      rw [HW.out, hea, if_pos rfl, ← HRB.out]
      clear hea
      go_enter Try.func28, Try.ntmps28
      go_wp2_with fail
      refine (HIA.out w HA.out).mono ?_
      rintro e w1 ⟨rfl, hb1⟩
      have HB1 := Aside0.mk hb1
      have c3 : w1.cell? ⟨g, 3, none⟩ = some (.pointer (some ⟨rb, 0, none⟩)) := (blk_cell (blk_below HK.out hb1) 3).trans rfl
      clear hb1 c2
      go_wp2_with fail
      go_returns
      refine ⟨rfl, ?_, Kept.of_below HB1.out _, HB1.out.mono HUP.out⟩
      rw [HW.out, HE.out, if_pos rfl]
      exact HB.out.below HB1.out
    | false =>
      rw [hea] at HIA
      have HE := Aside0.mk (show (BT.part g f a b).without p = if b.isLeaf p then a else .part g f (a.without p) (b.without p) from by rw [HW.out, hea]; rfl)
      clear hea
      cases heb : b.isLeaf p with
      | true =>
        rw [heb] at HIB HE
        rw [HE.out, if_pos rfl, ← HRA.out]
        clear heb
        go_enter Try.func28, Try.ntmps28
        go_wp2_with fail
        refine (HIA.out w HA.out).mono ?_
        rintro e w1 ⟨rfl, hb1⟩
        have HB1 := Aside0.mk hb1
        have c3 : w1.cell? ⟨g, 3, none⟩ = some (.pointer (some ⟨rb, 0, none⟩)) := (blk_cell (blk_below HK.out hb1) 3).trans rfl
        clear hb1 c2
        go_wp2_with fail
        refine (HIB.out w1 (HB.out.below HB1.out)).mono ?_
        rintro e w2 ⟨rfl, hb2⟩
        have HB2 := Aside0.mk (below_kept HB1.out hb2)
        have c2 : w2.cell? ⟨g, 2, none⟩ = some (.pointer (some ⟨ra, 0, none⟩)) := (blk_cell (blk_below HK.out HB2.out) 2).trans rfl
        clear hb2 c3
        go_wp2_with fail
        go_returns
        refine ⟨rfl, ?_, Kept.of_below HB2.out _, HB2.out.mono HUP.out⟩
        rw [HE.out]
        first | rw [if_pos rfl] | rw [if_pos trivial]
        exact HA.out.below HB2.out
      | false =>
        rw [heb] at HIB HE
        rw [HE.out, if_neg (by decide), show (BT.part g f (a.without p) (b.without p)).root = g from rfl]
        obtain ⟨qa, hqa⟩ : ∃ qa, qa = (a.without p).root := ⟨_, rfl⟩
        obtain ⟨qb, hqb⟩ : ∃ qb, qb = (b.without p).root := ⟨_, rfl⟩
        rw [← hqa] at HWA
        rw [← hqb] at HWB
        have HQA := Aside0.mk hqa
        have HQB := Aside0.mk hqb
        clear heb hqa hqb
        go_enter Try.func28, Try.ntmps28
        go_wp2_with fail
        refine (HIA.out w HA.out).mono ?_
        rintro e w1 ⟨rfl, hb1⟩
        have HB1 := Aside0.mk hb1
        have c3 : w1.cell? ⟨g, 3, none⟩ = some (.pointer (some ⟨rb, 0, none⟩)) := (blk_cell (blk_below HK.out hb1) 3).trans rfl
        clear hb1 c2
        go_wp2_with fail
        refine (HIB.out w1 (HB.out.below HB1.out)).mono ?_
        rintro e w2 ⟨rfl, hb2⟩
        have HB2 := Aside0.mk (below_kept HB1.out hb2)
        have HK2 := Aside0.mk (blk_below HK.out HB2.out)
        have d2 : w2.drew.cell? ⟨g, 2, none⟩ = some (.pointer (some ⟨ra, 0, none⟩)) := (blk_cell (blk_drew HK2.out) 2).trans rfl
        have d3 : w2.drew.cell? ⟨g, 3, none⟩ = some (.pointer (some ⟨rb, 0, none⟩)) := (blk_cell (blk_drew HK2.out) 3).trans rfl
        have HA2 := Aside0.mk ((HA.out.below HB2.out : Lies w2 a))
        have HBI2 := Aside0.mk ((HB.out.below HB2.out : Lies w2 b))
        clear hb2 c3
        go_upto_region 7 with fail
        refine start_ (n := 20) (S := fun w' => w'.cell? ⟨g, 2, none⟩ = some (.pointer (some ⟨ra, 0, none⟩)) ∧ w'.cell? ⟨g, 3, none⟩ = some (.pointer (some ⟨rb, 0, none⟩))) (ds := [16, 19]) #[false, false, false, false, false, false, false, false, false, false, false, false, false, false, false, false, false, false, false, false] (by kernel_rfl) rfl rfl ⟨d2, d3⟩ (fun hHeld => ?_)
        refine pure_ (i := 0) (N := some 34) (v := ?_) (a' := ?_) #[true, false, false, false, false, false, false, false, false, false, false, false, false, false, false, false, false, false, false, false] rfl rfl (by kernel_rfl) (fun _ _ _ h => h) (Or.inl ⟨by rfl, ?_⟩) ?_ ?_
        rotate_left
        · intro w'
          go_simp
          with_reducible rfl
        rotate_left
        · simp only [Act.put, List.setIfInBounds_toArray, List.set_cons_zero, List.set_cons_succ, i64_w, i32_w]
          rfl
        refine pure_ (i := 1) (N := some 35) (v := ?_) (a' := ?_) #[true, true, false, false, false, false, false, false, false, false, false, false, false, false, false, false, false, false, false, false] rfl rfl (by kernel_rfl) (fun _ _ _ h => h) (Or.inl ⟨by rfl, ?_⟩) ?_ ?_
        rotate_left
        · intro w'
          go_simp
          with_reducible rfl
        rotate_left
        · simp only [Act.put, List.setIfInBounds_toArray, List.set_cons_zero, List.set_cons_succ, i64_w, i32_w]
          rfl
        refine pure_ (i := 2) (N := some 36) (v := ?_) (a' := ?_) #[true, true, true, false, false, false, false, false, false, false, false, false, false, false, false, false, false, false, false, false] rfl rfl (by kernel_rfl) (fun _ _ _ h => h) (Or.inl ⟨by rfl, ?_⟩) ?_ ?_
        rotate_left
        · intro w'
          go_simp
          with_reducible rfl
        rotate_left
        · simp only [Act.put, List.setIfInBounds_toArray, List.set_cons_zero, List.set_cons_succ, i64_w, i32_w]
          rfl
        refine pure_ (i := 3) (N := some 37) (v := ?_) (a' := ?_) #[true, true, true, true, false, false, false, false, false, false, false, false, false, false, false, false, false, false, false, false] rfl rfl (by kernel_rfl) (fun _ _ _ h => h) (Or.inl ⟨by rfl, ?_⟩) ?_ ?_
        rotate_left
        · intro w'
          go_simp
          with_reducible rfl
        rotate_left
        · simp only [Act.put, List.setIfInBounds_toArray, List.set_cons_zero, List.set_cons_succ, i64_w, i32_w]
          rfl
        refine pure_ (i := 4) (N := some 38) (v := ?_) (a' := ?_) #[true, true, true, true, true, false, false, false, false, false, false, false, false, false, false, false, false, false, false, false] rfl rfl (by kernel_rfl) (fun _ _ _ h => h) (Or.inl ⟨by rfl, ?_⟩) ?_ ?_
        rotate_left
        · intro w'
          go_simp
          with_reducible rfl
        rotate_left
        · simp only [Act.put, List.setIfInBounds_toArray, List.set_cons_zero, List.set_cons_succ, i64_w, i32_w]
          rfl
        refine pure_ (i := 6) (N := some 40) (v := ?_) (a' := ?_) #[true, true, true, true, true, false, true, false, false, false, false, false, false, false, false, false, false, false, false, false] rfl rfl (by kernel_rfl) (fun _ _ _ h => h) (Or.inl ⟨by rfl, ?_⟩) ?_ ?_
        rotate_left
        · intro w'
          go_simp
          with_reducible rfl
        rotate_left
        · simp only [Act.put, List.setIfInBounds_toArray, List.set_cons_zero, List.set_cons_succ, i64_w, i32_w]
          rfl
        refine pure_ (i := 8) (N := some 42) (v := ?_) (a' := ?_) #[true, true, true, true, true, false, true, false, true, false, false, false, false, false, false, false, false, false, false, false] rfl rfl (by kernel_rfl) (fun _ _ _ h => h) (Or.inl ⟨by rfl, ?_⟩) ?_ ?_
        rotate_left
        · intro w'
          go_simp
          with_reducible rfl
        rotate_left
        · simp only [Act.put, List.setIfInBounds_toArray, List.set_cons_zero, List.set_cons_succ, i64_w, i32_w]
          rfl
        refine pure_ (i := 9) (N := some 43) (v := ?_) (a' := ?_) #[true, true, true, true, true, false, true, false, true, true, false, false, false, false, false, false, false, false, false, false] rfl rfl (by kernel_rfl) (fun _ _ _ h => h) (Or.inl ⟨by rfl, ?_⟩) ?_ ?_
        rotate_left
        · intro w'
          go_simp
          with_reducible rfl
        rotate_left
        · simp only [Act.put, List.setIfInBounds_toArray, List.set_cons_zero, List.set_cons_succ, i64_w, i32_w]
          rfl
        refine pure_ (i := 10) (N := some 44) (v := ?_) (a' := ?_) #[true, true, true, true, true, false, true, false, true, true, true, false, false, false, false, false, false, false, false, false] rfl rfl (by kernel_rfl) (fun _ _ _ h => h) (Or.inl ⟨by rfl, ?_⟩) ?_ ?_
        rotate_left
        · intro w'
          go_simp
          with_reducible rfl
        rotate_left
        · simp only [Act.put, List.setIfInBounds_toArray, List.set_cons_zero, List.set_cons_succ, i64_w, i32_w]
          rfl
        refine pure_ (i := 12) (N := some 46) (v := ?_) (a' := ?_) #[true, true, true, true, true, false, true, false, true, true, true, false, true, false, false, false, false, false, false, false] rfl rfl (by kernel_rfl) (fun _ _ _ h => h) (Or.inl ⟨by rfl, ?_⟩) ?_ ?_
        rotate_left
        · intro w'
          go_simp
          with_reducible rfl
        rotate_left
        · simp only [Act.put, List.setIfInBounds_toArray, List.set_cons_zero, List.set_cons_succ, i64_w, i32_w]
          rfl
        refine take_ (i := 5) (N := some 39) (v := ?_) (a' := ?_) #[true, true, true, true, true, true, true, false, true, true, true, false, true, false, false, false, false, false, false, false] rfl rfl (by kernel_rfl) (fun _ _ _ h => h) (Or.inl ⟨by rfl, ?_⟩) hHeld ?_ ?_
        rotate_left
        · rintro w' ⟨s0, s1⟩
          go_simp
          with_reducible rfl
        rotate_left
        · simp only [Act.put, List.setIfInBounds_toArray, List.set_cons_zero, List.set_cons_succ, i64_w, i32_w]
          rfl
        refine take_ (i := 11) (N := some 45) (v := ?_) (a' := ?_) #[true, true, true, true, true, true, true, false, true, true, true, true, true, false, false, false, false, false, false, false] rfl rfl (by kernel_rfl) (fun _ _ _ h => h) (Or.inl ⟨by rfl, ?_⟩) hHeld ?_ ?_
        rotate_left
        · rintro w' ⟨s0, s1⟩
          go_simp
          with_reducible rfl
        rotate_left
        · simp only [Act.put, List.setIfInBounds_toArray, List.set_cons_zero, List.set_cons_succ, i64_w, i32_w]
          rfl
        refine one_ (i := 7) (N := some 41) #[true, true, true, true, true, true, true, true, true, true, true, true, true, false, false, false, false, false, false, false] rfl rfl (by kernel_rfl) (by decide) (fun K hK => ?_)
        refine goes_ Try.func28 (by kernel_rfl) rfl #[.pointer (some ⟨ra, 0, none⟩), .int .i64 p] (by rfl) rfl rfl (by simp only [List.map_toArray, List.map_cons, List.map_nil]; rfl) ?_
        with_reducible refine (HWA.out _ (HA2.out.below (below_drew (Below.refl _ _)))).mono ?_
        rintro e w3 ⟨rfl, ho3⟩
        refine ⟨_, rfl, ?_⟩
        have HO3 := Aside0.mk ho3
        have HK3 := Aside0.mk (blk_kept (blk_drew HK2.out) ho3.kept (fun h => HNG.out (List.mem_append_left _ h)))
        have HB3 := Aside0.mk (HBI2.out.apart (below_drew (Below.refl _ _)) ho3.kept (fun k h1 h2 => HD.out k h2 k h1 rfl))
        clear ho3
        have e2 := (blk_cell HK3.out 2).trans (rfl : _ = some (Value.pointer (some ⟨ra, 0, none⟩)))
        have e3 := (blk_cell HK3.out 3).trans (rfl : _ = some (Value.pointer (some ⟨rb, 0, none⟩)))
        refine hK.out _ _ ⟨e2, e3⟩ (fun hHeld => ?_)
        clear hK K
        refine norm_ (a' := ?_) ?_ ?_
        rotate_left
        · show Act.put _ (some 41) _ = _
          simp only [Act.put, List.setIfInBounds_toArray, List.set_cons_zero, List.set_cons_succ, i64_w, i32_w]
          rfl
        refine one_ (i := 13) (N := some 47) #[true, true, true, true, true, true, true, true, true, true, true, true, true, true, false, false, false, false, false, false] rfl rfl (by kernel_rfl) (by decide) (fun K hK => ?_)
        refine goes_ Try.func28 (by kernel_rfl) rfl #[.pointer (some ⟨rb, 0, none⟩), .int .i64 p] (by rfl) rfl rfl (by simp only [List.map_toArray, List.map_cons, List.map_nil]; rfl) ?_
        with_reducible refine (HWB.out _ HB3.out).mono ?_
        rintro e w4 ⟨rfl, ho4⟩
        refine ⟨_, rfl, ?_⟩
        have HO4 := Aside0.mk ho4
        have HK4 := Aside0.mk (blk_kept HK3.out ho4.kept (fun h => HNG.out (List.mem_append_right _ h)))
        clear ho4
        have h2 := (blk_cell HK4.out 2).trans (rfl : _ = some (Value.pointer (some ⟨ra, 0, none⟩)))
        have h3 := (blk_cell HK4.out 3).trans (rfl : _ = some (Value.pointer (some ⟨rb, 0, none⟩)))
        have fr2 := blk_frozen HK4.out 2
        have fr3 := blk_frozen HK4.out 3
        refine hK.out _ _ ⟨h2, h3⟩ (fun hHeld => ?_)
        clear hK K
        refine norm_ (a' := ?_) ?_ ?_
        rotate_left
        · show Act.put _ (some 47) _ = _
          simp only [Act.put, List.setIfInBounds_toArray, List.set_cons_zero, List.set_cons_succ, i64_w, i32_w]
          rfl
        refine pure_ (i := 14) (N := some 48) (v := ?_) (a' := ?_) #[true, true, true, true, true, true, true, true, true, true, true, true, true, true, true, false, false, false, false, false] rfl rfl (by kernel_rfl) (fun _ _ _ h => h) (Or.inl ⟨by rfl, ?_⟩) ?_ ?_
        rotate_left
        · intro w'
          go_simp
          with_reducible rfl
        rotate_left
        · simp only [Act.put, List.setIfInBounds_toArray, List.set_cons_zero, List.set_cons_succ, i64_w, i32_w]
          rfl
        refine pure_ (i := 15) (N := some 49) (v := ?_) (a' := ?_) #[true, true, true, true, true, true, true, true, true, true, true, true, true, true, true, true, false, false, false, false] rfl rfl (by kernel_rfl) (fun _ _ _ h => h) (Or.inl ⟨by rfl, ?_⟩) ?_ ?_
        rotate_left
        · intro w'
          go_simp
          with_reducible rfl
        rotate_left
        · simp only [Act.put, List.setIfInBounds_toArray, List.set_cons_zero, List.set_cons_succ, i64_w, i32_w]
          rfl
        refine last_ (i := 16) (N := none) #[true, true, true, true, true, true, true, true, true, true, true, true, true, true, true, true, true, false, false, false] rfl rfl (by kernel_rfl) (by decide) (fun K hK => ?_)
        refine skip_ (w1 := ?_) (by rfl) rfl ?_ ?_
        rotate_left
        · go_simp
          rfl
        refine hK.out _ _ ?_
        clear hK K
        refine pure_ (i := 17) (N := some 50) (v := ?_) (a' := ?_) #[true, true, true, true, true, true, true, true, true, true, true, true, true, true, true, true, true, true, false, false] rfl rfl (by kernel_rfl) (fun _ _ _ h => h) (Or.inl ⟨by rfl, ?_⟩) ?_ ?_
        rotate_left
        · intro w'
          go_simp
          with_reducible rfl
        rotate_left
        · simp only [Act.put, List.setIfInBounds_toArray, List.set_cons_zero, List.set_cons_succ, i64_w, i32_w]
          rfl
        refine pure_ (i := 18) (N := some 51) (v := ?_) (a' := ?_) #[true, true, true, true, true, true, true, true, true, true, true, true, true, true, true, true, true, true, true, false] rfl rfl (by kernel_rfl) (fun _ _ _ h => h) (Or.inl ⟨by rfl, ?_⟩) ?_ ?_
        rotate_left
        · intro w'
          go_simp
          with_reducible rfl
        rotate_left
        · simp only [Act.put, List.setIfInBounds_toArray, List.set_cons_zero, List.set_cons_succ, i64_w, i32_w]
          rfl
        refine last_ (i := 19) (N := none) #[true, true, true, true, true, true, true, true, true, true, true, true, true, true, true, true, true, true, true, true] rfl rfl (by kernel_rfl) (by decide) (fun K hK => ?_)
        refine skip_ (w1 := ?_) (by rfl) rfl ?_ ?_
        rotate_left
        · go_simp
          rfl
        refine hK.out _ _ ?_
        clear hK K
        refine done_ (by kernel_rfl) ?_
        go_wp2
        go_returns
        have sa := a.blocks_without p
        have sb := b.blocks_without p
        refine ⟨rfl, ?_, ?_, ?_⟩
        · rw [HE.out]
          first | rw [if_neg (by decide)] | rw [if_neg not_false]
          refine ⟨?_, ?_, ?_⟩
          · rw [← HQA.out, ← HQB.out]; exact blk_put (blk_put HK4.out 2 _ rfl) 3 _ rfl
          · refine Lies.put (Lies.put (HO3.out.lies.kept HO4.out.kept (fun k h1 h2 => HD.out k (sa.subset h1) k h2 rfl)) ?_ _ _) ?_ _ _
            all_goals exact fun h => HNG.out (List.mem_append_left _ (sa.subset h))
          · refine Lies.put (Lies.put HO4.out.lies ?_ _ _) ?_ _ _
            all_goals exact fun h => HNG.out (List.mem_append_right _ (sb.subset h))
        · refine Kept.setCell (Kept.setCell (((Kept.of_below (below_drew HB2.out) _).then_ HO3.out.kept (fun k h => .inl (HKA.out k h))).then_ HO4.out.kept (fun k h => .inl (HKB.out k h))) ?_ _) ?_ _
          all_goals exact .inl List.mem_cons_self
        · exact ((((below_drew HB2.out).mono HUP.out).trans HO3.out.below).trans HO4.out.below |>.setCell HBG.out _).setCell HBG.out _
end
end Go.Proofs.Ytnidcnmeonjjbaa.LayMake
