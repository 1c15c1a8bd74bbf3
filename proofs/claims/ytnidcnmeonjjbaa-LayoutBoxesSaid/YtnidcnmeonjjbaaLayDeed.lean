/- What a deed does with a layout: Split, Remove and the law's Do, as contracts. -/
import Derived.Test.YtnidcnmeonjjbaaLayMake
namespace Go.Proofs.Ytnidcnmeonjjbaa.LayDeed
open Go.RowKit Go.Proofs.Ytnidcnmeonjjbaa.Kit Go.Proofs.Ytnidcnmeonjjbaa.Plain Go.Proofs.Ytnidcnmeonjjbaa.Mine Go.Proofs.Ytnidcnmeonjjbaa.LayPure Go.Proofs.Ytnidcnmeonjjbaa.LayNode Go.Proofs.Ytnidcnmeonjjbaa.LayPanes Go.Proofs.Ytnidcnmeonjjbaa.LayMake Go.Proofs.YtnidcnmeonjjbaaW.PrintWords Go.Proofs.YtnidcnmeonjjbaaW.PrintLast Go.Proofs.YtnidcnmeonjjbaaW.PrintMore
set_option linter.unusedVariables false
set_option linter.unusedSimpArgs false
theorem typed {W : World} : ∀ {t : BT}, Lies W t → ∀ k ∈ t.blocks, ∃ cs, W.heap[k]? = some (.cells cs 63 (0, 0))
  | .leaf g p, h, k, hk => by rw [List.mem_singleton.1 hk]; exact ⟨_, h⟩
  | .part g f a b, h, k, hk => by
    rcases List.mem_cons.1 hk with rfl | hk
    · exact ⟨_, h.1⟩
    · rcases List.mem_append.1 hk with hk | hk
      · exact typed h.2.1 k hk
      · exact typed h.2.2 k hk
/-- A block of another kind is none of a tree's. -/
theorem other {W : World} {t : BT} (h : Lies W t) {k e : Nat} {cs : Array Value} (hk : W.heap[k]? = some (.cells cs e (0, 0))) (he : e ≠ 63) : k ∉ t.blocks := fun hm => by
  obtain ⟨cs', h'⟩ := typed h k hm
  rw [hk] at h'
  injection h' with h1
  injection h1 with _ h2
  exact he h2
/-- A layout in memory. -/
structure LAY (base : Nat) (W : World) (h : Nat) (t : BT) : Prop where
  lb : LB W h t.root
  lies : Lies W t
  nd : t.blocks.Nodup
  good : LayPure.Good t.plain
  bh : base ≤ h
  bt : ∀ k ∈ t.blocks, base ≤ k
theorem LAY.nh {base h : Nat} {W : World} {t : BT} (L : LAY base W h t) : h ∉ t.blocks := other L.lies L.lb (by decide)
theorem LAY.kept {base h : Nat} {W W' : World} {t : BT} {S : Nat → Prop} (L : LAY base W h t) (hk : Kept W W' S) (h1 : ¬ S h) (h2 : ∀ k ∈ t.blocks, ¬ S k) : LAY base W' h t :=
  ⟨blk_kept L.lb hk h1, L.lies.kept hk h2, L.nd, L.good, L.bh, L.bt⟩
theorem LAY.on {base h : Nat} {W W' : World} {t : BT} (L : LAY base W h t) (hb : Below W.heap.size W W') : LAY base W' h t := L.kept (Kept.of_below hb (fun _ => False)) (fun h => h) (fun _ _ h => h)
theorem LAY.up {base h : Nat} {W : World} {t : BT} (L : LAY base W h t) : base ≤ W.heap.size := Nat.le_trans L.bh (Nat.le_of_lt (blk_lt L.lb))
theorem LAY.few {base h : Nat} {W : World} {t : BT} (L : LAY base W h t) : t.lv.length ≤ 6 := by
  have := L.good.2
  rw [← t.lv_leaves, List.length_map] at this
  exact this
/-- What a deed leaves. -/
structure Did (base : Nat) (w w' : World) (h : Nat) (t t' : BT) : Prop where
  lay : LAY base w' h t'
  kept : Kept w w' (fun k => k = h ∨ k ∈ t.blocks)
  below : Below base w w'
theorem Did.same {base h : Nat} {w w' : World} {t : BT} (L : LAY base w h t) (hb : Below w.heap.size w w') : Did base w w' h t t := ⟨L.on hb, Kept.of_below hb _, hb.mono L.up⟩
/-! Splitting a tree with its blocks. -/
def Inner : BT → Nat → Prop
  | .leaf _ _, _ => True
  | .part g _ a b, g0 => g ≠ g0 ∧ Inner a g0 ∧ Inner b g0
theorem inner_none : ∀ {t : BT} {g0 : Nat}, g0 ∉ t.blocks → Inner t g0
  | .leaf _ _, _, _ => trivial
  | .part g f a b, g0, h => ⟨fun e => h (e ▸ List.mem_cons_self), inner_none (fun e => h (List.mem_cons_of_mem _ (List.mem_append_left _ e))), inner_none (fun e => h (List.mem_cons_of_mem _ (List.mem_append_right _ e)))⟩
theorem lv_mem {t : BT} {g : Nat} {p : Int} (h : (g, p) ∈ t.lv) : g ∈ t.blocks := t.lv_blocks.subset (List.mem_map.2 ⟨_, h, rfl⟩)
theorem inner_lv : ∀ {t : BT} {g0 : Nat} {p : Int}, t.blocks.Nodup → (g0, p) ∈ t.lv → Inner t g0
  | .leaf _ _, _, _, _, _ => trivial
  | .part g f a b, g0, p, hn, h => by
    obtain ⟨h1, h2⟩ := List.nodup_cons.1 hn
    obtain ⟨hna, hnb, hd⟩ := List.nodup_append.1 h2
    rcases List.mem_append.1 (show (g0, p) ∈ a.lv ++ b.lv from h) with h | h
    · exact ⟨fun e => h1 (e ▸ List.mem_append_left _ (lv_mem h)), inner_lv hna h, inner_none (fun e => hd _ (lv_mem h) _ e rfl)⟩
    · exact ⟨fun e => h1 (e ▸ List.mem_append_right _ (lv_mem h)), inner_none (fun e => hd _ e _ (lv_mem h) rfl), inner_lv hnb h⟩
theorem root_splitAt (g0 : Nat) (p q : Int) (f : Bool) (k1 k2 : Nat) : ∀ t : BT, (t.splitAt g0 p q f k1 k2).root = t.root
  | .leaf g x => by
    show (if g = g0 then BT.part g f (.leaf k1 p) (.leaf k2 q) else .leaf g x).root = g
    split <;> rfl
  | .part g f' a b => rfl
theorem blocks_splitAt (g0 : Nat) (p q : Int) (f : Bool) (k1 k2 : Nat) : ∀ t : BT, Inner t g0 → (t.splitAt g0 p q f k1 k2).blocks = t.blocks.flatMap (fun k => if k = g0 then [g0, k1, k2] else [k])
  | .leaf g x, _ => by
    show (if g = g0 then BT.part g f (.leaf k1 p) (.leaf k2 q) else .leaf g x).blocks = [g].flatMap _
    by_cases e : g = g0
    · rw [if_pos e]; simp [BT.blocks, e]
    · rw [if_neg e]; simp [BT.blocks, e]
  | .part g f' a b, h => by
    show g :: ((a.splitAt g0 p q f k1 k2).blocks ++ (b.splitAt g0 p q f k1 k2).blocks) = (g :: (a.blocks ++ b.blocks)).flatMap _
    rw [List.flatMap_cons, List.flatMap_append, blocks_splitAt g0 p q f k1 k2 a h.2.1, blocks_splitAt g0 p q f k1 k2 b h.2.2, if_neg h.1]
    rfl
theorem mem_flat3 {g0 k1 k2 y : Nat} {l : List Nat} (h : y ∈ l.flatMap (fun k => if k = g0 then [g0, k1, k2] else [k])) : y ∈ l ∨ y = k1 ∨ y = k2 := by
  obtain ⟨x, hx, hy⟩ := List.mem_flatMap.1 h
  by_cases e : x = g0
  · rw [if_pos e] at hy
    simp at hy
    rcases hy with rfl | h | h
    · exact .inl (e ▸ hx)
    · exact .inr (.inl h)
    · exact .inr (.inr h)
  · rw [if_neg e] at hy
    simp at hy
    exact .inl (hy ▸ hx)
theorem nodup_flat3 (g0 k1 k2 : Nat) (hk : k1 ≠ k2) : ∀ l : List Nat, l.Nodup → k1 ∉ l → k2 ∉ l → (l.flatMap (fun k => if k = g0 then [g0, k1, k2] else [k])).Nodup
  | [], _, _, _ => by simp
  | x :: l, hn, h1, h2 => by
    obtain ⟨hx, hl⟩ := List.nodup_cons.1 hn
    have ih := nodup_flat3 g0 k1 k2 hk l hl (fun h => h1 (List.mem_cons_of_mem _ h)) (fun h => h2 (List.mem_cons_of_mem _ h))
    have x1 : x ≠ k1 := fun e => h1 (e ▸ List.mem_cons_self)
    have x2 : x ≠ k2 := fun e => h2 (e ▸ List.mem_cons_self)
    rw [List.flatMap_cons]
    by_cases e : x = g0
    · subst e
      have hno : (l.flatMap (fun k => if k = x then [x, k1, k2] else [k])) = l := by
        clear ih hn h1 h2 hl x1 x2
        induction l with
        | nil => rfl
        | cons y l ih =>
          rw [List.flatMap_cons, if_neg (show ¬ y = x from fun e => hx (by rw [e]; exact List.mem_cons_self)), ih (fun h => hx (List.mem_cons_of_mem _ h))]
          rfl
      rw [if_pos rfl, hno]
      refine List.nodup_append.2 ⟨?_, hl, fun y hy z hz e => ?_⟩
      · simp [x1, x2, hk]
      · subst e
        simp at hy
        rcases hy with rfl | rfl | rfl
        · exact hx hz
        · exact h1 (List.mem_cons_of_mem _ hz)
        · exact h2 (List.mem_cons_of_mem _ hz)
    · rw [if_neg e]
      refine List.nodup_append.2 ⟨by simp, ih, fun y hy z hz e => ?_⟩
      subst e
      simp at hy
      subst hy
      rcases mem_flat3 hz with h | h | h
      · exact hx h
      · exact x1 h
      · exact x2 h
theorem lies_splitAt {W W' : World} (g0 : Nat) (p q : Int) (f : Bool) (k1 k2 : Nat) (h0 : NB W' g0 0 f (some ⟨k1, 0, none⟩) (some ⟨k2, 0, none⟩)) (h1 : NB W' k1 p false none none) (h2 : NB W' k2 q false none none) :
    ∀ t : BT, Lies W t → Inner t g0 → (∀ k ∈ t.blocks, k ≠ g0 → W'.heap[k]? = W.heap[k]?) → Lies W' (t.splitAt g0 p q f k1 k2)
  | .leaf g x, hl, _, hm => by
    show Lies W' (if g = g0 then BT.part g f (.leaf k1 p) (.leaf k2 q) else .leaf g x)
    by_cases e : g = g0
    · rw [if_pos e, e]; exact ⟨h0, h1, h2⟩
    · rw [if_neg e]; exact (hm g List.mem_cons_self e).trans hl
  | .part g f' a b, hl, hi, hm => by
    refine ⟨?_, lies_splitAt g0 p q f k1 k2 h0 h1 h2 a hl.2.1 hi.2.1 (fun k hk => hm k (List.mem_cons_of_mem _ (List.mem_append_left _ hk))), lies_splitAt g0 p q f k1 k2 h0 h1 h2 b hl.2.2 hi.2.2 (fun k hk => hm k (List.mem_cons_of_mem _ (List.mem_append_right _ hk)))⟩
    rw [root_splitAt, root_splitAt]
    exact (hm g List.mem_cons_self hi.1).trans hl.1
theorem lies_leaf {W : World} : ∀ {t : BT} {g : Nat} {p : Int}, Lies W t → (g, p) ∈ t.lv → NB W g p false none none
  | .leaf g x, g0, p, h, hm => by
    have e : (g0, p) = (g, x) := List.mem_singleton.1 hm
    injection e with e1 e2
    rw [e1, e2]; exact h
  | .part g f a b, g0, p, h, hm => by
    rcases List.mem_append.1 (show (g0, p) ∈ a.lv ++ b.lv from hm) with hm | hm
    · exact lies_leaf h.2.1 hm
    · exact lies_leaf h.2.2 hm
theorem Did.after {base h : Nat} {w w1 w2 : World} {t t' : BT} (hb : Below w.heap.size w w1) (d : Did base w1 w2 h t t') (hbase : base ≤ w.heap.size := by assumption) : Did base w w2 h t t' :=
  ⟨d.lay, (Kept.of_below hb _).then_ d.kept (fun k hk => .inl hk), (hb.mono hbase).trans d.below⟩
theorem split_did {base h g0 : Nat} {t : BT} {p : Int} (q : Int) (f : Bool) {w : World} (L : LAY base w h t) (hm : (g0, p) ∈ t.lv) (hp : p ∈ t.plain.leaves) (hq : q ∉ t.plain.leaves) (h6 : t.plain.leaves.length ≠ 6) (ho : ∀ x ∈ t.lv, (x.1 = g0 ↔ x.2 = p)) (w6 : World)
    (hw : w6 = (((((w.alloc (.cells #[.int .i64 p, .bool false, .pointer none, .pointer none] 63)).alloc (.cells #[.int .i64 q, .bool false, .pointer none, .pointer none] 63)).setCell ⟨g0, 0, none⟩ (.int .i64 0)).setCell ⟨g0, 1, none⟩ (.bool f)).setCell ⟨g0, 2, none⟩ (.pointer (some ⟨w.heap.size, 0, none⟩))).setCell ⟨g0, 3, none⟩ (.pointer (some ⟨w.heap.size + 1, 0, none⟩))) :
    Did base w w6 h t (t.splitAt g0 p q f w.heap.size (w.heap.size + 1)) := by
  have hg := lies_leaf L.lies hm
  have hgm := lv_mem hm
  have hi := inner_lv L.nd hm
  have hgl := blk_lt hg
  have hbu := L.up
  obtain ⟨w4, hw4⟩ : ∃ w4, w4 = w.alloc (.cells #[.int .i64 p, .bool false, .pointer none, .pointer none] 63) := ⟨_, rfl⟩
  obtain ⟨w5, hw5⟩ : ∃ w5, w5 = w4.alloc (.cells #[.int .i64 q, .bool false, .pointer none, .pointer none] 63) := ⟨_, rfl⟩
  have hs4 : w4.heap.size = w.heap.size + 1 := by rw [hw4]; simp
  have n1 : NB w5 w.heap.size p false none none := by rw [hw5]; refine blk_alloc ?_ _; rw [hw4]; exact blk_new w _
  have n2 : NB w5 (w.heap.size + 1) q false none none := by rw [hw5, ← hs4]; exact blk_new w4 _
  have n0 : NB w5 g0 p false none none := by rw [hw5, hw4]; exact blk_alloc (blk_alloc hg _) _
  have hb5 : Below w.heap.size w w5 := by rw [hw5, hw4]; exact below_alloc (below_alloc (Below.refl _ _) _) _
  rw [← hw4, ← hw5] at hw
  have far : ∀ k, k ≠ g0 → w6.heap[k]? = w5.heap[k]? := by
    intro k hk
    rw [hw, Below.heap_setCell _ _ _ k hk, Below.heap_setCell _ _ _ k hk, Below.heap_setCell _ _ _ k hk, Below.heap_setCell _ _ _ k hk]
  have m0 : NB w6 g0 0 f (some ⟨w.heap.size, 0, none⟩) (some ⟨w.heap.size + 1, 0, none⟩) := by
    rw [hw]; exact blk_put (blk_put (blk_put (blk_put n0 0 _ rfl) 1 _ rfl) 2 _ rfl) 3 _ rfl
  have m1 : NB w6 w.heap.size p false none none := (far _ (by omega)).trans n1
  have m2 : NB w6 (w.heap.size + 1) q false none none := (far _ (by omega)).trans n2
  have hlt : ∀ k ∈ t.blocks, k < w.heap.size := L.lies.lt
  have hkept : Kept w w6 (fun k => k = h ∨ k ∈ t.blocks) := by
    rw [hw]
    refine Kept.setCell (Kept.setCell (Kept.setCell (Kept.setCell (Kept.of_below hb5 _) ?_ _) ?_ _) ?_ _) ?_ _
    all_goals exact .inl (.inr hgm)
  have hbelow : Below base w w6 := by
    rw [hw]
    have := L.bt g0 hgm
    exact ((((hb5.mono hbu).setCell this _).setCell this _).setCell this _).setCell this _
  have hh : h ≠ g0 := fun e => L.nh (e ▸ hgm)
  have hpl := BT.plain_splitAt g0 p q f w.heap.size (w.heap.size + 1) t ho
  refine ⟨⟨?_, ?_, ?_, ?_, L.bh, ?_⟩, hkept, hbelow⟩
  · rw [root_splitAt]
    exact (far h hh).trans (blk_below L.lb hb5)
  · refine lies_splitAt g0 p q f _ _ m0 m1 m2 t L.lies hi (fun k hk hne => ?_)
    rw [far k hne]
    exact hb5.block k (hlt k hk)
  · rw [blocks_splitAt _ _ _ _ _ _ t hi]
    exact nodup_flat3 _ _ _ (by omega) _ L.nd (fun e => Nat.lt_irrefl _ (hlt _ e)) (fun e => by have := hlt _ e; omega)
  · rw [hpl]
    exact (good_split L.good hp hq h6).1
  · intro k hk
    rw [blocks_splitAt _ _ _ _ _ _ t hi] at hk
    rcases mem_flat3 hk with h | h | h
    · exact L.bt k h
    · omega
    · omega
section
set_option maxHeartbeats 1600000
set_option maxRecDepth 100000
theorem split_c (base h : Nat) (t : BT) (p q : Int) (f : Bool) (w : World) (L : LAY base w h t) :
    Calls Try.prog 21 #[.pointer (some ⟨h, 0, none⟩), .int .i64 p, .int .i64 q, .bool f] w fun e w' => ∃ t', e = .returned (.int .i64 (deedT t.plain p q f false).2) ∧ t'.plain = (deedT t.plain p q f false).1 ∧ Did base w w' h t t' := by
  have hu := Try.underlying63
  have HFP := Aside0.mk (fun W (h1 : LB W h t.root) (h2 : Lies W t) => find_c h t p W h1 h2)
  have HFQ := Aside0.mk (fun W (h1 : LB W h t.root) (h2 : Lies W t) => find_c h t q W h1 h2)
  have HPN := Aside0.mk (fun W (h1 : LB W h t.root) (h2 : Lies W t) => panes_c h t W h1 h2 (by have := L.few; omega))
  have HL := Aside0.mk L
  have hpm := t.find_none p
  have hqm := t.find_none q
  cases hp : t.find p with
  | none =>
    rw [hp] at HFP
    have HD := Aside0.mk (show deedT t.plain p q f false = (t.plain, 4) from by unfold deedT; rw [if_neg (by decide), if_neg (hpm.1 hp)])
    clear L hpm hqm hp
    rw [HD.out]
    go_enter Try.func21, Try.ntmps21
    go_wp2_with fail
    refine (HFP.out w HL.out.lb HL.out.lies).mono ?_
    rintro e w1 ⟨rfl, hb⟩
    have HB1 := Aside0.mk hb
    clear hb
    go_wp2_with fail
    go_returns
    exact ⟨t, rfl, rfl, Did.same HL.out HB1.out⟩
  | some g0 =>
    rw [hp] at HFP
    have hp1 : p ∈ t.plain.leaves := by
      apply Classical.byContradiction
      intro e
      have := hpm.2 e
      rw [hp] at this
      cases this
    cases hq : t.find q with
    | some g1 =>
      rw [hq] at HFQ
      have hq1 : q ∈ t.plain.leaves := by
        apply Classical.byContradiction
        intro e
        have := hqm.2 e
        rw [hq] at this
        cases this
      have HD := Aside0.mk (show deedT t.plain p q f false = (t.plain, 6) from by unfold deedT; rw [if_neg (by decide), if_pos hp1, if_pos hq1])
      clear L hpm hqm hp hq hp1 hq1
      rw [HD.out]
      go_enter Try.func21, Try.ntmps21
      go_wp2_with fail
      refine (HFP.out w HL.out.lb HL.out.lies).mono ?_
      rintro e w1 ⟨rfl, hb⟩
      have HL1 := Aside0.mk (HL.out.on hb)
      have HB1 := Aside0.mk hb
      clear hb
      go_wp2_with fail
      refine (HFQ.out w1 HL1.out.lb HL1.out.lies).mono ?_
      rintro e w2 ⟨rfl, hb⟩
      have HB2 := Aside0.mk (below_kept HB1.out hb)
      clear hb
      go_wp2_with fail
      go_returns
      exact ⟨t, rfl, rfl, Did.same HL.out HB2.out⟩
    | none =>
      rw [hq] at HFQ
      have hq1 := hqm.1 hq
      obtain ⟨n, hn⟩ : ∃ n, n = t.plain.leaves.length := ⟨_, rfl⟩
      have HN := Aside0.mk hn
      have HP1 := Aside0.mk hp1
      have HQ1 := Aside0.mk hq1
      have HG0 := Aside0.mk (t.find_mem p g0 hp)
      have HON := Aside0.mk (BT.only L.nd L.good.1 hp)
      have hn6 : (n : Int) ≤ 6 := by have := L.good.2; omega
      by_cases h6 : n = 6
      · have HD := Aside0.mk (show deedT t.plain p q f false = (t.plain, 5) from by unfold deedT; rw [if_neg (by decide), if_pos hp1, if_neg hq1, if_pos (by omega)])
        have hb6 : ((n : Int) == 6) = true := beq_iff_eq.mpr (by omega)
        clear L hpm hqm hp hq hp1 hq1 hn h6
        rw [HD.out]
        go_enter Try.func21, Try.ntmps21
        go_wp2_with fail
        refine (HFP.out w HL.out.lb HL.out.lies).mono ?_
        rintro e w1 ⟨rfl, hb⟩
        have HL1 := Aside0.mk (HL.out.on hb)
        have HB1 := Aside0.mk hb
        clear hb
        go_wp2_with fail
        refine (HFQ.out w1 HL1.out.lb HL1.out.lies).mono ?_
        rintro e w2 ⟨rfl, hb⟩
        have HL2 := Aside0.mk (HL1.out.on hb)
        have HB2 := Aside0.mk (below_kept HB1.out hb)
        clear hb
        go_wp2_with fail
        refine (HPN.out w2 HL2.out.lb HL2.out.lies).mono ?_
        rintro e w3 ⟨v, rfl, hv, hb⟩
        have HB3 := Aside0.mk (below_kept HB2.out hb)
        obtain ⟨A, c, rfl⟩ := Kd.R_slice hv
        rw [← HN.out]
        clear hb hv
        go_wp2_with fail
        go_returns
        exact ⟨t, rfl, rfl, Did.same HL.out HB3.out⟩
      · have hb6 : ((n : Int) == 6) = false := beq_eq_false_iff_ne.mpr (by omega)
        have HD := Aside0.mk (show deedT t.plain p q f false = (t.plain.split p q f, 0) from by unfold deedT; rw [if_neg (by decide), if_pos hp1, if_neg hq1, if_neg (by omega)])
        have H6 := Aside0.mk h6
        clear L hpm hqm hp hq hp1 hq1 hn h6
        rw [HD.out]
        go_enter Try.func21, Try.ntmps21
        go_wp2_with fail
        refine (HFP.out w HL.out.lb HL.out.lies).mono ?_
        rintro e w1 ⟨rfl, hb⟩
        have HL1 := Aside0.mk (HL.out.on hb)
        have HB1 := Aside0.mk hb
        clear hb
        go_wp2_with fail
        refine (HFQ.out w1 HL1.out.lb HL1.out.lies).mono ?_
        rintro e w2 ⟨rfl, hb⟩
        have HL2 := Aside0.mk (HL1.out.on hb)
        have HB2 := Aside0.mk (below_kept HB1.out hb)
        clear hb
        go_wp2_with fail
        refine (HPN.out w2 HL2.out.lb HL2.out.lies).mono ?_
        rintro e w3 ⟨v, rfl, hv, hb⟩
        have HL3 := Aside0.mk (HL2.out.on hb)
        have HB3 := Aside0.mk (below_kept HB2.out hb)
        obtain ⟨A, c, rfl⟩ := Kd.R_slice hv
        rw [← HN.out]
        clear hb hv
        obtain ⟨w5, hw5⟩ : ∃ w5, w5 = (w3.alloc (.cells #[.int .i64 p, .bool false, .pointer none, .pointer none] 63)).alloc (.cells #[.int .i64 q, .bool false, .pointer none, .pointer none] 63) := ⟨_, rfl⟩
        have HW5 := Aside0.mk hw5
        have HG3 := Aside0.mk (lies_leaf HL3.out.lies HG0.out)
        have HG5 := Aside0.mk (show NB w5 g0 p false none none from by rw [hw5]; exact blk_alloc (blk_alloc HG3.out _) _)
        have c0 := (blk_cell HG5.out 0).trans (rfl : _ = some (Value.int .i64 p))
        have c1 := (blk_cell HG5.out 1).trans (rfl : _ = some (Value.bool false))
        have c2 := (blk_cell HG5.out 2).trans (rfl : _ = some (Value.pointer none))
        have c3 := (blk_cell HG5.out 3).trans (rfl : _ = some (Value.pointer none))
        have f0 := blk_frozen HG5.out 0
        have f1 := blk_frozen HG5.out 1
        have f2 := blk_frozen HG5.out 2
        have f3 := blk_frozen HG5.out 3
        clear hw5
        rw [HW5.out] at c0 c1 c2 c3 f0 f1 f2 f3
        go_wp2_with fail
        go_returns
        refine ⟨t.splitAt g0 p q f w3.heap.size (w3.heap.size + 1), rfl, BT.plain_splitAt g0 p q f _ _ t HON.out, Did.after (hbase := HL.out.up) HB3.out (split_did q f HL3.out HG0.out HP1.out HQ1.out (by have := HN.out; have := H6.out; omega) (fun x hx => HON.out x hx) _ ?_)⟩
        simp
theorem remove_c (base h : Nat) (t : BT) (p q : Int) (f : Bool) (w : World) (L : LAY base w h t) :
    Calls Try.prog 22 #[.pointer (some ⟨h, 0, none⟩), .int .i64 p] w fun e w' => ∃ t', e = .returned (.int .i64 (deedT t.plain p q f true).2) ∧ t'.plain = (deedT t.plain p q f true).1 ∧ Did base w w' h t t' := by
  have hu := Try.underlying63
  have hul := Try.underlying65
  have HFP := Aside0.mk (fun W (h1 : LB W h t.root) (h2 : Lies W t) => find_c h t p W h1 h2)
  have HL := Aside0.mk L
  have hpm := t.find_none p
  cases hp : t.find p with
  | none =>
    rw [hp] at HFP
    have HD := Aside0.mk (show deedT t.plain p q f true = (t.plain, 4) from by unfold deedT; rw [if_pos rfl, if_neg (hpm.1 hp)])
    clear L hpm hp
    rw [HD.out]
    go_enter Try.func22, Try.ntmps22
    go_wp2_with fail
    refine (HFP.out w HL.out.lb HL.out.lies).mono ?_
    rintro e w1 ⟨rfl, hb⟩
    have HB1 := Aside0.mk hb
    clear hb
    go_wp2_with fail
    go_returns
    exact ⟨t, rfl, rfl, Did.same HL.out HB1.out⟩
  | some g0 =>
    rw [hp] at HFP
    have hp1 : p ∈ t.plain.leaves := by
      apply Classical.byContradiction
      intro e
      have := hpm.2 e
      rw [hp] at this
      cases this
    have HP1 := Aside0.mk hp1
    cases t with
    | leaf g x =>
      have HD := Aside0.mk (show deedT (BT.leaf g x).plain p q f true = ((BT.leaf g x).plain, 3) from by unfold deedT; rw [if_pos rfl, if_pos hp1]; rfl)
      rw [HD.out]
      clear L hpm hp hp1
      go_enter Try.func22, Try.ntmps22
      go_wp2_with fail
      refine (HFP.out w HL.out.lb HL.out.lies).mono ?_
      rintro e w1 ⟨rfl, hb⟩
      have HB1 := Aside0.mk hb
      have HL1 := Aside0.mk (HL.out.on hb)
      have c0 : w1.cell? ⟨h, 0, none⟩ = some (.pointer (some ⟨g, 0, none⟩)) := (blk_cell HL1.out.lb 0).trans rfl
      have c2 : w1.cell? ⟨g, 2, none⟩ = some (.pointer none) := (blk_cell (show NB w1 g x false none none from HL1.out.lies) 2).trans rfl
      clear hb
      go_wp2_with fail
      go_returns
      exact ⟨_, rfl, rfl, Did.same HL.out HB1.out⟩
    | part g f' a b =>
      obtain ⟨t, ht⟩ : ∃ t, t = BT.part g f' a b := ⟨_, rfl⟩
      have hD : deedT (BT.part g f' a b).plain p q f true = ((BT.part g f' a b).plain.without p, 0) := by unfold deedT; rw [if_pos rfl, if_pos hp1]; rfl
      have hnl : (BT.part g f' a b).plain ≠ .leaf p := fun e => by cases e
      have c2' : ∀ W, Lies W (BT.part g f' a b) → W.cell? ⟨g, 2, none⟩ = some (.pointer (some ⟨a.root, 0, none⟩)) := fun W h => (blk_cell h.1 2).trans rfl
      have hr' : (BT.part g f' a b).root = g := rfl
      rw [← ht] at hD hnl c2' hr' HL HFP ⊢
      have HD := Aside0.mk hD
      have HNL := Aside0.mk hnl
      have HC2 := Aside0.mk c2'
      have HR := Aside0.mk hr'
      have HW := Aside0.mk (fun W h1 => without_c p base t W h1 HL.out.nd HL.out.bt)
      obtain ⟨ra, hra⟩ : ∃ ra, ra = a.root := ⟨_, rfl⟩
      rw [← hra] at HC2
      rw [HR.out] at HW
      obtain ⟨r2, hr2⟩ : ∃ r2, r2 = (t.without p).root := ⟨_, rfl⟩
      rw [← hr2] at HW
      have HR2 := Aside0.mk hr2
      rw [HD.out]
      clear L hpm hp hp1 hD hnl c2' hr' hra hr2 ht
      go_enter Try.func22, Try.ntmps22
      go_wp2_with fail
      refine (HFP.out w HL.out.lb HL.out.lies).mono ?_
      rintro e w1 ⟨rfl, hb⟩
      have HB1 := Aside0.mk hb
      have HL1 := Aside0.mk (HL.out.on hb)
      have c0 : w1.cell? ⟨h, 0, none⟩ = some (.pointer (some ⟨g, 0, none⟩)) := (blk_cell (show LB w1 h g from by rw [← HR.out]; exact HL1.out.lb) 0).trans rfl
      have c2 := HC2.out w1 HL1.out.lies
      clear hb
      go_wp2_with fail
      refine (HW.out w1 HL1.out.lies).mono ?_
      rintro e w2 ⟨rfl, ho⟩
      have HO := Aside0.mk ho
      have HK2 := Aside0.mk (blk_kept HL1.out.lb ho.kept HL1.out.nh)
      have d0 := (blk_cell HK2.out 0).trans (rfl : _ = some (Value.pointer (some ⟨t.root, 0, none⟩)))
      have fr := blk_frozen HK2.out 0
      clear ho c0 c2
      go_wp2_with fail
      go_returns
      refine ⟨t.without p, rfl, BT.plain_without p t, Did.after (hbase := HL.out.up) HB1.out ?_⟩
      have hsub := t.blocks_without p
      refine ⟨⟨?_, ?_, HL1.out.nd.sublist hsub, ?_, HL.out.bh, fun k hk => HL.out.bt k (hsub.subset hk)⟩, ?_, ?_⟩
      · rw [← HR2.out]; exact blk_put HK2.out 0 _ rfl
      · exact HO.out.lies.put (fun e => HL1.out.nh (hsub.subset e)) 0 _
      · rw [BT.plain_without]; exact good_without HL.out.good HNL.out
      · exact (HO.out.kept.mono (fun k hk => .inr hk)).setCell (.inl (.inl rfl)) _
      · exact HO.out.below.setCell HL.out.bh _
theorem do_c (base h : Nat) (t : BT) (p q : Int) (f away : Bool) (w : World) (L : LAY base w h t) :
    Calls Try.prog 13 #[.pointer (some ⟨h, 0, none⟩), .agg #[.int .i64 p, .int .i64 q, .bool f, .bool away]] w fun e w' => ∃ t', e = .returned (.int .i64 (deedT t.plain p q f away).2) ∧ t'.plain = (deedT t.plain p q f away).1 ∧ Did base w w' h t t' := by
  have hu := Try.underlying29
  have HL := Aside0.mk L
  have hb1 := below_alloc (Below.refl w.heap.size w) (.cells #[.int .i64 p, .int .i64 q, .bool f, .bool away] 29)
  have HB := Aside0.mk hb1
  have HL1 := Aside0.mk (L.on hb1)
  clear L hb1
  cases away with
  | true =>
    have HR := Aside0.mk (remove_c base h t p q f _ HL1.out)
    go_enter Try.func13, Try.ntmps13
    go_wp2_with fail
    refine HR.out.mono ?_
    rintro e w2 ⟨t', rfl, hp, hd⟩
    have HP := Aside0.mk hp
    have HD := Aside0.mk hd
    clear hp hd HR
    go_wp2_with fail
    go_returns
    exact ⟨t', rfl, HP.out, Did.after (hbase := HL.out.up) HB.out HD.out⟩
  | false =>
    have HR := Aside0.mk (split_c base h t p q f _ HL1.out)
    go_enter Try.func13, Try.ntmps13
    go_wp2_with fail
    refine HR.out.mono ?_
    rintro e w2 ⟨t', rfl, hp, hd⟩
    have HP := Aside0.mk hp
    have HD := Aside0.mk hd
    clear hp hd HR
    go_wp2_with fail
    go_returns
    exact ⟨t', rfl, HP.out, Did.after (hbase := HL.out.up) HB.out HD.out⟩
end
end Go.Proofs.Ytnidcnmeonjjbaa.LayDeed
