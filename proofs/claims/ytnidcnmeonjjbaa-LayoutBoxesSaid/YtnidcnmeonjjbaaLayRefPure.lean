/- The reference's layout, a list of parts: what it is a tree of, and what a deed does with it; plain facts. -/
import Derived.Test.YtnidcnmeonjjbaaLayPure
namespace Go.Proofs.Ytnidcnmeonjjbaa.LayRefPure
open Go.Proofs.Ytnidcnmeonjjbaa.LayPure
set_option linter.unusedVariables false
set_option linter.unusedSimpArgs false
/-- A part of the list. -/
structure PN where
  p : Int
  f : Bool
  a : Int
  b : Int
def leafN (p : Int) : PN := ⟨p, false, -1, 0⟩
def pts (x : PN) (k : Nat) : Prop := x.a = k ∨ (0 ≤ x.a ∧ x.b = k)
def BT.kids : BT → List Nat
  | .leaf _ _ => []
  | .part _ _ a b => a.blocks ++ b.blocks
theorem blocks_eq : ∀ t : BT, t.blocks = t.root :: BT.kids t
  | .leaf _ _ => rfl
  | .part _ _ _ _ => rfl
def Par : BT → Nat → Nat → Prop
  | .leaf _ _, _, _ => False
  | .part g _ a b, i, r => (i = g ∧ (r = a.root ∨ r = b.root)) ∨ Par a i r ∨ Par b i r
theorem par_kid : ∀ {t : BT} {i r : Nat}, Par t i r → r ∈ BT.kids t
  | .part g f a b, i, r, h => by
    rcases h with ⟨_, h | h⟩ | h | h
    · exact List.mem_append_left _ (h ▸ a.root_mem)
    · exact List.mem_append_right _ (h ▸ b.root_mem)
    · exact List.mem_append_left _ (by rw [blocks_eq a]; exact List.mem_cons_of_mem _ (par_kid h))
    · exact List.mem_append_right _ (by rw [blocks_eq b]; exact List.mem_cons_of_mem _ (par_kid h))
theorem par_kid_blocks {t : BT} {i r : Nat} (h : Par t i r) : r ∈ t.blocks := by rw [blocks_eq t]; exact List.mem_cons_of_mem _ (par_kid h)
theorem par_mem : ∀ {t : BT} {i r : Nat}, Par t i r → i ∈ t.blocks
  | .part g f a b, i, r, h => by
    rcases h with ⟨h, _⟩ | h | h
    · rw [h]; exact List.mem_cons_self
    · exact List.mem_cons_of_mem _ (List.mem_append_left _ (par_mem h))
    · exact List.mem_cons_of_mem _ (List.mem_append_right _ (par_mem h))
/-- What a part's numbers being apart says. -/
structure Apart (g : Nat) (a b : BT) : Prop where
  na : a.blocks.Nodup
  nb : b.blocks.Nodup
  ga : g ∉ a.blocks
  gb : g ∉ b.blocks
  ab : ∀ k, k ∈ a.blocks → k ∈ b.blocks → False
theorem apart {g : Nat} {f : Bool} {a b : BT} (h : (BT.part g f a b).blocks.Nodup) : Apart g a b := by
  obtain ⟨h1, h2⟩ := List.nodup_cons.1 (show (g :: (a.blocks ++ b.blocks)).Nodup from h)
  obtain ⟨h3, h4, h5⟩ := List.nodup_append.1 h2
  exact ⟨h3, h4, fun h => h1 (List.mem_append_left _ h), fun h => h1 (List.mem_append_right _ h), fun k h h' => h5 k h k h' rfl⟩
theorem root_no_kid {t : BT} (h : t.blocks.Nodup) : t.root ∉ BT.kids t := by
  rw [blocks_eq t] at h
  exact (List.nodup_cons.1 h).1
theorem par_one : ∀ {t : BT} {i j r : Nat}, t.blocks.Nodup → Par t i r → Par t j r → i = j
  | .part g f a b, i, j, r, hn, h, k => by
    have A := apart hn
    have ra := root_no_kid A.na
    have rb := root_no_kid A.nb
    rcases h with ⟨h, hr⟩ | h | h
    · rcases k with ⟨k, _⟩ | k | k
      · rw [h, k]
      · rcases hr with hr | hr
        · exact absurd (hr ▸ par_kid k) ra
        · exact (A.ab r (par_kid_blocks k) (hr ▸ b.root_mem)).elim
      · rcases hr with hr | hr
        · exact (A.ab r (hr ▸ a.root_mem) (par_kid_blocks k)).elim
        · exact absurd (hr ▸ par_kid k) rb
    · rcases k with ⟨k, hr⟩ | k | k
      · rcases hr with hr | hr
        · exact absurd (hr ▸ par_kid h) ra
        · exact (A.ab r (par_kid_blocks h) (hr ▸ b.root_mem)).elim
      · exact par_one A.na h k
      · exact (A.ab r (par_kid_blocks h) (par_kid_blocks k)).elim
    · rcases k with ⟨k, hr⟩ | k | k
      · rcases hr with hr | hr
        · exact (A.ab r (hr ▸ a.root_mem) (par_kid_blocks h)).elim
        · exact absurd (hr ▸ par_kid h) rb
      · exact (A.ab r (par_kid_blocks k) (par_kid_blocks h)).elim
      · exact par_one A.nb h k
/-- The list's part at a place is this tree. -/
def RepI (ps : List PN) : BT → Prop
  | .leaf i p => ∃ x, ps[i]? = some x ∧ x.p = p ∧ x.a = -1
  | .part i f a b => (∃ x, ps[i]? = some x ∧ x.f = f ∧ x.a = (a.root : Int) ∧ x.b = (b.root : Int)) ∧ RepI ps a ∧ RepI ps b
theorem RepI.congr {ps qs : List PN} : ∀ {t : BT}, RepI ps t → (∀ k ∈ t.blocks, qs[k]? = ps[k]?) → RepI qs t
  | .leaf i p, h, hm => by
    obtain ⟨x, h1, h2⟩ := h
    exact ⟨x, (hm i List.mem_cons_self).trans h1, h2⟩
  | .part i f a b, h, hm => by
    obtain ⟨⟨x, h1, h2⟩, h3, h4⟩ := h
    exact ⟨⟨x, (hm i List.mem_cons_self).trans h1, h2⟩, h3.congr (fun k hk => hm k (List.mem_cons_of_mem _ (List.mem_append_left _ hk))), h4.congr (fun k hk => hm k (List.mem_cons_of_mem _ (List.mem_append_right _ hk)))⟩
theorem RepI.lt {ps : List PN} : ∀ {t : BT}, RepI ps t → ∀ k ∈ t.blocks, k < ps.length
  | .leaf i p, h, k, hk => by
    obtain ⟨x, h1, _⟩ := h
    rw [List.mem_singleton.1 hk]
    exact (List.getElem?_eq_some_iff.1 h1).1
  | .part i f a b, h, k, hk => by
    obtain ⟨⟨x, h1, _⟩, h3, h4⟩ := h
    rcases List.mem_cons.1 hk with rfl | hk
    · exact (List.getElem?_eq_some_iff.1 h1).1
    · rcases List.mem_append.1 hk with hk | hk
      · exact h3.lt k hk
      · exact h4.lt k hk
/-- A live part points at its own two. -/
theorem rep_pts {ps : List PN} : ∀ {t : BT}, RepI ps t → t.blocks.Nodup → ∀ {o : Nat} {x : PN} {r : Nat}, o ∈ t.blocks → ps[o]? = some x → pts x r → Par t o r
  | .leaf i p, h, _, o, x, r, ho, hx, hp => by
    obtain ⟨y, h1, _, h2⟩ := h
    rw [List.mem_singleton.1 ho, h1] at hx
    cases hx
    rcases hp with hp | ⟨hp, _⟩ <;> omega
  | .part i f a b, h, hn, o, x, r, ho, hx, hp => by
    obtain ⟨⟨y, h1, _, h2, h2'⟩, h3, h4⟩ := h
    have A := apart hn
    rcases List.mem_cons.1 ho with rfl | ho
    · rw [h1] at hx
      cases hx
      refine .inl ⟨rfl, ?_⟩
      rcases hp with hp | ⟨_, hp⟩
      · left; omega
      · right; omega
    · rcases List.mem_append.1 ho with ho | ho
      · exact .inr (.inl (rep_pts h3 A.na ho hx hp))
      · exact .inr (.inr (rep_pts h4 A.nb ho hx hp))
/-- What the reference keeps. -/
structure RI (ps : List PN) (t : BT) : Prop where
  rep : RepI ps t
  nd : t.blocks.Nodup
  root : t.root = 0
  least : ∀ i r, Par t i r → ∀ j x, ps[j]? = some x → pts x r → i ≤ j
  inc : ∀ i r, Par t i r → i < r
  bound : ∀ (j : Nat) x, ps[j]? = some x → x.a < ps.length ∧ x.b < ps.length
theorem ri_new (p : Int) : RI [leafN p] (.leaf 0 p) :=
  ⟨⟨_, rfl, rfl, rfl⟩, by simp [BT.blocks], rfl, fun _ _ h => h.elim, fun _ _ h => h.elim, fun j x h => by
    cases j with
    | zero => simp at h; subst h; exact ⟨by show (-1 : Int) < 1; decide, by show (0 : Int) < 1; decide⟩
    | succ j => simp at h⟩
/-! find, from the left. -/
def BT.findL : BT → Int → Option Nat
  | .leaf g x, p => if x = p then some g else none
  | .part _ _ a b, p => (BT.findL a p).or (BT.findL b p)
theorem findL_mem : ∀ (t : BT) (p : Int) (g : Nat), BT.findL t p = some g → (g, p) ∈ t.lv
  | .leaf g x, p, g0, h => by
    unfold BT.findL at h
    split at h
    · rename_i e; cases h; rw [e]; exact List.mem_cons_self
    · cases h
  | .part _ _ a b, p, g0, h => by
    show (g0, p) ∈ a.lv ++ b.lv
    unfold BT.findL at h
    cases ha : BT.findL a p with
    | some g1 => rw [ha] at h; cases h; exact List.mem_append.2 (.inl (findL_mem a p _ ha))
    | none => rw [ha] at h; exact List.mem_append.2 (.inr (findL_mem b p _ h))
theorem findL_none : ∀ (t : BT) (p : Int), BT.findL t p = none ↔ p ∉ t.plain.leaves
  | .leaf g x, p => by
    unfold BT.findL BT.plain T.leaves
    by_cases e : x = p
    · simp [e]
    · simp [e, Ne.symm e]
  | .part _ _ a b, p => by
    show (BT.findL a p).or (BT.findL b p) = none ↔ p ∉ a.plain.leaves ++ b.plain.leaves
    rw [Option.or_eq_none_iff, findL_none a p, findL_none b p, List.mem_append]
    exact ⟨fun h e => e.elim h.1 h.2, fun h => ⟨fun e => h (.inl e), fun e => h (.inr e)⟩⟩
theorem lv_block {t : BT} {g : Nat} {p : Int} (h : (g, p) ∈ t.lv) : g ∈ t.blocks := t.lv_blocks.subset (List.mem_map.2 ⟨_, h, rfl⟩)
theorem onlyL {t : BT} {p : Int} {g0 : Nat} (h1 : t.blocks.Nodup) (h2 : t.plain.leaves.Nodup) (hf : BT.findL t p = some g0) : ∀ x ∈ t.lv, (x.1 = g0 ↔ x.2 = p) := by
  intro x hx
  have hm := findL_mem t p g0 hf
  rw [← t.lv_leaves] at h2
  have h3 : (t.lv.map Prod.fst).Nodup := h1.sublist t.lv_blocks
  constructor
  · intro e
    rw [nodup_map_eq Prod.fst _ h3 x hx (g0, p) hm e]
  · intro e
    rw [nodup_map_eq Prod.snd _ h2 x hx (g0, p) hm e]
/-! A part is split. -/
def splitL (ps : List PN) (at_ : Nat) (p q : Int) (f : Bool) : List PN := (ps ++ [leafN p, leafN q]).set at_ ⟨0, f, ps.length, ps.length + 1⟩
theorem splitL_len (ps : List PN) (at_ : Nat) (p q : Int) (f : Bool) : (splitL ps at_ p q f).length = ps.length + 2 := by simp [splitL]
theorem splitL_at {ps : List PN} {at_ : Nat} (h : at_ < ps.length) (p q : Int) (f : Bool) : (splitL ps at_ p q f)[at_]? = some ⟨0, f, ps.length, ps.length + 1⟩ := by
  unfold splitL
  rw [List.getElem?_set_self (by simp; omega)]
theorem splitL_old {ps : List PN} {at_ k : Nat} (h : k < ps.length) (hk : k ≠ at_) (p q : Int) (f : Bool) : (splitL ps at_ p q f)[k]? = ps[k]? := by
  unfold splitL
  rw [List.getElem?_set_ne (Ne.symm hk), List.getElem?_append_left h]
theorem splitL_new1 {ps : List PN} {at_ : Nat} (h : at_ < ps.length) (p q : Int) (f : Bool) : (splitL ps at_ p q f)[ps.length]? = some (leafN p) := by
  unfold splitL
  rw [List.getElem?_set_ne (by omega), List.getElem?_append_right (Nat.le_refl _), Nat.sub_self]; rfl
theorem splitL_new2 {ps : List PN} {at_ : Nat} (h : at_ < ps.length) (p q : Int) (f : Bool) : (splitL ps at_ p q f)[ps.length + 1]? = some (leafN q) := by
  unfold splitL
  rw [List.getElem?_set_ne (by omega), List.getElem?_append_right (by omega), show ps.length + 1 - ps.length = 1 from by omega]; rfl
theorem rootS (g0 : Nat) (p q : Int) (f : Bool) (k1 k2 : Nat) : ∀ t : BT, (t.splitAt g0 p q f k1 k2).root = t.root
  | .leaf g x => by
    show (if g = g0 then BT.part g f (.leaf k1 p) (.leaf k2 q) else .leaf g x).root = g
    split <;> rfl
  | .part g f' a b => rfl
theorem par_split (g0 : Nat) (p q : Int) (f : Bool) (k1 k2 : Nat) : ∀ {t : BT} {i r : Nat}, Par (t.splitAt g0 p q f k1 k2) i r → Par t i r ∨ (i = g0 ∧ (r = k1 ∨ r = k2))
  | .leaf g x, i, r, h => by
    have h : Par (if g = g0 then BT.part g f (.leaf k1 p) (.leaf k2 q) else .leaf g x) i r := h
    by_cases e : g = g0
    · rw [if_pos e] at h
      rcases h with ⟨h1, h2⟩ | h | h
      · exact .inr ⟨h1.trans e, h2⟩
      · exact h.elim
      · exact h.elim
    · rw [if_neg e] at h; exact h.elim
  | .part g f' a b, i, r, h => by
    rcases h with ⟨h1, h2⟩ | h | h
    · rw [rootS, rootS] at h2
      exact .inl (.inl ⟨h1, h2⟩)
    · rcases par_split g0 p q f k1 k2 h with h | h
      · exact .inl (.inr (.inl h))
      · exact .inr h
    · rcases par_split g0 p q f k1 k2 h with h | h
      · exact .inl (.inr (.inr h))
      · exact .inr h
/-- No part between is that one. -/
def Inn : BT → Nat → Prop
  | .leaf _ _, _ => True
  | .part g _ a b, g0 => g ≠ g0 ∧ Inn a g0 ∧ Inn b g0
theorem inn_none : ∀ {t : BT} {g0 : Nat}, g0 ∉ t.blocks → Inn t g0
  | .leaf _ _, _, _ => trivial
  | .part g f a b, g0, h => ⟨fun e => h (e ▸ List.mem_cons_self), inn_none (fun e => h (List.mem_cons_of_mem _ (List.mem_append_left _ e))), inn_none (fun e => h (List.mem_cons_of_mem _ (List.mem_append_right _ e)))⟩
theorem inn_lv : ∀ {t : BT} {g0 : Nat} {p : Int}, t.blocks.Nodup → (g0, p) ∈ t.lv → Inn t g0
  | .leaf _ _, _, _, _, _ => trivial
  | .part g f a b, g0, p, hn, h => by
    have A := apart hn
    rcases List.mem_append.1 (show (g0, p) ∈ a.lv ++ b.lv from h) with h | h
    · exact ⟨fun e => A.ga (e ▸ lv_block h), inn_lv A.na h, inn_none (fun e => A.ab _ (lv_block h) e)⟩
    · exact ⟨fun e => A.gb (e ▸ lv_block h), inn_none (fun e => A.ab _ e (lv_block h)), inn_lv A.nb h⟩
theorem rep_split {ps : List PN} {g0 : Nat} (hg : g0 < ps.length) (p q : Int) (f : Bool) : ∀ {t : BT}, RepI ps t → Inn t g0 → RepI (splitL ps g0 p q f) (t.splitAt g0 p q f ps.length (ps.length + 1))
  | .leaf g x, h, _ => by
    show RepI _ (if g = g0 then BT.part g f (.leaf ps.length p) (.leaf (ps.length + 1) q) else .leaf g x)
    by_cases e : g = g0
    · rw [if_pos e, e]
      exact ⟨⟨_, splitL_at hg p q f, rfl, rfl, by show ((ps.length : Int) + 1) = ((ps.length + 1 : Nat) : Int); omega⟩, ⟨_, splitL_new1 hg p q f, rfl, rfl⟩, ⟨_, splitL_new2 hg p q f, rfl, rfl⟩⟩
    · rw [if_neg e]
      exact h.congr (fun k hk => by
        rw [List.mem_singleton.1 hk]
        exact splitL_old (h.lt g List.mem_cons_self) e p q f)
  | .part g f' a b, h, hi => by
    obtain ⟨⟨x, h1, h2, h3, h4⟩, ha, hb⟩ := h
    refine ⟨⟨x, ?_, h2, ?_, ?_⟩, rep_split hg p q f ha hi.2.1, rep_split hg p q f hb hi.2.2⟩
    · rw [splitL_old (List.getElem?_eq_some_iff.1 h1).1 hi.1]; exact h1
    · rw [rootS]; exact h3
    · rw [rootS]; exact h4
theorem blocksS (g0 : Nat) (p q : Int) (f : Bool) (k1 k2 : Nat) : ∀ t : BT, Inn t g0 → (t.splitAt g0 p q f k1 k2).blocks = t.blocks.flatMap (fun k => if k = g0 then [g0, k1, k2] else [k])
  | .leaf g x, _ => by
    show (if g = g0 then BT.part g f (.leaf k1 p) (.leaf k2 q) else .leaf g x).blocks = [g].flatMap _
    by_cases e : g = g0
    · rw [if_pos e]; simp [BT.blocks, e]
    · rw [if_neg e]; simp [BT.blocks, e]
  | .part g f' a b, h => by
    show g :: ((a.splitAt g0 p q f k1 k2).blocks ++ (b.splitAt g0 p q f k1 k2).blocks) = (g :: (a.blocks ++ b.blocks)).flatMap _
    rw [List.flatMap_cons, List.flatMap_append, blocksS g0 p q f k1 k2 a h.2.1, blocksS g0 p q f k1 k2 b h.2.2, if_neg h.1]
    rfl
theorem nodupS (g0 k1 k2 : Nat) (hk : k1 ≠ k2) : ∀ l : List Nat, l.Nodup → k1 ∉ l → k2 ∉ l → (l.flatMap (fun k => if k = g0 then [g0, k1, k2] else [k])).Nodup
  | [], _, _, _ => by simp
  | x :: l, hn, h1, h2 => by
    obtain ⟨hx, hl⟩ := List.nodup_cons.1 hn
    have ih := nodupS g0 k1 k2 hk l hl (fun h => h1 (List.mem_cons_of_mem _ h)) (fun h => h2 (List.mem_cons_of_mem _ h))
    have x1 : x ≠ k1 := fun e => h1 (e ▸ List.mem_cons_self)
    have x2 : x ≠ k2 := fun e => h2 (e ▸ List.mem_cons_self)
    have memS : ∀ {y : Nat}, y ∈ l.flatMap (fun k => if k = g0 then [g0, k1, k2] else [k]) → y ∈ l ∨ y = k1 ∨ y = k2 := by
      intro y h
      obtain ⟨z, hz, hy⟩ := List.mem_flatMap.1 h
      by_cases e : z = g0
      · rw [if_pos e] at hy
        simp at hy
        rcases hy with rfl | h | h
        · exact .inl (e ▸ hz)
        · exact .inr (.inl h)
        · exact .inr (.inr h)
      · rw [if_neg e] at hy
        simp at hy
        exact .inl (hy ▸ hz)
    rw [List.flatMap_cons]
    refine List.nodup_append.2 ⟨?_, ih, fun y hy z hz e => ?_⟩
    · split
      · rename_i e; subst e; simp [x1, x2, hk]
      · simp
    · subst e
      by_cases e : x = g0
      · subst e
        rw [if_pos rfl] at hy
        simp at hy
        have hno : ∀ y, y ∈ l.flatMap (fun k => if k = x then [x, k1, k2] else [k]) → y ∈ l := by
          intro y h
          obtain ⟨z, hz, hy⟩ := List.mem_flatMap.1 h
          rw [if_neg (show ¬ z = x from fun e => hx (e ▸ hz))] at hy
          simp at hy
          exact hy ▸ hz
        have hz' := hno y hz
        rcases hy with rfl | rfl | rfl
        · exact hx hz'
        · exact h1 (List.mem_cons_of_mem _ hz')
        · exact h2 (List.mem_cons_of_mem _ hz')
      · rw [if_neg e] at hy
        simp at hy
        subst hy
        rcases memS hz with h | h | h
        · exact hx h
        · exact x1 h
        · exact x2 h
theorem ri_split {ps : List PN} {t : BT} (R : RI ps t) {g0 : Nat} {p : Int} (hm : (g0, p) ∈ t.lv) (q : Int) (f : Bool) : RI (splitL ps g0 p q f) (t.splitAt g0 p q f ps.length (ps.length + 1)) := by
  have hg : g0 < ps.length := R.rep.lt g0 (lv_block hm)
  have hi := inn_lv R.nd hm
  have old : ∀ j x, (splitL ps g0 p q f)[j]? = some x → (j = g0 ∧ x = ⟨0, f, ps.length, ps.length + 1⟩) ∨ (j ≠ g0 ∧ ps[j]? = some x) ∨ (ps.length ≤ j ∧ x.a = -1 ∧ x.b = 0) := by
    intro j x h
    by_cases e : j = g0
    · rw [e, splitL_at hg] at h; cases h; exact .inl ⟨e, rfl⟩
    · by_cases hl : j < ps.length
      · rw [splitL_old hl e] at h; exact .inr (.inl ⟨e, h⟩)
      · have hj : j < ps.length + 2 := by have := (List.getElem?_eq_some_iff.1 h).1; rwa [splitL_len] at this
        have : j = ps.length ∨ j = ps.length + 1 := by omega
        rcases this with rfl | rfl
        · rw [splitL_new1 hg] at h; cases h; exact .inr (.inr ⟨Nat.le_refl _, rfl, rfl⟩)
        · rw [splitL_new2 hg] at h; cases h; exact .inr (.inr ⟨by omega, rfl, rfl⟩)
  refine ⟨rep_split hg p q f R.rep hi, ?_, by rw [rootS]; exact R.root, ?_, ?_, ?_⟩
  · rw [blocksS _ _ _ _ _ _ t hi]
    exact nodupS _ _ _ (by omega) _ R.nd (fun e => Nat.lt_irrefl _ (R.rep.lt _ e)) (fun e => by have := R.rep.lt _ e; omega)
  · intro i r hpar j x hx hp
    rcases par_split _ _ _ _ _ _ hpar with h | ⟨rfl, h⟩
    · have hr : r < ps.length := R.rep.lt r (par_kid_blocks h)
      rcases old j x hx with ⟨rfl, rfl⟩ | ⟨_, hx⟩ | ⟨_, ha, _⟩
      · rcases hp with hp | ⟨_, hp⟩
        · have : ((ps.length : Nat) : Int) = r := hp; omega
        · have : ((ps.length : Nat) : Int) + 1 = r := hp; omega
      · exact R.least i r h j x hx hp
      · rcases hp with hp | ⟨hp, _⟩ <;> omega
    · rcases old j x hx with ⟨rfl, _⟩ | ⟨_, hx⟩ | ⟨_, ha, _⟩
      · exact Nat.le_refl _
      · have := R.bound j x hx
        rcases hp with hp | ⟨_, hp⟩ <;> omega
      · rcases hp with hp | ⟨hp, _⟩ <;> omega
  · intro i r hpar
    rcases par_split _ _ _ _ _ _ hpar with h | ⟨rfl, h⟩
    · exact R.inc i r h
    · omega
  · intro j x hx
    rw [splitL_len]
    rcases old j x hx with ⟨_, rfl⟩ | ⟨_, hx⟩ | ⟨_, ha, hb⟩
    · exact ⟨by show (ps.length : Int) < _; omega, by show (ps.length : Int) + 1 < _; omega⟩
    · have := R.bound j x hx; omega
    · rw [ha, hb]; omega
/-! A pane's going out. -/
def BT.reroot : BT → Nat → BT
  | .leaf _ p, g => .leaf g p
  | .part _ f a b, g => .part g f a b
def BT.withoutR : BT → Int → BT
  | .leaf g x, _ => .leaf g x
  | .part g f a b, p => if a.isLeaf p then BT.reroot b g else if b.isLeaf p then BT.reroot a g else .part g f (BT.withoutR a p) (BT.withoutR b p)
/-- The part whose two are the pane and another one: its place, the pane's, the other's. -/
def BT.cutAt : BT → Int → Option (Nat × Nat × Nat)
  | .leaf _ _, _ => none
  | .part g f a b, p => if a.isLeaf p then some (g, a.root, b.root) else if b.isLeaf p then some (g, b.root, a.root) else (BT.cutAt a p).or (BT.cutAt b p)
theorem root_reroot (t : BT) (g : Nat) : (BT.reroot t g).root = g := by cases t <;> rfl
theorem plain_reroot (t : BT) (g : Nat) : (BT.reroot t g).plain = t.plain := by cases t <;> rfl
theorem root_withoutR (p : Int) : ∀ t : BT, (BT.withoutR t p).root = t.root
  | .leaf _ _ => rfl
  | .part g f a b => by
    show (if a.isLeaf p then BT.reroot b g else if b.isLeaf p then BT.reroot a g else BT.part g f (BT.withoutR a p) (BT.withoutR b p)).root = g
    split
    · exact root_reroot _ _
    · split
      · exact root_reroot _ _
      · rfl
theorem plain_withoutR (p : Int) : ∀ t : BT, (BT.withoutR t p).plain = t.plain.without p
  | .leaf _ _ => rfl
  | .part g f a b => by
    show (if a.isLeaf p then BT.reroot b g else if b.isLeaf p then BT.reroot a g else BT.part g f (BT.withoutR a p) (BT.withoutR b p)).plain = T.without (.part f a.plain b.plain) p
    rw [T.without]
    by_cases h1 : a.isLeaf p = true
    · rw [if_pos h1, if_pos ((a.isLeaf_plain p).1 h1), plain_reroot]
    · rw [if_neg h1, if_neg (fun e => h1 ((a.isLeaf_plain p).2 e))]
      by_cases h2 : b.isLeaf p = true
      · rw [if_pos h2, if_pos ((b.isLeaf_plain p).1 h2), plain_reroot]
      · rw [if_neg h2, if_neg (fun e => h2 ((b.isLeaf_plain p).2 e))]
        show T.part f (BT.withoutR a p).plain (BT.withoutR b p).plain = _
        rw [plain_withoutR p a, plain_withoutR p b]
theorem leaf_of {t : BT} {p : Int} (h : t.isLeaf p = true) : t = .leaf t.root p := by
  cases t with
  | leaf g x => simp [BT.isLeaf] at h; rw [h]; rfl
  | part _ _ _ _ => simp [BT.isLeaf] at h
theorem isLeaf_mem {t : BT} {p : Int} (h : t.isLeaf p = true) : p ∈ t.plain.leaves := by
  rw [leaf_of h]; exact List.mem_cons_self
theorem out_none (p : Int) : ∀ t : BT, p ∉ t.plain.leaves → BT.withoutR t p = t ∧ BT.cutAt t p = none
  | .leaf _ _, _ => ⟨rfl, rfl⟩
  | .part g f a b, h => by
    have ha : p ∉ a.plain.leaves := fun e => h (List.mem_append_left _ e)
    have hb : p ∉ b.plain.leaves := fun e => h (List.mem_append_right _ e)
    have h1 : ¬ a.isLeaf p = true := fun e => ha (isLeaf_mem e)
    have h2 : ¬ b.isLeaf p = true := fun e => hb (isLeaf_mem e)
    constructor
    · rw [BT.withoutR, if_neg h1, if_neg h2, (out_none p a ha).1, (out_none p b hb).1]
    · rw [BT.cutAt, if_neg h1, if_neg h2, (out_none p a ha).2, (out_none p b hb).2]; rfl
theorem isLeaf_one {t : BT} {p q : Int} (h : t.isLeaf p = true) (hq : q ∈ t.plain.leaves) : q = p := by
  rw [leaf_of h] at hq
  exact List.mem_singleton.1 hq
theorem findL_leaf {t : BT} {p : Int} (h : t.isLeaf p = true) : BT.findL t p = some t.root := by
  rw [leaf_of h]
  show (if p = p then some t.root else none) = some t.root
  rw [if_pos rfl]
/-- What the cut's three are. -/
structure Cut (ps : List PN) (t : BT) (p : Int) (i k o : Nat) : Prop where
  cut : BT.cutAt t p = some (i, k, o)
  found : BT.findL t p = some k
  pk : Par t i k
  po : Par t i o
  at_ : ∃ x, ps[i]? = some x ∧ 0 ≤ x.a ∧ ((x.a = (k : Int) ∧ x.b = (o : Int)) ∨ (x.a = (o : Int) ∧ x.b = (k : Int)))
  ne : k ≠ o
theorem cut_ex {ps : List PN} {p : Int} : ∀ {t : BT}, RepI ps t → t.blocks.Nodup → t.plain.leaves.Nodup → p ∈ t.plain.leaves → t.isLeaf p = false → ∃ i k o, Cut ps t p i k o
  | .leaf g x, _, _, _, hp, hl => by
    have : p = x := List.mem_singleton.1 hp
    rw [this] at hl
    simp [BT.isLeaf] at hl
  | .part g f a b, h, hn, hv, hp, _ => by
    obtain ⟨⟨x, h1, h2, h3, h4⟩, ha, hb⟩ := h
    have A := apart hn
    obtain ⟨hva, hvb, hd⟩ := List.nodup_append.1 (show (a.plain.leaves ++ b.plain.leaves).Nodup from hv)
    have hab : a.root ≠ b.root := fun e => A.ab a.root a.root_mem (e ▸ b.root_mem)
    by_cases la : a.isLeaf p = true
    · refine ⟨g, a.root, b.root, ⟨by rw [BT.cutAt, if_pos la], ?_, .inl ⟨rfl, .inl rfl⟩, .inl ⟨rfl, .inr rfl⟩, ⟨x, h1, by omega, .inl ⟨h3, h4⟩⟩, hab⟩⟩
      rw [BT.findL, findL_leaf la]; rfl
    · by_cases lb : b.isLeaf p = true
      · have hpa : p ∉ a.plain.leaves := fun e => hd p e p (isLeaf_mem lb) rfl
        refine ⟨g, b.root, a.root, ⟨by rw [BT.cutAt, if_neg la, if_pos lb], ?_, .inl ⟨rfl, .inr rfl⟩, .inl ⟨rfl, .inl rfl⟩, ⟨x, h1, by omega, .inr ⟨h3, h4⟩⟩, Ne.symm hab⟩⟩
        rw [BT.findL, findL_leaf lb, (findL_none a p).2 hpa]; rfl
      · rcases List.mem_append.1 (show p ∈ a.plain.leaves ++ b.plain.leaves from hp) with hpa | hpb
        · have hnb : p ∉ b.plain.leaves := fun e => hd p hpa p e rfl
          obtain ⟨i, k, o, C⟩ := cut_ex ha A.na hva hpa (by simpa using la)
          refine ⟨i, k, o, ⟨by rw [BT.cutAt, if_neg la, if_neg lb, C.cut]; rfl, by rw [BT.findL, C.found]; rfl, .inr (.inl C.pk), .inr (.inl C.po), C.at_, C.ne⟩⟩
        · have hna : p ∉ a.plain.leaves := fun e => hd p e p hpb rfl
          obtain ⟨i, k, o, C⟩ := cut_ex hb A.nb hvb hpb (by simpa using lb)
          refine ⟨i, k, o, ⟨by rw [BT.cutAt, if_neg la, if_neg lb, (out_none p a hna).2, C.cut]; rfl, by rw [BT.findL, (findL_none a p).2 hna, C.found]; rfl, .inr (.inr C.pk), .inr (.inr C.po), C.at_, C.ne⟩⟩
theorem par_reroot {t : BT} {g i r : Nat} (h : Par (BT.reroot t g) i r) : (i = g ∧ Par t t.root r) ∨ (i ∈ BT.kids t ∧ Par t i r) := by
  cases t with
  | leaf _ _ => exact h.elim
  | part g0 f a b =>
    rcases h with ⟨h1, h2⟩ | h | h
    · exact .inl ⟨h1, .inl ⟨rfl, h2⟩⟩
    · exact .inr ⟨List.mem_append_left _ (par_mem h), .inr (.inl h)⟩
    · exact .inr ⟨List.mem_append_right _ (par_mem h), .inr (.inr h)⟩
theorem cut_mem {p : Int} : ∀ {t : BT} {i k o : Nat}, BT.cutAt t p = some (i, k, o) → i ∈ t.blocks ∧ o ∈ t.blocks
  | .leaf _ _, _, _, _, h => by cases h
  | .part g f a b, i, k, o, h => by
    rw [BT.cutAt] at h
    split at h
    · cases h
      exact ⟨List.mem_cons_self, List.mem_cons_of_mem _ (List.mem_append_right _ b.root_mem)⟩
    · split at h
      · cases h
        exact ⟨List.mem_cons_self, List.mem_cons_of_mem _ (List.mem_append_left _ a.root_mem)⟩
      · cases ha : BT.cutAt a p with
        | some y =>
          rw [ha] at h; cases h
          have := cut_mem ha
          exact ⟨List.mem_cons_of_mem _ (List.mem_append_left _ this.1), List.mem_cons_of_mem _ (List.mem_append_left _ this.2)⟩
        | none =>
          rw [ha] at h
          have := cut_mem (show BT.cutAt b p = some (i, k, o) from h)
          exact ⟨List.mem_cons_of_mem _ (List.mem_append_right _ this.1), List.mem_cons_of_mem _ (List.mem_append_right _ this.2)⟩
theorem par_out {p : Int} : ∀ {t : BT} {i k o : Nat}, t.blocks.Nodup → BT.cutAt t p = some (i, k, o) → t.plain.leaves.Nodup → ∀ {j r : Nat}, Par (BT.withoutR t p) j r → (Par t j r ∧ j ≠ i ∧ ¬ Par t o r) ∨ (j = i ∧ Par t o r)
  | .leaf _ _, _, _, _, _, h, _, _, _, _ => by cases h
  | .part g f a b, i, k, o, hn, hc, hv, j, r, h => by
    have A := apart hn
    obtain ⟨hva, hvb, hd⟩ := List.nodup_append.1 (show (a.plain.leaves ++ b.plain.leaves).Nodup from hv)
    rw [BT.cutAt] at hc
    rw [BT.withoutR] at h
    by_cases la : a.isLeaf p = true
    · rw [if_pos la] at hc h
      cases hc
      rcases par_reroot h with ⟨h1, h2⟩ | ⟨h1, h2⟩
      · exact .inr ⟨h1, .inr (.inr h2)⟩
      · have hjb : j ∈ b.blocks := par_mem h2
        refine .inl ⟨.inr (.inr h2), fun e => A.gb (e ▸ hjb), fun e => ?_⟩
        have := par_one hn (.inr (.inr h2)) e
        rw [this] at h1
        exact root_no_kid A.nb h1
    · rw [if_neg la] at hc h
      by_cases lb : b.isLeaf p = true
      · rw [if_pos lb] at hc h
        cases hc
        rcases par_reroot h with ⟨h1, h2⟩ | ⟨h1, h2⟩
        · exact .inr ⟨h1, .inr (.inl h2)⟩
        · have hjb : j ∈ a.blocks := par_mem h2
          refine .inl ⟨.inr (.inl h2), fun e => A.ga (e ▸ hjb), fun e => ?_⟩
          have := par_one hn (.inr (.inl h2)) e
          rw [this] at h1
          exact root_no_kid A.na h1
      · rw [if_neg lb] at hc h
        cases ha : BT.cutAt a p with
        | some y =>
          rw [ha] at hc; cases hc
          obtain ⟨mi, mo⟩ := cut_mem ha
          have hpb : p ∉ b.plain.leaves := by
            intro e
            have : p ∉ a.plain.leaves := fun e' => hd p e' p e rfl
            rw [(out_none p a this).2] at ha; cases ha
          rw [(out_none p b hpb).1] at h
          have notb : ∀ {r}, Par (.part g f a b) o r → Par a o r := by
            intro r h
            rcases h with ⟨h, _⟩ | h | h
            · exact absurd (h ▸ mo) A.ga
            · exact h
            · exact (A.ab _ mo (par_mem h)).elim
          rcases h with ⟨h1, h2⟩ | h | h
          · rw [root_withoutR] at h2
            refine .inl ⟨.inl ⟨h1, h2⟩, fun e => A.ga ((h1.symm.trans e) ▸ mi), fun e => ?_⟩
            have e1 := notb e
            rcases h2 with h2 | h2
            · exact root_no_kid A.na (h2 ▸ par_kid e1)
            · exact A.ab r (par_kid_blocks e1) (h2 ▸ b.root_mem)
          · rcases par_out A.na ha hva h with ⟨h1, h2, h3⟩ | ⟨h1, h2⟩
            · exact .inl ⟨.inr (.inl h1), h2, fun e => h3 (notb e)⟩
            · exact .inr ⟨h1, .inr (.inl h2)⟩
          · exact .inl ⟨.inr (.inr h), fun e => A.ab i mi (e ▸ par_mem h), fun e => A.ab r (par_kid_blocks (notb e)) (par_kid_blocks h)⟩
        | none =>
          rw [ha] at hc
          have hb : BT.cutAt b p = some (i, k, o) := hc
          obtain ⟨mi, mo⟩ := cut_mem hb
          have hpa : p ∉ a.plain.leaves := by
            intro e
            have : p ∉ b.plain.leaves := fun e' => hd p e p e' rfl
            rw [(out_none p b this).2] at hb; cases hb
          rw [(out_none p a hpa).1] at h
          have nota : ∀ {r}, Par (.part g f a b) o r → Par b o r := by
            intro r h
            rcases h with ⟨h, _⟩ | h | h
            · exact absurd (h ▸ mo) A.gb
            · exact (A.ab _ (par_mem h) mo).elim
            · exact h
          rcases h with ⟨h1, h2⟩ | h | h
          · rw [root_withoutR] at h2
            refine .inl ⟨.inl ⟨h1, h2⟩, fun e => A.gb ((h1.symm.trans e) ▸ mi), fun e => ?_⟩
            have e1 := nota e
            rcases h2 with h2 | h2
            · exact A.ab r (h2 ▸ a.root_mem) (par_kid_blocks e1)
            · exact root_no_kid A.nb (h2 ▸ par_kid e1)
          · exact .inl ⟨.inr (.inl h), fun e => A.ab i (e ▸ par_mem h) mi, fun e => A.ab r (par_kid_blocks h) (par_kid_blocks (nota e))⟩
          · rcases par_out A.nb hb hvb h with ⟨h1, h2, h3⟩ | ⟨h1, h2⟩
            · exact .inl ⟨.inr (.inr h1), h2, fun e => h3 (nota e)⟩
            · exact .inr ⟨h1, .inr (.inr h2)⟩
theorem rep_reroot {ps qs : List PN} {t : BT} {g : Nat} (h : RepI ps t) (hg : g ∉ BT.kids t) (h1 : qs[g]? = ps[t.root]?) (h2 : ∀ k, k ≠ g → qs[k]? = ps[k]?) : RepI qs (BT.reroot t g) := by
  cases t with
  | leaf g0 p =>
    obtain ⟨x, hx, h3⟩ := h
    exact ⟨x, h1.trans hx, h3⟩
  | part g0 f a b =>
    obtain ⟨⟨x, hx, h3⟩, ha, hb⟩ := h
    exact ⟨⟨x, h1.trans hx, h3⟩, ha.congr (fun k hk => h2 k (fun e => hg (List.mem_append_left _ (e ▸ hk)))), hb.congr (fun k hk => h2 k (fun e => hg (List.mem_append_right _ (e ▸ hk))))⟩
theorem rep_out {ps qs : List PN} {p : Int} : ∀ {t : BT} {i k o : Nat}, RepI ps t → t.blocks.Nodup → BT.cutAt t p = some (i, k, o) → t.plain.leaves.Nodup → qs[i]? = ps[o]? → (∀ k, k ≠ i → qs[k]? = ps[k]?) → RepI qs (BT.withoutR t p)
  | .leaf _ _, _, _, _, _, _, h, _, _, _ => by cases h
  | .part g f a b, i, k, o, h, hn, hc, hv, h1, h2 => by
    have A := apart hn
    obtain ⟨hva, hvb, hd⟩ := List.nodup_append.1 (show (a.plain.leaves ++ b.plain.leaves).Nodup from hv)
    obtain ⟨⟨x, hx, h3, h4, h5⟩, ra, rb⟩ := h
    rw [BT.cutAt] at hc
    rw [BT.withoutR]
    by_cases la : a.isLeaf p = true
    · rw [if_pos la] at hc ⊢
      cases hc
      exact rep_reroot rb (fun e => A.gb (by rw [blocks_eq b]; exact List.mem_cons_of_mem _ e)) h1 h2
    · rw [if_neg la] at hc ⊢
      by_cases lb : b.isLeaf p = true
      · rw [if_pos lb] at hc ⊢
        cases hc
        exact rep_reroot ra (fun e => A.ga (by rw [blocks_eq a]; exact List.mem_cons_of_mem _ e)) h1 h2
      · rw [if_neg lb] at hc ⊢
        cases ha : BT.cutAt a p with
        | some y =>
          rw [ha] at hc; cases hc
          obtain ⟨mi, mo⟩ := cut_mem ha
          have hpb : p ∉ b.plain.leaves := by
            intro e
            have : p ∉ a.plain.leaves := fun e' => hd p e' p e rfl
            rw [(out_none p a this).2] at ha; cases ha
          rw [(out_none p b hpb).1]
          exact ⟨⟨x, (h2 g (fun e => A.ga (e ▸ mi))).trans hx, h3, by rw [root_withoutR]; exact h4, h5⟩, rep_out ra A.na ha hva h1 h2, rb.congr (fun k hk => h2 k (fun e => A.ab i mi (e ▸ hk)))⟩
        | none =>
          rw [ha] at hc
          have hb : BT.cutAt b p = some (i, k, o) := hc
          obtain ⟨mi, mo⟩ := cut_mem hb
          have hpa : p ∉ a.plain.leaves := by
            intro e
            have : p ∉ b.plain.leaves := fun e' => hd p e p e' rfl
            rw [(out_none p b this).2] at hb; cases hb
          rw [(out_none p a hpa).1]
          exact ⟨⟨x, (h2 g (fun e => A.gb (e ▸ mi))).trans hx, h3, h4, by rw [root_withoutR]; exact h5⟩, ra.congr (fun k hk => h2 k (fun e => A.ab i (e ▸ hk) mi)), rep_out rb A.nb hb hvb h1 h2⟩
theorem kids_sub (t : BT) : (BT.kids t).Sublist t.blocks := by rw [blocks_eq t]; exact List.sublist_cons_self _ _
theorem blocks_reroot (t : BT) (g : Nat) : (BT.reroot t g).blocks = g :: BT.kids t := by cases t <;> rfl
theorem blocks_withoutR (p : Int) : ∀ t : BT, (BT.withoutR t p).blocks.Sublist t.blocks
  | .leaf _ _ => List.Sublist.refl _
  | .part g f a b => by
    show (BT.withoutR (.part g f a b) p).blocks.Sublist (g :: (a.blocks ++ b.blocks))
    rw [BT.withoutR]
    split
    · rw [blocks_reroot]; exact ((kids_sub b).trans (List.sublist_append_right _ _)).cons_cons _
    · split
      · rw [blocks_reroot]; exact ((kids_sub a).trans (List.sublist_append_left _ _)).cons_cons _
      · exact (List.Sublist.append (blocks_withoutR p a) (blocks_withoutR p b)).cons_cons _
theorem ri_out {ps : List PN} {t : BT} (R : RI ps t) {p : Int} {i k o : Nat} (C : Cut ps t p i k o) (hv : t.plain.leaves.Nodup) {y : PN} (hy : ps[o]? = some y) : RI (ps.set i y) (BT.withoutR t p) := by
  have hi : i < ps.length := R.rep.lt i (par_mem C.pk)
  have e1 : (ps.set i y)[i]? = ps[o]? := by rw [List.getElem?_set_self hi, hy]
  have e2 : ∀ k, k ≠ i → (ps.set i y)[k]? = ps[k]? := fun k hk => List.getElem?_set_ne (Ne.symm hk)
  have ho : o ∈ t.blocks := par_kid_blocks C.po
  refine ⟨rep_out R.rep R.nd C.cut hv e1 e2, R.nd.sublist (blocks_withoutR p t), by rw [root_withoutR]; exact R.root, ?_, ?_, ?_⟩
  · intro i2 r h j x hx hp
    rcases par_out R.nd C.cut hv h with ⟨h1, h2, h3⟩ | ⟨h1, h2⟩
    · by_cases e : j = i
      · rw [e, e1] at hx
        exact absurd (rep_pts R.rep R.nd ho hx hp) h3
      · rw [e2 j e] at hx
        exact R.least i2 r h1 j x hx hp
    · by_cases e : j = i
      · rw [h1, e]; exact Nat.le_refl _
      · rw [e2 j e] at hx
        have h3 := R.least o r h2 j x hx hp
        have h4 := R.inc i o C.po
        omega
  · intro i2 r h
    rcases par_out R.nd C.cut hv h with ⟨h1, _, _⟩ | ⟨h1, h2⟩
    · exact R.inc i2 r h1
    · have h3 := R.inc o r h2
      have h4 := R.inc i o C.po
      omega
  · intro j x hx
    rw [List.length_set]
    by_cases e : j = i
    · rw [e, e1] at hx; exact R.bound o x hx
    · rw [e2 j e] at hx; exact R.bound j x hx
/-- Ahead of the pane's part none points at it. -/
theorem none_ahead {ps : List PN} {t : BT} (R : RI ps t) {p : Int} {i k o : Nat} (C : Cut ps t p i k o) {j : Nat} (hj : j < i) {x : PN} (hx : ps[j]? = some x) : x.a ≠ k ∧ ¬ (0 ≤ x.a ∧ x.b = k) := by
  have h := R.least i k C.pk j x hx
  exact ⟨fun e => by have := h (.inl e); omega, fun e => by have := h (.inr e); omega⟩
end Go.Proofs.Ytnidcnmeonjjbaa.LayRefPure
