/- A layout as a plain tree: its panes, and what a deed does with it; the tree with its blocks. -/
import Derived.Test.YtnidcnmeonjjbaaKit
namespace Go.Proofs.Ytnidcnmeonjjbaa.LayPure
set_option linter.unusedVariables false
set_option linter.unusedSimpArgs false
inductive T where
  | leaf (p : Int)
  | part (f : Bool) (a b : T)
  deriving DecidableEq
def T.leaves : T → List Int
  | .leaf p => [p]
  | .part _ a b => a.leaves ++ b.leaves
def T.split : T → Int → Int → Bool → T
  | .leaf x, p, q, f => if x = p then .part f (.leaf p) (.leaf q) else .leaf x
  | .part g a b, p, q, f => .part g (a.split p q f) (b.split p q f)
def T.without : T → Int → T
  | .leaf x, _ => .leaf x
  | .part f a b, p => if a = .leaf p then b else if b = .leaf p then a else .part f (a.without p) (b.without p)
theorem leaves_pos : ∀ t : T, 1 ≤ t.leaves.length
  | .leaf _ => Nat.le_refl _
  | .part _ a b => by
    have := leaves_pos a
    show 1 ≤ (a.leaves ++ b.leaves).length
    rw [List.length_append]; omega
theorem leaves_part_two (f : Bool) (a b : T) : 2 ≤ (T.part f a b).leaves.length := by
  have h1 := leaves_pos a
  have h2 := leaves_pos b
  show 2 ≤ (a.leaves ++ b.leaves).length
  rw [List.length_append]; omega
theorem leaves_split (p q : Int) (f : Bool) : ∀ t : T, (t.split p q f).leaves = t.leaves.flatMap (fun x => if x = p then [p, q] else [x])
  | .leaf x => by
    show (T.split (.leaf x) p q f).leaves = [x].flatMap _
    rw [T.split]
    by_cases h : x = p
    · rw [if_pos h]; simp [T.leaves, h]
    · rw [if_neg h]; simp [T.leaves, h]
  | .part g a b => by
    show (a.split p q f).leaves ++ (b.split p q f).leaves = (a.leaves ++ b.leaves).flatMap _
    rw [List.flatMap_append, leaves_split p q f a, leaves_split p q f b]
theorem split_none (p q : Int) (f : Bool) : ∀ t : T, p ∉ t.leaves → t.split p q f = t
  | .leaf x, h => by
    have : x ≠ p := fun e => h (by simp [T.leaves, e])
    rw [T.split, if_neg this]
  | .part g a b, h => by
    have h1 : p ∉ a.leaves := fun e => h (List.mem_append.2 (.inl e))
    have h2 : p ∉ b.leaves := fun e => h (List.mem_append.2 (.inr e))
    rw [T.split, split_none p q f a h1, split_none p q f b h2]
theorem flat_len (p q : Int) : ∀ l : List Int, l.Nodup → p ∈ l → (l.flatMap (fun x => if x = p then [p, q] else [x])).length = l.length + 1
  | [], _, h => nomatch h
  | x :: l, hn, h => by
    rw [List.flatMap_cons, List.length_append, List.length_cons]
    obtain ⟨h1, h2⟩ := List.nodup_cons.1 hn
    by_cases e : x = p
    · subst e
      have : ∀ m : List Int, x ∉ m → (m.flatMap (fun y => if y = x then [x, q] else [y])).length = m.length := by
        intro m
        induction m with
        | nil => intro _; rfl
        | cons y m ih =>
          intro hy
          rw [List.flatMap_cons, List.length_append, ih (fun h => hy (List.mem_cons_of_mem _ h)), if_neg (fun e => hy (by rw [e]; exact List.mem_cons_self))]
          simp; omega
      rw [this l h1, if_pos rfl]
      simp; omega
    · rw [if_neg e, flat_len p q l h2 ((List.mem_cons.1 h).resolve_left (fun h => e h.symm))]
      simp; omega
theorem mem_flat {p q y : Int} {l : List Int} (h : y ∈ l.flatMap (fun x => if x = p then [p, q] else [x])) : y ∈ l ∨ (y = q ∧ p ∈ l) := by
  obtain ⟨x, hx, hy⟩ := List.mem_flatMap.1 h
  by_cases e : x = p
  · rw [if_pos e] at hy
    simp at hy
    rcases hy with rfl | rfl
    · exact .inl (e ▸ hx)
    · exact .inr ⟨rfl, e ▸ hx⟩
  · rw [if_neg e] at hy
    simp at hy
    exact .inl (hy ▸ hx)
theorem nodup_flat (p q : Int) : ∀ l : List Int, l.Nodup → q ∉ l → (l.flatMap (fun x => if x = p then [p, q] else [x])).Nodup
  | [], _, _ => by simp
  | x :: l, hn, hq => by
    obtain ⟨h1, h2⟩ := List.nodup_cons.1 hn
    have ih := nodup_flat p q l h2 (fun h => hq (List.mem_cons_of_mem _ h))
    have hxq : x ≠ q := fun e => hq (by rw [e]; exact List.mem_cons_self)
    rw [List.flatMap_cons]
    refine List.nodup_append.2 ⟨?_, ih, fun y hy z hz => ?_⟩
    · split
      · rename_i e; rw [← e]; simp [hxq]
      · simp
    · intro e
      subst e
      by_cases e : x = p
      · subst e
        rw [if_pos rfl] at hy
        simp at hy
        rcases mem_flat hz with h | ⟨h, h'⟩
        · rcases hy with rfl | rfl
          · exact h1 h
          · exact hq (List.mem_cons_of_mem _ h)
        · exact h1 h'
      · rw [if_neg e] at hy
        simp at hy
        subst hy
        rcases mem_flat hz with h | ⟨h, h'⟩
        · exact h1 h
        · exact hxq h
theorem not_leaf_of_two {a : T} {p : Int} (h : p ∉ a.leaves) : a ≠ .leaf p := fun e => h (by rw [e]; exact List.mem_cons_self)
theorem filter_none {p : Int} {l : List Int} (h : p ∉ l) : l.filter (fun x => x ≠ p) = l := by
  rw [List.filter_eq_self]
  intro x hx
  exact decide_eq_true (fun e => h (e ▸ hx))
theorem leaves_without (p : Int) : ∀ t : T, t.leaves.Nodup → t ≠ .leaf p → (t.without p).leaves = t.leaves.filter (fun x => x ≠ p)
  | .leaf x, _, h => by
    have : x ≠ p := fun e => h (by rw [e])
    show [x] = [x].filter _
    rw [List.filter_cons, if_pos (decide_eq_true this), List.filter_nil]
  | .part f a b, hn, _ => by
    obtain ⟨ha, hb, hd⟩ := List.nodup_append.1 (show (a.leaves ++ b.leaves).Nodup from hn)
    show ((T.part f a b).without p).leaves = (a.leaves ++ b.leaves).filter _
    rw [List.filter_append, T.without]
    by_cases h1 : a = .leaf p
    · rw [if_pos h1]
      have hpb : p ∉ b.leaves := fun h => hd p (by rw [h1]; exact List.mem_cons_self) p h rfl
      rw [filter_none hpb, h1]
      simp [T.leaves]
    · rw [if_neg h1]
      by_cases h2 : b = .leaf p
      · rw [if_pos h2]
        have hpa : p ∉ a.leaves := fun h => hd p h p (by rw [h2]; exact List.mem_cons_self) rfl
        rw [filter_none hpa, h2]
        simp [T.leaves]
      · rw [if_neg h2]
        show (a.without p).leaves ++ (b.without p).leaves = _
        rw [leaves_without p a ha h1, leaves_without p b hb h2]
/-- A deed: what is left, and the error's number. -/
def deedT (t : T) (p q : Int) (f away : Bool) : T × Int :=
  if away then (if p ∈ t.leaves then (match t with | .leaf _ => (t, 3) | .part _ _ _ => (t.without p, 0)) else (t, 4))
  else if p ∈ t.leaves then (if q ∈ t.leaves then (t, 6) else if t.leaves.length = 6 then (t, 5) else (t.split p q f, 0)) else (t, 4)
/-- What a layout keeps. -/
def Good (t : T) : Prop := t.leaves.Nodup ∧ t.leaves.length ≤ 6
theorem good_leaf (p : Int) : Good (.leaf p) := ⟨by simp [T.leaves], by simp [T.leaves]⟩
theorem good_split {t : T} (h : Good t) {p q : Int} {f : Bool} (hp : p ∈ t.leaves) (hq : q ∉ t.leaves) (h6 : t.leaves.length ≠ 6) : Good (t.split p q f) ∧ (t.split p q f).leaves.length = t.leaves.length + 1 := by
  have h1 := flat_len p q _ h.1 hp
  have h2 := h.2
  refine ⟨⟨?_, ?_⟩, ?_⟩
  · rw [leaves_split]; exact nodup_flat p q _ h.1 hq
  · rw [leaves_split, h1]; omega
  · rw [leaves_split, h1]
theorem good_without {t : T} (h : Good t) {p : Int} (ht : t ≠ .leaf p) : Good (t.without p) := by
  constructor
  · rw [leaves_without p t h.1 ht]; exact h.1.sublist (List.filter_sublist)
  · rw [leaves_without p t h.1 ht]; exact Nat.le_trans (List.length_filter_le _ _) h.2
theorem good_deed {t : T} (h : Good t) (p q : Int) (f away : Bool) : Good (deedT t p q f away).1 := by
  unfold deedT
  split
  · split
    · split
      · exact h
      · rename_i g a b hm
        exact good_without h (fun e => by cases e)
    · exact h
  · split
    · rename_i hp
      split
      · exact h
      · rename_i hq
        split
        · exact h
        · rename_i h6
          exact (good_split h hp hq h6).1
    · exact h
/-! The tree with its blocks. -/
inductive BT where
  | leaf (g : Nat) (p : Int)
  | part (g : Nat) (f : Bool) (a b : BT)
def BT.root : BT → Nat
  | .leaf g _ => g
  | .part g _ _ _ => g
def BT.blocks : BT → List Nat
  | .leaf g _ => [g]
  | .part g _ a b => g :: (a.blocks ++ b.blocks)
def BT.plain : BT → T
  | .leaf _ p => .leaf p
  | .part _ f a b => .part f a.plain b.plain
/-- The leaves, with their blocks. -/
def BT.lv : BT → List (Nat × Int)
  | .leaf g p => [(g, p)]
  | .part _ _ a b => a.lv ++ b.lv
def BT.find : BT → Int → Option Nat
  | .leaf g x, p => if x = p then some g else none
  | .part _ _ a b, p => (b.find p).or (a.find p)
def BT.splitAt : BT → Nat → Int → Int → Bool → Nat → Nat → BT
  | .leaf g x, g0, p, q, f, k1, k2 => if g = g0 then .part g f (.leaf k1 p) (.leaf k2 q) else .leaf g x
  | .part g f' a b, g0, p, q, f, k1, k2 => .part g f' (a.splitAt g0 p q f k1 k2) (b.splitAt g0 p q f k1 k2)
def BT.isLeaf : BT → Int → Bool
  | .leaf _ x, p => x == p
  | .part _ _ _ _, _ => false
def BT.without : BT → Int → BT
  | .leaf g x, _ => .leaf g x
  | .part g f a b, p => if a.isLeaf p then b else if b.isLeaf p then a else .part g f (a.without p) (b.without p)
theorem BT.lv_leaves : ∀ t : BT, t.lv.map Prod.snd = t.plain.leaves
  | .leaf _ _ => rfl
  | .part _ _ a b => by
    show (a.lv ++ b.lv).map Prod.snd = a.plain.leaves ++ b.plain.leaves
    rw [List.map_append, a.lv_leaves, b.lv_leaves]
theorem BT.lv_blocks : ∀ t : BT, (t.lv.map Prod.fst).Sublist t.blocks
  | .leaf _ _ => List.Sublist.refl _
  | .part g _ a b => by
    show ((a.lv ++ b.lv).map Prod.fst).Sublist (g :: (a.blocks ++ b.blocks))
    rw [List.map_append]
    exact (List.Sublist.append a.lv_blocks b.lv_blocks).cons _
theorem nodup_map_eq {α β : Type} (f : α → β) : ∀ (l : List α), (l.map f).Nodup → ∀ x ∈ l, ∀ y ∈ l, f x = f y → x = y
  | [], _, x, hx, _, _, _ => nomatch hx
  | a :: l, hn, x, hx, y, hy, e => by
    rw [List.map_cons] at hn
    obtain ⟨h1, h2⟩ := List.nodup_cons.1 hn
    rcases List.mem_cons.1 hx with rfl | hx
    · rcases List.mem_cons.1 hy with rfl | hy
      · rfl
      · exact absurd (List.mem_map.2 ⟨y, hy, e.symm⟩) h1
    · rcases List.mem_cons.1 hy with hya | hy
      · rw [hya] at e; exact absurd (List.mem_map.2 ⟨x, hx, e⟩) h1
      · exact nodup_map_eq f l h2 x hx y hy e
theorem BT.find_mem : ∀ (t : BT) (p : Int) (g : Nat), t.find p = some g → (g, p) ∈ t.lv
  | .leaf g x, p, g0, h => by
    unfold BT.find at h
    split at h
    · rename_i e; cases h; rw [e]; exact List.mem_cons_self
    · cases h
  | .part _ _ a b, p, g0, h => by
    show (g0, p) ∈ a.lv ++ b.lv
    unfold BT.find at h
    cases hb : b.find p with
    | some g1 => rw [hb] at h; cases h; exact List.mem_append.2 (.inr (b.find_mem p _ hb))
    | none => rw [hb] at h; exact List.mem_append.2 (.inl (a.find_mem p _ h))
theorem BT.find_none : ∀ (t : BT) (p : Int), t.find p = none ↔ p ∉ t.plain.leaves
  | .leaf g x, p => by
    unfold BT.find BT.plain T.leaves
    by_cases e : x = p
    · simp [e]
    · simp [e, Ne.symm e]
  | .part _ _ a b, p => by
    show (b.find p).or (a.find p) = none ↔ p ∉ a.plain.leaves ++ b.plain.leaves
    rw [Option.or_eq_none_iff, a.find_none p, b.find_none p, List.mem_append]
    exact ⟨fun h e => e.elim h.2 h.1, fun h => ⟨fun e => h (.inr e), fun e => h (.inl e)⟩⟩
theorem BT.find_some (t : BT) (p : Int) (h : p ∈ t.plain.leaves) : ∃ g, t.find p = some g := by
  cases e : t.find p with
  | some g => exact ⟨g, rfl⟩
  | none => exact absurd h ((t.find_none p).1 e)
theorem BT.plain_splitAt (g0 : Nat) (p q : Int) (f : Bool) (k1 k2 : Nat) : ∀ (t : BT), (∀ x ∈ t.lv, (x.1 = g0 ↔ x.2 = p)) → (t.splitAt g0 p q f k1 k2).plain = t.plain.split p q f
  | .leaf g x, h => by
    have h := h (g, x) List.mem_cons_self
    unfold BT.splitAt
    by_cases e : g = g0
    · rw [if_pos e]
      show T.part f (.leaf p) (.leaf q) = T.split (.leaf x) p q f
      rw [T.split, if_pos (h.1 e)]
    · rw [if_neg e]
      show T.leaf x = T.split (.leaf x) p q f
      rw [T.split, if_neg (fun e2 => e (h.2 e2))]
  | .part g f' a b, h => by
    show T.part f' (a.splitAt g0 p q f k1 k2).plain (b.splitAt g0 p q f k1 k2).plain = T.part f' (a.plain.split p q f) (b.plain.split p q f)
    rw [a.plain_splitAt g0 p q f k1 k2 (fun x hx => h x (List.mem_append.2 (.inl hx))), b.plain_splitAt g0 p q f k1 k2 (fun x hx => h x (List.mem_append.2 (.inr hx)))]
theorem BT.only {t : BT} {p : Int} {g0 : Nat} (h1 : t.blocks.Nodup) (h2 : t.plain.leaves.Nodup) (hf : t.find p = some g0) : ∀ x ∈ t.lv, (x.1 = g0 ↔ x.2 = p) := by
  intro x hx
  have hm := t.find_mem p g0 hf
  rw [← t.lv_leaves] at h2
  have h3 : (t.lv.map Prod.fst).Nodup := h1.sublist t.lv_blocks
  constructor
  · intro e
    have := nodup_map_eq Prod.fst _ h3 x hx (g0, p) hm e
    rw [this]
  · intro e
    have := nodup_map_eq Prod.snd _ h2 x hx (g0, p) hm e
    rw [this]
theorem BT.isLeaf_plain : ∀ (t : BT) (p : Int), t.isLeaf p = true ↔ t.plain = .leaf p
  | .leaf g x, p => by unfold BT.isLeaf BT.plain; simp
  | .part _ _ _ _, p => by unfold BT.isLeaf BT.plain; simp
theorem BT.plain_without (p : Int) : ∀ t : BT, (t.without p).plain = t.plain.without p
  | .leaf _ _ => rfl
  | .part g f a b => by
    show (BT.without (.part g f a b) p).plain = T.without (.part f a.plain b.plain) p
    rw [BT.without, T.without]
    by_cases h1 : a.isLeaf p = true
    · rw [if_pos h1, if_pos ((a.isLeaf_plain p).1 h1)]
    · rw [if_neg h1, if_neg (fun e => h1 ((a.isLeaf_plain p).2 e))]
      by_cases h2 : b.isLeaf p = true
      · rw [if_pos h2, if_pos ((b.isLeaf_plain p).1 h2)]
      · rw [if_neg h2, if_neg (fun e => h2 ((b.isLeaf_plain p).2 e))]
        show T.part f (a.without p).plain (b.without p).plain = _
        rw [a.plain_without p, b.plain_without p]
theorem BT.root_mem : ∀ t : BT, t.root ∈ t.blocks
  | .leaf _ _ => List.mem_cons_self
  | .part _ _ _ _ => List.mem_cons_self
theorem BT.blocks_without (p : Int) : ∀ t : BT, (t.without p).blocks.Sublist t.blocks
  | .leaf _ _ => List.Sublist.refl _
  | .part g f a b => by
    show (BT.without (.part g f a b) p).blocks.Sublist (g :: (a.blocks ++ b.blocks))
    rw [BT.without]
    split
    · exact (List.sublist_append_right _ _).cons _
    · split
      · exact (List.sublist_append_left _ _).cons _
      · exact (List.Sublist.append (a.blocks_without p) (b.blocks_without p)).cons_cons _
end Go.Proofs.Ytnidcnmeonjjbaa.LayPure
