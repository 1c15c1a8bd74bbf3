/- The boxes of a layout tile its screen: plain facts. -/
import Derived.Test.YtnidcnmeonjjbaaLayPlace
namespace Go.Proofs.Ytnidcnmeonjjbaa.LayTilePure
open Go.Proofs.Ytnidcnmeonjjbaa.LayPure Go.Proofs.Ytnidcnmeonjjbaa.LaySmall Go.Proofs.Ytnidcnmeonjjbaa.LayPlace
set_option linter.unusedVariables false
set_option linter.unusedSimpArgs false
def inB (x y : Nat) (b : BX) : Bool := decide (b.x ≤ x ∧ b.y ≤ y ∧ x < b.x + b.w ∧ y < b.y + b.h)
def cnt (x y : Nat) (l : List BX) : Nat := l.countP (inB x y)
def area (l : List BX) : Nat := (l.map fun b => b.w * b.h).sum
def allB (t : T) (b : BX) : List BX := linesT t b ++ (boxesT t b).map Prod.snd
theorem cnt_append (x y : Nat) (a b : List BX) : cnt x y (a ++ b) = cnt x y a + cnt x y b := List.countP_append
theorem cnt_cons (x y : Nat) (a : BX) (l : List BX) : cnt x y (a :: l) = cnt x y l + if inB x y a then 1 else 0 := by
  unfold cnt; rw [List.countP_cons]
theorem area_append (a b : List BX) : area (a ++ b) = area a + area b := by unfold area; rw [List.map_append, List.sum_append]
theorem area_cons (a : BX) (l : List BX) : area (a :: l) = a.w * a.h + area l := by unfold area; rw [List.map_cons, List.sum_cons]
theorem cut_cnt (f : Bool) (x y : Nat) (b : BX) : (if inB x y (firstB f b) then 1 else 0) + (if inB x y (lineB f b) then 1 else 0) + (if inB x y (secondB f b) then 1 else 0) = if inB x y b then (1 : Nat) else 0 := by
  obtain ⟨bx, bY, w, h⟩ := b
  unfold inB firstB lineB secondB
  cases f
  · simp only [Bool.false_eq_true, if_false, decide_eq_true_eq]
    by_cases h1 : bY ≤ y ∧ y < bY + h
    · by_cases h2 : bx ≤ x ∧ x < bx + w
      · rw [if_pos (c := bx ≤ x ∧ bY ≤ y ∧ x < bx + w ∧ y < bY + h) (by omega)]
        by_cases h3 : x < bx + (w - 1) / 2
        · rw [if_pos (by omega), if_neg (by omega), if_neg (by omega)]
        · by_cases h4 : x < bx + (w - 1) / 2 + min w 1
          · rw [if_neg (by omega), if_pos (by omega), if_neg (by omega)]
          · rw [if_neg (by omega), if_neg (by omega), if_pos (by omega)]
      · rw [if_neg (by omega), if_neg (by omega), if_neg (by omega), if_neg (by omega)]
    · rw [if_neg (by omega), if_neg (by omega), if_neg (by omega), if_neg (by omega)]
  · simp only [if_true, decide_eq_true_eq]
    by_cases h1 : bx ≤ x ∧ x < bx + w
    · by_cases h2 : bY ≤ y ∧ y < bY + h
      · rw [if_pos (c := bx ≤ x ∧ bY ≤ y ∧ x < bx + w ∧ y < bY + h) (by omega)]
        by_cases h3 : y < bY + (h - 1) / 2
        · rw [if_pos (by omega), if_neg (by omega), if_neg (by omega)]
        · by_cases h4 : y < bY + (h - 1) / 2 + min h 1
          · rw [if_neg (by omega), if_pos (by omega), if_neg (by omega)]
          · rw [if_neg (by omega), if_neg (by omega), if_pos (by omega)]
      · rw [if_neg (by omega), if_neg (by omega), if_neg (by omega), if_neg (by omega)]
    · rw [if_neg (by omega), if_neg (by omega), if_neg (by omega), if_neg (by omega)]
theorem cut_area (f : Bool) (b : BX) : (firstB f b).w * (firstB f b).h + (lineB f b).w * (lineB f b).h + (secondB f b).w * (secondB f b).h = b.w * b.h := by
  obtain ⟨bx, bY, w, h⟩ := b
  unfold firstB lineB secondB
  cases f
  · simp only [Bool.false_eq_true, if_false]
    rw [← Nat.add_mul, ← Nat.add_mul]
    congr 1
    omega
  · simp only [if_true]
    rw [← Nat.mul_add, ← Nat.mul_add]
    congr 1
    omega
theorem cnt_all (x y : Nat) : ∀ (t : T) (b : BX), cnt x y (linesT t b) + cnt x y ((boxesT t b).map Prod.snd) = if inB x y b then 1 else 0
  | .leaf p, b => by
    show cnt x y [] + cnt x y [b] = _
    rw [cnt_cons]; unfold cnt; rw [List.countP_nil]; omega
  | .part f l r, b => by
    show cnt x y (linesT l (firstB f b) ++ lineB f b :: linesT r (secondB f b)) + cnt x y ((boxesT l (firstB f b) ++ boxesT r (secondB f b)).map Prod.snd) = _
    rw [List.map_append, cnt_append, cnt_append, cnt_cons]
    have h1 := cut_cnt f x y b
    have h2 := cnt_all x y l (firstB f b)
    have h3 := cnt_all x y r (secondB f b)
    omega
theorem area_all : ∀ (t : T) (b : BX), area (linesT t b) + area ((boxesT t b).map Prod.snd) = b.w * b.h
  | .leaf p, b => by
    show area [] + area [b] = _
    rw [area_cons]; unfold area; simp
  | .part f l r, b => by
    show area (linesT l (firstB f b) ++ lineB f b :: linesT r (secondB f b)) + area ((boxesT l (firstB f b) ++ boxesT r (secondB f b)).map Prod.snd) = _
    rw [List.map_append, area_append, area_append, area_cons]
    have h1 := cut_area f b
    have h2 := area_all l (firstB f b)
    have h3 := area_all r (secondB f b)
    omega
theorem within_parts (f : Bool) (b : BX) : ((firstB f b).x + (firstB f b).w ≤ b.x + b.w ∧ (firstB f b).y + (firstB f b).h ≤ b.y + b.h) ∧ ((lineB f b).x + (lineB f b).w ≤ b.x + b.w ∧ (lineB f b).y + (lineB f b).h ≤ b.y + b.h) ∧ ((secondB f b).x + (secondB f b).w ≤ b.x + b.w ∧ (secondB f b).y + (secondB f b).h ≤ b.y + b.h) := by
  obtain ⟨bx, bY, w, h⟩ := b
  unfold firstB lineB secondB
  cases f <;> simp <;> omega
theorem within_all : ∀ (t : T) (b : BX), ∀ c ∈ allB t b, c.x + c.w ≤ b.x + b.w ∧ c.y + c.h ≤ b.y + b.h
  | .leaf p, b, c, hc => by
    have : c = b := by simpa [allB, linesT, boxesT] using hc
    rw [this]; exact ⟨Nat.le_refl _, Nat.le_refl _⟩
  | .part f l r, b, c, hc => by
    obtain ⟨h1, h2, h3⟩ := within_parts f b
    have hc : c ∈ (linesT l (firstB f b) ++ lineB f b :: linesT r (secondB f b)) ++ (boxesT l (firstB f b) ++ boxesT r (secondB f b)).map Prod.snd := hc
    rw [List.map_append] at hc
    have hl : c ∈ allB l (firstB f b) → _ := within_all l (firstB f b) c
    have hr : c ∈ allB r (secondB f b) → _ := within_all r (secondB f b) c
    have hl2 : c ∈ allB l (firstB f b) → c.x + c.w ≤ b.x + b.w ∧ c.y + c.h ≤ b.y + b.h := fun h => by have := hl h; omega
    have hr2 : c ∈ allB r (secondB f b) → c.x + c.w ≤ b.x + b.w ∧ c.y + c.h ≤ b.y + b.h := fun h => by have := hr h; omega
    rcases List.mem_append.1 hc with hc | hc
    · rcases List.mem_append.1 hc with hc | hc
      · exact hl2 (List.mem_append_left _ hc)
      · rcases List.mem_cons.1 hc with rfl | hc
        · exact h2
        · exact hr2 (List.mem_append_left _ hc)
    · rcases List.mem_append.1 hc with hc | hc
      · exact hl2 (List.mem_append_right _ hc)
      · exact hr2 (List.mem_append_right _ hc)
theorem all_len (t : T) (b : BX) : (allB t b).length + 1 = 2 * t.leaves.length := by
  unfold allB
  rw [List.length_append, List.length_map, boxes_len]
  have := lines_len t b
  omega
/-- The boxes in the leaves' order. -/
theorem box_at (t : T) (b : BX) (i : Nat) (h : i < t.leaves.length) (h2 : i < (boxesT t b).length) : (boxesT t b)[i].1 = t.leaves[i] := by
  have e := keys_boxes t b
  have : ((boxesT t b).map Prod.fst)[i]'(by rw [List.length_map]; exact h2) = t.leaves[i] := by simp only [e]
  rw [← this, List.getElem_map]
theorem area_take_le (l : List BX) (i : Nat) : area (l.take i) ≤ area l := by
  have := List.take_append_drop i l
  have h := area_append (l.take i) (l.drop i)
  rw [this] at h
  omega
theorem area_take_succ (l : List BX) (i : Nat) (h : i < l.length) : area (l.take (i + 1)) = area (l.take i) + l[i].w * l[i].h := by
  rw [List.take_succ_eq_append_getElem h, area_append, area_cons]
  unfold area
  simp
theorem cnt_take_succ (x y : Nat) (l : List BX) (i : Nat) (h : i < l.length) : cnt x y (l.take (i + 1)) = cnt x y (l.take i) + if inB x y l[i] then 1 else 0 := by
  rw [List.take_succ_eq_append_getElem h, cnt_append, cnt_cons]
  unfold cnt
  simp
theorem cnt_le (x y : Nat) (l : List BX) : cnt x y l ≤ l.length := List.countP_le_length
/-- A pane that is split, and whose new one is removed: the tree is what it was. -/
theorem without_split (p q : Int) (f : Bool) : ∀ t : T, t.leaves.Nodup → q ∉ t.leaves → p ∈ t.leaves → t ≠ .leaf q → (t.split p q f).without q = t
  | .leaf x, _, hq, hp, _ => by
    have e : p = x := by simpa [T.leaves] using hp
    subst e
    rw [T.split, if_pos rfl, T.without]
    rw [if_neg (fun e => by injection e with e; exact hq (by simp [T.leaves, e])), if_pos rfl]
  | .part g a b, hn, hq, hp, _ => by
    obtain ⟨hna, hnb, hd⟩ := List.nodup_append.1 (show (a.leaves ++ b.leaves).Nodup from hn)
    have hqa : q ∉ a.leaves := fun h => hq (List.mem_append_left _ h)
    have hqb : q ∉ b.leaves := fun h => hq (List.mem_append_right _ h)
    have hla : a.split p q f ≠ .leaf q := by
      cases a with
      | leaf x =>
        rw [T.split]
        split
        · intro e; cases e
        · intro e; injection e with e; exact hqa (by simp [T.leaves, e])
      | part _ _ _ => intro e; cases e
    have hlb : b.split p q f ≠ .leaf q := by
      cases b with
      | leaf x =>
        rw [T.split]
        split
        · intro e; cases e
        · intro e; injection e with e; exact hqb (by simp [T.leaves, e])
      | part _ _ _ => intro e; cases e
    have hne : ∀ t : T, q ∉ t.leaves → t.without q = t := by
      intro t
      induction t with
      | leaf x => intro _; rfl
      | part g a b iha ihb =>
        intro h
        rw [T.without, if_neg (not_leaf_of_two (fun e => h (List.mem_append_left _ e))), if_neg (not_leaf_of_two (fun e => h (List.mem_append_right _ e))), iha (fun e => h (List.mem_append_left _ e)), ihb (fun e => h (List.mem_append_right _ e))]
    rw [T.split, T.without, if_neg hla, if_neg hlb]
    rcases List.mem_append.1 (show p ∈ a.leaves ++ b.leaves from hp) with h | h
    · have hpb : p ∉ b.leaves := fun e => hd p h p e rfl
      rw [split_none p q f b hpb, hne b hqb, without_split p q f a hna hqa h (not_leaf_of_two hqa)]
    · have hpa : p ∉ a.leaves := fun e => hd p e p h rfl
      rw [split_none p q f a hpa, hne a hqa, without_split p q f b hnb hqb h (not_leaf_of_two hqb)]
end Go.Proofs.Ytnidcnmeonjjbaa.LayTilePure
