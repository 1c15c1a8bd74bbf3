/- Feeding byte by byte, as plain lists: the runes of all bytes. -/
import Derived.Test.YtkdkajcokoggiaaDoorUtfFeed
import Derived.Test.YtkdkajcokoggiaaDoorUtfRunes
namespace Go.Proofs.YtkdkajcokoggiaaDoor.UtfPart
open Go.RowKit Go.Proofs.YtkdkajcokoggiaaDoor.Kit Go.Proofs.YtkdkajcokoggiaaDoor.Plain Go.Proofs.YtkdkajcokoggiaaDoor.Mine Go.Proofs.YtkdkajcokoggiaaDoor.UtfPure Go.Proofs.YtkdkajcokoggiaaDoor.UtfFull Go.Proofs.YtkdkajcokoggiaaDoor.UtfDec Go.Proofs.YtkdkajcokoggiaaDoor.UtfFeed Go.Proofs.YtkdkajcokoggiaaDoor.UtfRunes Go.Proofs.YtkdkajcokoggiaaDoorW.PrintWords Go.Proofs.YtkdkajcokoggiaaDoorW.PrintLast Go.Proofs.YtkdkajcokoggiaaDoorW.PrintMore
open Go.Lib (firstT accLo accHi Utf8Tabs firstT_cases slowN decodeN)
set_option linter.unusedVariables false
set_option linter.unusedSimpArgs false
def feedAll : List Int → List Int → List Int × List Int
  | p, [] => ([], p)
  | p, c :: s => ((UtfPure.drain (p ++ [c])).1 ++ (feedAll (UtfPure.drain (p ++ [c])).2 s).1, (feedAll (UtfPure.drain (p ++ [c])).2 s).2)
theorem feedAll_cons (p : List Int) (c : Int) (s : List Int) : feedAll p (c :: s) = ((UtfPure.drain (p ++ [c])).1 ++ (feedAll (UtfPure.drain (p ++ [c])).2 s).1, (feedAll (UtfPure.drain (p ++ [c])).2 s).2) := rfl
theorem feedAll_append (s t : List Int) : ∀ p, feedAll p (s ++ t) = ((feedAll p s).1 ++ (feedAll (feedAll p s).2 t).1, (feedAll (feedAll p s).2 t).2) := by
  induction s with
  | nil => intro p; simp [feedAll]
  | cons c s ih => intro p; rw [List.cons_append, feedAll_cons, feedAll_cons, ih]; simp only [List.append_assoc]
/-- What may be under way. -/
def Part (p : List Int) : Prop := Bytes p ∧ (p = [] ∨ full p = false) ∧ p.length ≤ 3
theorem part_nil : Part [] := ⟨fun x hx => by simp at hx, .inl rfl, by simp⟩
theorem part_step {p : List Int} (h : Part p) {c : Int} (hc : 0 ≤ c ∧ c < 256) : Part (UtfPure.drain (p ++ [c])).2 := by
  have hb : Bytes (p ++ [c]) := fun x hx => (List.mem_append.1 hx).elim (h.1 x) (fun h => by simp at h; omega)
  obtain ⟨h1, ⟨j, h2, _⟩, _⟩ := drain_is hb
  have hb2 : Bytes (UtfPure.drain (p ++ [c])).2 := by rw [h2]; exact hb.drop j
  exact ⟨hb2, h1, (part_runes hb2 h1).1⟩
theorem feedAll_part (s : List Int) (hs : Bytes s) : ∀ p, Part p → Part (feedAll p s).2 := by
  induction s with
  | nil => intro p h; exact h
  | cons c s ih => intro p h; rw [feedAll_cons]; exact ih (fun x hx => hs x (by simp [hx])) _ (part_step h (hs c (by simp)))
theorem feedAll_runes (s : List Int) (hs : Bytes s) : ∀ p, Part p → runes (p ++ s) = (feedAll p s).1 ++ runes (feedAll p s).2 := by
  induction s with
  | nil => intro p h; simp [feedAll]
  | cons c s ih =>
    intro p h
    have hc := hs c (by simp)
    have hs' : Bytes s := fun x hx => hs x (by simp [hx])
    have hb : Bytes (p ++ [c]) := fun x hx => (List.mem_append.1 hx).elim (h.1 x) (fun h => by simp at h; omega)
    have h4 := (drain_is hb).2.2 s hs'
    rw [show p ++ c :: s = (p ++ [c]) ++ s from by simp, h4, ih hs' _ (part_step h hc), feedAll_cons, List.append_assoc]
theorem feedAll_whole (s : List Int) (hs : Bytes s) : (feedAll [] s).1 ++ List.replicate (feedAll [] s).2.length 65533 = runes s := by
  have h1 := feedAll_runes s hs [] part_nil
  have h2 := feedAll_part s hs [] part_nil
  rw [List.nil_append] at h1
  rw [h1, (part_runes h2.1 h2.2.1).2]
theorem feedAll_len (s : List Int) (hs : Bytes s) : ∀ p, Part p → (feedAll p s).1.length ≤ 4 * s.length := by
  induction s with
  | nil => intro p _; simp [feedAll]
  | cons c s ih =>
    intro p h
    have h1 := ih (fun x hx => hs x (by simp [hx])) _ (part_step h (hs c (by simp)))
    have h2 := drain_len (p ++ [c])
    rw [feedAll_cons]
    simp only [List.length_append, List.length_cons, List.length_nil] at h1 h2 ⊢
    have := h.2.2
    omega
theorem bytesOf_get (s : ByteArray) (i : Nat) (h : i < s.size) (h2 : i < (bytesOf s).length) : (bytesOf s)[i] = (s[i].toNat : Int) := by
  simp [bytesOf]
  rfl
end Go.Proofs.YtkdkajcokoggiaaDoor.UtfPart
