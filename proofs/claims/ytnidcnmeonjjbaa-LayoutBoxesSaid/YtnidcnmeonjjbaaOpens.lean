/- A law's argument that is a slice, opened to a row of any kind of elements. No program's text. -/
import Derived.Test.YtnidcnmeonjjbaaKit
import Derived.Deep.Slices
import Derived.Deep.Fields
import Derived.ChangeSame
import Derived.ChangeSlices
namespace Go.Proofs.Ytnidcnmeonjjbaa.Opens
open Go.RowKit Go.ChangeShapes Go.WideShapes Go.Deep Go.Proofs.YtnidcnmeonjjbaaW.PrintWords
section
variable {H : Type} {enc : TypeId × Value → H} {P : Program} {w : World} {base : Nat} {spare : Nat → Bool} {held : Bool}
theorem open_row {α : Type} (d : Kd α) (good : α → Prop) {t e : TypeId} {fuel : Nat} {cs : List Value} {x : DataW H × List MemPlace} (ht : P.underlying t = some (.slice e)) (hsz : P.cellsOf e = d.sz)
    (hel : ∀ n cs' y, DataW.trod enc P w base spare held n e cs' = some y → ∃ p, d.K w p cs' ∧ good p) (h : DataW.trod enc P w base spare held fuel t cs = some x) :
    ∃ (A : Option Addr) (c : Nat) (l : List α), cs = [.slice A l.length c] ∧ d.C w A l.length l ∧ (∀ p ∈ l, good p) ∧ l.length ≤ c := by
  rcases open_slice ht h with ⟨h0, _⟩ | ⟨a, len, cap, m, n, D, Pl, hcs, hb, hl, hm, hmm, hx, hi⟩
  · exact ⟨none, 0, [], h0, Kd.C_nil _ _, by simp, Nat.le_refl _⟩
  · have hlm : len ≤ m := by rw [hmm]; split <;> omega
    have hp : ∀ i : Fin len, ∃ p, good p ∧ ∃ c : List Value, c.length = d.sz ∧ d.K w p c ∧ ∀ j u, c[j]? = some u → w.cell? (a.add (i.val * d.sz + j)) = some u := by
      intro i
      obtain ⟨cs', hc, ht'⟩ := hi i.val (by omega)
      rw [hsz] at hc
      obtain ⟨_, hcl, hat⟩ := World.cells?_some hc
      obtain ⟨p, hk, hg⟩ := hel _ _ _ ht'
      refine ⟨p, hg, cs', hcl, hk, fun j u hj => ?_⟩
      have hjl : j < d.sz := by rw [← hcl]; exact (List.getElem?_eq_some_iff.1 hj).1
      rw [← Go.Deep.add_add, hat j hjl, hj]
    refine ⟨some a, cap, List.ofFn (fun i => Classical.choose (hp i)), by rw [List.length_ofFn]; exact hcs, ⟨rfl, by rw [List.length_ofFn]; simp only [maxLen] at hm; omega, fun _ => ⟨a, rfl, fun j p hj => ?_⟩⟩, fun p hp' => ?_, by rw [List.length_ofFn]; exact hl⟩
    · rw [List.getElem?_ofFn] at hj
      split at hj
      · rename_i hjl
        have hj := Option.some.inj hj
        subst hj
        obtain ⟨_, c, h1, h2, h3⟩ := Classical.choose_spec (hp ⟨j, hjl⟩)
        exact ⟨c, h1, h2, h3⟩
      · simp at hj
    · obtain ⟨i, rfl⟩ := List.mem_ofFn.1 hp'
      exact (Classical.choose_spec (hp i)).1
/-- A slice of whole numbers as an element. -/
theorem el_ints {k : IntKind} {t e : TypeId} {fuel : Nat} {cs : List Value} {x : DataW H × List MemPlace} (ht : P.underlying t = some (.slice e)) (he : P.underlying e = some (.int k)) (hc : P.cellsOf e = 1)
    (h : DataW.trod enc P w base spare held fuel t cs = some x) : ∃ l : List Int, (Kd.slice e (Kd.int k)).K w l cs ∧ ∀ y ∈ l, (Lit.int k y).wf = true := by
  rcases open_ints ht he hc h with ⟨rfl, _⟩ | ⟨x, l, c, zs, rfl, _, hl, hm, hz, _, hcell, hwz⟩
  · exact ⟨[], ⟨none, 0, rfl, Nat.le_refl _, Kd.C_nil _ _⟩, by simp⟩
  · have hlz : l ≤ zs.length := by rw [hz]; split <;> omega
    refine ⟨zs.take l, ⟨some x, c, by rw [List.length_take, Nat.min_eq_left hlz], by rw [List.length_take]; omega, ?_⟩, fun y hy => hwz y (List.mem_of_mem_take hy)⟩
    refine Kd.C_of_reads (enc := Value.int k) (d := (0 : Int)) (h1 := fun _ => rfl) ⟨rfl, by rw [List.length_take]; simp only [maxLen] at hm; omega, fun _ => ⟨_, rfl, fun j hj => ?_⟩⟩
    rw [List.length_take] at hj
    rw [hcell j (by omega)]
    simp [List.getD_eq_getElem?_getD, show j < l from by omega]
end
end Go.Proofs.Ytnidcnmeonjjbaa.Opens
