/- Small laws for walks by hand: slices that are cut, literals that are one's own, facts on worlds; no condition but those that each states. -/
import Derived.Test.YtnidcnmeonjjbaaWWords
import Derived.Test.YtnidcnmeonjjbaaWLast
import Derived.Test.YtnidcnmeonjjbaaWKept
import Derived.Test.YtnidcnmeonjjbaaWMore
namespace Go.Proofs.Ytnidcnmeonjjbaa.Mine
open Go.RowKit Go.Proofs.YtnidcnmeonjjbaaW.PrintWords Go.Proofs.YtnidcnmeonjjbaaW.PrintLast Go.Proofs.YtnidcnmeonjjbaaW.PrintMore

/-- 'xs[j:]' under letters: the cut is a slice that is read wherever the whole was. -/
theorem cut_from_ex {P : Program} {α : Type} (d : Kd α) (t e : TypeId) (z : Value) (bytes : Nat) (ht : P.underlying t = some (.slice e)) (hinfo : (P.info? e).map (fun i => (i.zero, i.size, i.bytes)) = some (some z, d.sz, bytes))
    (A : Option Addr) (c : Nat) (xs : List α) (j : Int) (h0 : 0 ≤ j) (hj : j ≤ xs.length) (hc : xs.length ≤ c) :
    ∃ A' c', (∀ W : World, (Instr.slice t (.slice A xs.length c) (some (.int .i64 j)) none none).run P W = .ok (.slice A' (xs.drop j.toNat).length c') W) ∧ (xs.drop j.toNat).length ≤ c' ∧
      ∀ W, d.C W A xs.length xs → d.C W A' (xs.drop j.toNat).length (xs.drop j.toNat) := by
  obtain ⟨i0, hi, _, hsz, _⟩ := info_parts hinfo
  refine ⟨if c = j.toNat then A else A.map (·.add (j.toNat * d.sz)), c - j.toNat, fun W => ?_, by rw [List.length_drop]; omega, fun W h => Kd.C_drop h (by omega) hc⟩
  rw [List.length_drop]
  exact cut_from t e .i64 ht hi d.sz hsz A xs.length c j h0 hj W
/-- 'xs[:j]'. -/
theorem cut_to_ex {P : Program} {α : Type} (d : Kd α) (t e : TypeId) (z : Value) (bytes : Nat) (ht : P.underlying t = some (.slice e)) (hinfo : (P.info? e).map (fun i => (i.zero, i.size, i.bytes)) = some (some z, d.sz, bytes))
    (A : Option Addr) (c : Nat) (xs : List α) (j : Int) (h0 : 0 ≤ j) (hj : j ≤ xs.length) (hc : xs.length ≤ c) :
    (∀ W : World, (Instr.slice t (.slice A xs.length c) none (some (.int .i64 j)) none).run P W = .ok (.slice A (xs.take j.toNat).length c) W) ∧ (xs.take j.toNat).length ≤ c ∧
      ∀ W, d.C W A xs.length xs → d.C W A (xs.take j.toNat).length (xs.take j.toNat) := by
  obtain ⟨i0, hi, _, hsz, _⟩ := info_parts hinfo
  have hl : (xs.take j.toNat).length = j.toNat := by rw [List.length_take]; omega
  refine ⟨fun W => ?_, by omega, fun W h => Kd.C_take h (by omega)⟩
  rw [hl]
  exact cut_to t e .i64 ht hi A xs.length c j h0 hj hc W
/-- 'xs[lo:hi]'. -/
theorem cut_mid_ex {P : Program} {α : Type} (d : Kd α) (t e : TypeId) (z : Value) (bytes : Nat) (ht : P.underlying t = some (.slice e)) (hinfo : (P.info? e).map (fun i => (i.zero, i.size, i.bytes)) = some (some z, d.sz, bytes))
    (A : Option Addr) (c : Nat) (xs : List α) (lo hi : Int) (h0 : 0 ≤ lo) (h1 : lo ≤ hi) (hj : hi ≤ xs.length) (hc : xs.length ≤ c) :
    ∃ A' c', (∀ W : World, (Instr.slice t (.slice A xs.length c) (some (.int .i64 lo)) (some (.int .i64 hi)) none).run P W = .ok (.slice A' ((xs.take hi.toNat).drop lo.toNat).length c') W) ∧ ((xs.take hi.toNat).drop lo.toNat).length ≤ c' ∧
      ∀ W, d.C W A xs.length xs → d.C W A' ((xs.take hi.toNat).drop lo.toNat).length ((xs.take hi.toNat).drop lo.toNat) := by
  obtain ⟨i0, hi', _, hsz, _⟩ := info_parts hinfo
  have hl : ((xs.take hi.toNat).drop lo.toNat).length = hi.toNat - lo.toNat := by rw [List.length_drop, List.length_take]; omega
  refine ⟨if c = lo.toNat then A else A.map (·.add (lo.toNat * d.sz)), c - lo.toNat, fun W => ?_, by omega, fun W h => Kd.C_mid h (by omega) (by omega) hc⟩
  rw [hl]
  exact cut_mid t e .i64 .i64 ht hi' d.sz hsz A xs.length c lo hi h0 h1 hj hc W
/-- A literal of whole numbers is a row of one's own. -/
theorem lit_R (W : World) (base e : Nat) (k : IntKind) (ok : Nat → Prop) (xs : List Int) (hb : base ≤ W.heap.size) (hok : ok W.heap.size) (hm : xs.length ≤ 9223372036854775807) :
    Kd.R (Kd.int k) e (W.alloc (.cells (nums k xs).toArray e)) base ok (.slice (some ⟨W.heap.size, 0, none⟩) xs.length xs.length) xs :=
  Kd.R_of_own (own_lit W base e k xs hb hm) (fun j hj => by
    have : W.heap.size = j := by simpa [Value.ownBlock] using hj
    rw [← this]; exact hok)
/-- A literal is read, whatever mark its block bears. -/
theorem lit_C (W : World) (e : Nat) (k : IntKind) (fr : Nat × Nat) (xs : List Int) (hm : xs.length ≤ 9223372036854775807) :
    Kd.C (Kd.int k) (W.alloc (.cells (nums k xs).toArray e fr)) (some ⟨W.heap.size, 0, none⟩) xs.length xs := by
  refine Kd.C_of_reads (enc := Value.int k) (d := (0 : Int)) (h1 := fun _ => rfl) ⟨rfl, hm, fun _ => ⟨_, rfl, fun j hj => ?_⟩⟩
  have hh : (W.alloc (.cells (nums k xs).toArray e fr)).heap[W.heap.size]? = some (.cells (nums k xs).toArray e fr) := by
    show (W.heap.push _)[W.heap.size]? = _
    simp
  rw [add_plain, cell_of_row _ _ _ _ _ _ hh]
  simp [nums, List.getElem?_eq_getElem hj, List.getD_eq_getElem?_getD]
theorem Drawn0.kept {w w' : World} (h : Drawn0 w w') (S : Nat → Prop) : Kept w w' S := Kept.of_below h.below S
theorem below_kept {w w1 w2 : World} (h : Below w.heap.size w w1) (k : Below w1.heap.size w1 w2) : Below w.heap.size w w2 := below_then h h.size k

end Go.Proofs.Ytnidcnmeonjjbaa.Mine
