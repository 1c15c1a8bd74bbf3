/- The statement LayoutUndoesSaid: it holds for every input; no condition. -/
import Derived.Test.YtnidcnmeonjjbaaRows
import Derived.Test.YtnidcnmeonjjbaaLayUndo
import Derived.WalkKit
import Derived.ProofKit
import Derived.OpenShut
import Derived.ShutString
import Derived.ChangeOld
import Derived.Below
import Derived.SizedLaws
import Derived.Test.YtnidcnmeonjjbaaWSized
import Derived.Test.YtnidcnmeonjjbaaWWords
import Derived.Test.YtnidcnmeonjjbaaOpens
import Derived.Test.YtnidcnmeonjjbaaLayArgs
namespace Go.Proofs.Ytnidcnmeonjjbaa.layoutUndoes
open Go.ChangeShapes Go.WideShapes Go.ChangeAt Go.RowKit
open Go.ChangeMaps (open_string shut_string)
set_option linter.unusedVariables false
theorem own : ownKnob Try.prog.godebug = none := by kernel_rfl
theorem laidOut : laidOutB Try.prog = true := by kernel_rfl
set_option maxRecDepth 100000 in
theorem lifted (os : Os) (started : os.Started) (H : Type) (enc : TypeId × Value → H) :
    ReturnsInHanded {} Try.checked os 6 .any (Rows.layoutUndoesSpec.pre6 enc Try.prog Try.f6 Rows.layoutUndoesRow.domain false) (Rows.layoutUndoesSpec.post enc Try.prog Try.f6 false true false false) := by
  refine returnsInHanded_of_change_sized (C := Try.checked) own started (by kernel_rfl) Try.func6
    (ChangeSpec.witness6 (enc := enc) (C := Try.checked) false ⟨#[], #[.slice none 0 0, .agg #[.int .i64 0, .int .i64 0, .bool false, .bool false], .agg #[.int .i64 0, .int .i64 0]], []⟩ 8 (by kernel_rfl) (by kernel_rfl) (by kernel_rfl) (by kernel_rfl)) ?_
  intro W base args ds gs before hval0 hW hcnd hsz0 _
  have hsz : (DataW.weightsEach Try.prog (Try.f6.params.toList ++ Rows.layoutUndoesSpec.plain.varTypes Try.prog) (ds ++ gs)).all (· ≤ reachBytes) = true := hsz0
  have hval : ∀ (j : Nat) t v, Try.f6.params[j]? = some t → args[j]? = some v → Value.okWide Try.prog W .any base t v := hval0
  have hW' := hW
  obtain ⟨p, q, hA0, hV, rfl, hfz, hnd⟩ := hW
  have hA : DataW.TrodAll enc Try.prog W 0 (fun _ => true) true Try.f6.params.toList args.toList ds p := hA0
  rw [Try.params6] at hA hval hsz
  obtain ⟨v0, vs0, d0, ds0, p0, q0, hargs, rfl, rfl, h0, r0⟩ := trodAll_cons hA
  obtain ⟨v1, vs1, d1, ds1, p1, q1, rfl, rfl, rfl, h1, r1⟩ := trodAll_cons r0
  obtain ⟨v2, vs2, d2, ds2, p2, q2, rfl, rfl, rfl, h2, r2⟩ := trodAll_cons r1
  obtain ⟨rfl, rfl, rfl⟩ := trodAll_nil r2
  obtain rfl : args = #[v0, v1, v2] := by cases args; simp_all
  obtain ⟨rfl, rfl⟩ := trodVars_none hV
  obtain ⟨a0, len0, cap0, rfl⟩ := okWide_slice Try.underlying22 (hval 0 22 v0 rfl rfl)
  have k0 := h0
  have lt0 : ∀ x ∈ p0, x.block < W.heap.size := by obtain ⟨m, hm⟩ := k0; exact DataW.trod_lt m _ _ _ hm
  obtain ⟨l0, hle0, hr0, hw0, hc0⟩ : ∃ l : List _, len0 = l.length ∧ YtnidcnmeonjjbaaW.PrintWords.Kd.C (Go.Proofs.Ytnidcnmeonjjbaa.LayDeedK.kD) W a0 l.length l ∧ (∀ x ∈ l, (Go.Proofs.Ytnidcnmeonjjbaa.LayDeedK.deedwf) x) ∧ l.length ≤ cap0 := by
    obtain ⟨fuel, hf⟩ := h0
    obtain ⟨A, c, l, hcs, hr, hg, hl⟩ := Ytnidcnmeonjjbaa.Opens.open_row (Go.Proofs.Ytnidcnmeonjjbaa.LayDeedK.kD) (Go.Proofs.Ytnidcnmeonjjbaa.LayDeedK.deedwf) Try.underlying22 (by kernel_rfl) (fun _ _ _ h => Go.Proofs.Ytnidcnmeonjjbaa.LayDeedK.el_deed h) hf
    simp [Value.cells] at hcs
    obtain ⟨rfl, rfl, rfl⟩ := hcs
    exact ⟨l, rfl, hr, hg, hl⟩
  subst hle0
  obtain ⟨x1, rfl, g1⟩ := Ytnidcnmeonjjbaa.LayArgs.open_deed (hval 1 29 v1 rfl rfl) h1
  have k1 := h1
  have lt1 : ∀ x ∈ p1, x.block < W.heap.size := by obtain ⟨m, hm⟩ := k1; exact DataW.trod_lt m _ _ _ hm
  obtain ⟨a2, b2, rfl, rfl, rfl, w2, x2⟩ := Ytnidcnmeonjjbaa.LayArgs.open_arr2 Try.underlying56 Try.underlying3 (by kernel_rfl) (by kernel_rfl) (hval 2 56 v2 rfl rfl) h2
  clear hA0 hval0 hsz0 hsz
  refine (Go.Proofs.Ytnidcnmeonjjbaa.LayUndo.row a0 cap0 l0 hr0 hc0 hw0 x1 g1 a2 b2 w2 x2).mono fun e W' ⟨he, bel⟩ => ?_
  subst he
  exact ⟨_, rfl, _, _, _, [], _, [], hW', trodAll_mk1 (shut_bool Try.underlying4 _), (trodAll_cons_mk (Below.trod laidOut (by kernel_rfl) (of_decide_eq_true (by kernel_rfl)) k0 bel lt0) (trodAll_cons_mk (Below.trod laidOut (by kernel_rfl) (of_decide_eq_true (by kernel_rfl)) k1 bel lt1) (trodAll_cons_mk (Ytnidcnmeonjjbaa.LayArgs.shut_arr2 Try.underlying56 Try.underlying3 (by kernel_rfl) (by kernel_rfl) w2 x2) trodAll_mk0))), rfl, bel.frame _, fun h => by cases h⟩
theorem over : Rows.layoutUndoesRow.holds Try.pinned (OpenSpec.ofChange Rows.layoutUndoesSpec) :=
  OpenClaim.holds_of_wide 6 Try.f6 rfl rfl rfl rfl rfl rfl rfl ⟨rfl, rfl, rfl, rfl, rfl⟩ rfl rfl rfl rfl rfl (by kernel_rfl) Try.func6 (by kernel_rfl)
    (of_decide_eq_true (by kernel_rfl)) (by unfold Func.isWrapper; first | (rw [if_pos (by decide +kernel)]; kernel_rfl) | (rw [if_neg (by decide +kernel)]; exact ⟨rfl, rfl⟩))
    (fun os started H enc _ => lifted os started H enc)
theorem proved : Rows.LayoutUndoesSaid := over
#print axioms proved
end Go.Proofs.Ytnidcnmeonjjbaa.layoutUndoes
namespace Go.Proofs.Ytnidcnmeonjjbaa
/-- The row, under a short name, for the claim. -/
theorem layoutUndoes_holds : Rows.LayoutUndoesSaid := layoutUndoes.proved
end Go.Proofs.Ytnidcnmeonjjbaa
