/- The statement CrcCutsSaid: it holds for every input; no condition. -/
import Derived.Test.YtmomfoedbkapfaaRows
import Derived.Test.YtmomfoedbkapfaaCutsWalk
import Derived.WalkKit
import Derived.ProofKit
import Derived.OpenShut
import Derived.ShutString
import Derived.ChangeOld
import Derived.Below
import Derived.SizedLaws
import Derived.Test.YtmomfoedbkapfaaWSized
import Derived.Test.YtmomfoedbkapfaaWWords
import Derived.Test.YtmomfoedbkapfaaOpens
namespace Go.Proofs.Ytmomfoedbkapfaa.crcCuts
open Go.ChangeShapes Go.WideShapes Go.ChangeAt Go.RowKit
open Go.ChangeMaps (open_string shut_string)
set_option linter.unusedVariables false
theorem own : ownKnob Try.prog.godebug = none := by kernel_rfl
theorem laidOut : laidOutB Try.prog = true := by kernel_rfl
set_option maxRecDepth 100000 in
theorem lifted (os : Os) (started : os.Started) (H : Type) (enc : TypeId × Value → H) :
    ReturnsInHanded {} Try.checked os 7 .any (Rows.crcCutsSpec.pre6 enc Try.prog Try.f7 Rows.crcCutsRow.domain false) (Rows.crcCutsSpec.post enc Try.prog Try.f7 false true false false) := by
  refine returnsInHanded_of_change_sized (C := Try.checked) own started (by kernel_rfl) Try.func7
    (ChangeSpec.witness6 (enc := enc) (C := Try.checked) false ⟨#[], #[.slice none 0 0, .int .i64 0], []⟩ 8 (by kernel_rfl) (by kernel_rfl) (by kernel_rfl) (by kernel_rfl)) ?_
  intro W base args ds gs before hval0 hW hcnd hsz0 _
  have hsz : (DataW.weightsEach Try.prog (Try.f7.params.toList ++ Rows.crcCutsSpec.plain.varTypes Try.prog) (ds ++ gs)).all (· ≤ reachBytes) = true := hsz0
  have hval : ∀ (j : Nat) t v, Try.f7.params[j]? = some t → args[j]? = some v → Value.okWide Try.prog W .any base t v := hval0
  have hW' := hW
  obtain ⟨p, q, hA0, hV, rfl, hfz, hnd⟩ := hW
  have hA : DataW.TrodAll enc Try.prog W 0 (fun _ => true) true Try.f7.params.toList args.toList ds p := hA0
  rw [Try.params7] at hA hval hsz
  obtain ⟨v0, vs0, d0, ds0, p0, q0, hargs, rfl, rfl, h0, r0⟩ := trodAll_cons hA
  obtain ⟨v1, vs1, d1, ds1, p1, q1, rfl, rfl, rfl, h1, r1⟩ := trodAll_cons r0
  obtain ⟨rfl, rfl, rfl⟩ := trodAll_nil r1
  obtain rfl : args = #[v0, v1] := by cases args; simp_all
  obtain ⟨rfl, rfl⟩ := trodVars_none hV
  obtain ⟨a0, len0, cap0, rfl⟩ := okWide_slice Try.underlying34 (hval 0 34 v0 rfl rfl)
  have k0 := h0
  have lt0 : ∀ x ∈ p0, x.block < W.heap.size := by obtain ⟨m, hm⟩ := k0; exact DataW.trod_lt m _ _ _ hm
  obtain ⟨l0, hle0, hr0, hw0, hc0⟩ : ∃ l : List _, len0 = l.length ∧ YtmomfoedbkapfaaW.PrintWords.Kd.C (Go.Proofs.YtmomfoedbkapfaaW.PrintWords.Kd.slice 5 (Go.Proofs.YtmomfoedbkapfaaW.PrintWords.Kd.int .u8)) W a0 l.length l ∧ (∀ x ∈ l, (fun x : List Int => ∀ y ∈ x, (Lit.int .u8 y).wf = true) x) ∧ l.length ≤ cap0 := by
    obtain ⟨fuel, hf⟩ := h0
    obtain ⟨A, c, l, hcs, hr, hg, hl⟩ := Ytmomfoedbkapfaa.Opens.open_row (Go.Proofs.YtmomfoedbkapfaaW.PrintWords.Kd.slice 5 (Go.Proofs.YtmomfoedbkapfaaW.PrintWords.Kd.int .u8)) (fun x : List Int => ∀ y ∈ x, (Lit.int .u8 y).wf = true) Try.underlying34 (by kernel_rfl) (fun n cs y h => Go.Proofs.Ytmomfoedbkapfaa.Opens.el_ints Try.underlying22 Try.underlying5 (by kernel_rfl) h) hf
    simp [Value.cells] at hcs
    obtain ⟨rfl, rfl, rfl⟩ := hcs
    exact ⟨l, rfl, hr, hg, hl⟩
  subst hle0
  obtain ⟨a1, rfl, rfl, rfl, w1⟩ := open_int Try.underlying3 (hval 1 3 v1 rfl rfl) h1
  clear hA0 hval0 hsz0 hsz
  refine (Go.Proofs.Ytmomfoedbkapfaa.CutsWalk.cuts_row a0 cap0 l0 hr0 hc0 hw0 a1 w1).mono fun e W' ⟨he, bel⟩ => ?_
  subst he
  exact ⟨_, rfl, _, _, _, [], _, [], hW', trodAll_mk1 (shut_bool Try.underlying4 _), (trodAll_cons_mk (Below.trod laidOut (by kernel_rfl) (of_decide_eq_true (by kernel_rfl)) k0 bel lt0) (trodAll_cons_mk (shut_int Try.underlying3 w1) trodAll_mk0)), rfl, bel.frame _, fun h => by cases h⟩
theorem over : Rows.crcCutsRow.holds Try.pinned (OpenSpec.ofChange Rows.crcCutsSpec) :=
  OpenClaim.holds_of_wide 7 Try.f7 rfl rfl rfl rfl rfl rfl rfl ⟨rfl, rfl, rfl, rfl, rfl⟩ rfl rfl rfl rfl rfl (by kernel_rfl) Try.func7 (by kernel_rfl)
    (of_decide_eq_true (by kernel_rfl)) (by unfold Func.isWrapper; first | (rw [if_pos (by decide +kernel)]; kernel_rfl) | (rw [if_neg (by decide +kernel)]; exact ⟨rfl, rfl⟩))
    (fun os started H enc _ => lifted os started H enc)
theorem proved : Rows.CrcCutsSaid := over
#print axioms proved
end Go.Proofs.Ytmomfoedbkapfaa.crcCuts
namespace Go.Proofs.Ytmomfoedbkapfaa
/-- The row, under a short name, for the claim. -/
theorem crcCuts_holds : Rows.CrcCutsSaid := crcCuts.proved
end Go.Proofs.Ytmomfoedbkapfaa
