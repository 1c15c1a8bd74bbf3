/- The statement UtfRightCardSaid: Right tells of every three bytes and every number whether that part could have come from Feed. -/
import Derived.Test.YtneioenhnioehaaDoorRows
import Derived.Test.YtneioenhnioehaaDoorUtfLawRight
import Derived.WalkKit
import Derived.ProofKit
import Derived.OpenShut
import Derived.ShutString
import Derived.ChangeOld
import Derived.Below
import Derived.SizedLaws
import Derived.Test.YtneioenhnioehaaDoorWSized
import Derived.Test.YtneioenhnioehaaDoorWWords
import Derived.Test.YtneioenhnioehaaDoorArr3
import Derived.Test.YtneioenhnioehaaDoorCards
import Derived.Test.YtneioenhnioehaaDoorTie
import Derived.PinnedBridge
import Derived.Lay
import Derived.LaidMore
import Derived.SevenTiedAt
import Derived.Lib.LaidU8T
namespace Go.Proofs.YtneioenhnioehaaDoor.utfRight
open Go.ChangeShapes Go.WideShapes Go.ChangeAt Go.RowKit
open Go.ChangeMaps (open_string shut_string)
set_option linter.unusedVariables false
theorem own : ownKnob Tryd.prog.godebug = none := by kernel_rfl
theorem laidOut : laidOutB Tryd.prog = true := by kernel_rfl
open Go.Shelf Go.Lib
def laidL : List (String × DataW Unit) := [("unicode/utf8.acceptRanges", Rows.laid_unicode_utf8_acceptRanges), ("unicode/utf8.first", Rows.laid_unicode_utf8_first)]
def ren : Ren := ⟨fun n => n, fun | 119 => 40 | 138 => 42 | 139 => 43 | n => n, fun | 3 => 0 | 4 => 1 | n => n⟩
theorem u8t : U8Types Tryd.prog ren := ⟨Tryd.underlying5, Tryd.underlying40, Tryd.underlying42, Tryd.underlying43⟩
theorem u8x : U8Extra Tryd.prog ren := by constructor <;> kernel_rfl
theorem acc_eq : (Rows.laid_unicode_utf8_acceptRanges : DataW Unit) = acceptData := by kernel_rfl
theorem fst_eq : Rows.laid_unicode_utf8_first = firstData := Pinned.utf8First_eq
theorem tabs_of {W : World} (hL : laidMetH Tryd.prog laidL W) : Lib.Utf8Tabs 0 1 W := by
  rw [MakeChecks.laidMetH_plain _ _ _ (by kernel_rfl)] at hL
  exact utf8Tabs_of_readsT u8t u8x (fst_eq ▸ Lib.laidMet.reads hL (.tail _ (.head _))) (acc_eq ▸ Lib.laidMet.reads hL (.head _))
set_option maxRecDepth 100000 in
theorem lifted (os : Os) (started : os.Started) (H : Type) (enc : TypeId × Value → H) :
    ReturnsInHanded {} Tryd.checked os 6 .any (fun w args => (Rows.utfRightSpec.pre enc Tryd.prog Tryd.f6 [] false w args ∧ laidMetH Tryd.prog laidL w) ∧ sizedMet enc Tryd.prog Tryd.f6 (OpenSpec.ofChange Rows.utfRightSpec) false w args)
      (Rows.utfRightSpec.post enc Tryd.prog Tryd.f6 false true false false) := by
  refine returnsInHanded_of_change_and (C := Tryd.checked) (X := fun w _ => laidMetH Tryd.prog laidL w) (fun _ _ _ hh h => h.of_heap hh) own started (by kernel_rfl) Tryd.func6
    (ChangeSpec.witness_shaped (enc := enc) (C := Tryd.checked) (os := os) (X := fun w _ => laidMetH Tryd.prog laidL w) false (World.laidAll Tryd.prog os laidL) #[.agg #[.int .u8 0, .int .u8 0, .int .u8 0], .int .i64 0] 8 (World.laidAll_os _ _ _)
      (World.shaped_of_ZipB (by kernel_rfl) (by kernel_rfl)) (by kernel_rfl) (by kernel_rfl) (by kernel_rfl)
      (by rw [MakeChecks.laidMetH_plain _ _ _ (by kernel_rfl)]; exact laidMet_laidAll _ (by kernel_rfl) (by kernel_rfl))) ?_
  intro W base args ds gs before hval0 hW hcnd hsz0 hL _
  have hsz : (DataW.weightsEach Tryd.prog (Tryd.f6.params.toList ++ Rows.utfRightSpec.plain.varTypes Tryd.prog) (ds ++ gs)).all (· ≤ reachBytes) = true := hsz0
  have hval : ∀ (j : Nat) t v, Tryd.f6.params[j]? = some t → args[j]? = some v → Value.okWide Tryd.prog W .any base t v := hval0
  have hW' := hW
  obtain ⟨p, q, hA0, hV, rfl, hfz, hnd⟩ := hW
  have hA : DataW.TrodAll enc Tryd.prog W 0 (fun _ => true) true Tryd.f6.params.toList args.toList ds p := hA0
  rw [Tryd.params6] at hA hval hsz
  obtain ⟨v0, vs0, d0, ds0, p0, q0, hargs, rfl, rfl, h0, r0⟩ := trodAll_cons hA
  obtain ⟨v1, vs1, d1, ds1, p1, q1, rfl, rfl, rfl, h1, r1⟩ := trodAll_cons r0
  obtain ⟨rfl, rfl, rfl⟩ := trodAll_nil r1
  obtain rfl : args = #[v0, v1] := by cases args; simp_all
  obtain ⟨rfl, rfl⟩ := trodVars_none hV
  obtain ⟨a0, b0, c0, rfl, rfl, rfl, w0, x0, y0⟩ := YtneioenhnioehaaDoor.Arr3.open_arr3 Tryd.underlying27 Tryd.underlying5 (by kernel_rfl) (by kernel_rfl) (hval 0 27 v0 rfl rfl) h0
  obtain ⟨a1, rfl, rfl, rfl, w1⟩ := open_int Tryd.underlying3 (hval 1 3 v1 rfl rfl) h1
  clear hA0 hval0 hsz0 hsz
  refine (Go.Proofs.YtneioenhnioehaaDoor.UtfLawRight.right_row a0 b0 c0 w0 x0 y0 a1 w1 (tabs_of hL)).mono fun e W' ⟨he, bel⟩ => ?_
  subst he
  exact ⟨_, rfl, _, _, _, [], _, [], hW', trodAll_mk1 (shut_bool Tryd.underlying4 _), (trodAll_cons_mk (YtneioenhnioehaaDoor.Arr3.shut_arr3 Tryd.underlying27 Tryd.underlying5 (by kernel_rfl) (by kernel_rfl) w0 x0 y0) (trodAll_cons_mk (shut_int Tryd.underlying3 w1) trodAll_mk0)), rfl, bel.frame _, fun h => by cases h⟩
theorem over : Rows.utfRightRow.holds Tryd.pinned (OpenSpec.ofChange Rows.utfRightSpec) :=
  OpenClaim.holds_of_wide 6 Tryd.f6 rfl rfl rfl rfl rfl rfl rfl ⟨rfl, rfl, rfl, rfl, rfl⟩ rfl rfl rfl rfl rfl (by kernel_rfl) Tryd.func6 (by kernel_rfl)
    (of_decide_eq_true (by kernel_rfl)) (by unfold Func.isWrapper; first | (rw [if_pos (by decide +kernel)]; kernel_rfl) | (rw [if_neg (by decide +kernel)]; exact ⟨rfl, rfl⟩))
    (fun os started H enc _ => lifted os started H enc)
theorem card : Rows.UtfRightCardSaid :=
  Claim7.holds_tied_plain_at .later [] [.data, .pinned] true (true, "7bb9a9d1f758d86a2cc4dfd0343e1d689a9bc0ae9463e8e2485ca7f67245fdb6") false over (fun _ h => by cases h) (by kernel_rfl) (fun _ h => by cases h) utfRight_row_tie rfl ⟨rfl, rfl⟩ (by kernel_rfl) rfl
    (fun f fn hf hfn => by
      obtain rfl : f = 6 := Option.some.inj ((show Tryd.prog.funcNamed "flipbook/flipbooklaw05.UtfRight" = some 6 by kernel_rfl).symm.trans hf) |>.symm
      obtain rfl : fn = Tryd.f6 := (Option.some.inj (Tryd.func6.symm.trans hfn)).symm
      exact ⟨by kernel_rfl, fun j t ht => by
        rw [Tryd.params6] at ht
        have hm : t ∈ ([27, 3] : List Nat) := by simpa using Array.mem_of_getElem? ht
        have hall : (([27, 3] : List Nat).all fun u => !Tryd.prog.wantsStandIn u) = true := by kernel_rfl
        exact (show Tryd.prog.wantsStandIn t = false by simpa using List.all_eq_true.1 hall t hm)⟩)
    (by kernel_rfl)
#print axioms card
end Go.Proofs.YtneioenhnioehaaDoor.utfRight
namespace Go.Proofs.YtneioenhnioehaaDoor
/-- The card, under a short name, for the claim. -/
theorem utfRight_holds : Rows.UtfRightCardSaid := utfRight.card
end Go.Proofs.YtneioenhnioehaaDoor
