/- The law UtfAll returns true: a walk through its text; the library's two tables hold what their texts lay. -/
import Derived.Test.YtneioenhnioehaaDoorUtfFit
namespace Go.Proofs.YtneioenhnioehaaDoor.UtfLawAll
open Go.RowKit Go.Proofs.YtneioenhnioehaaDoor.Kit Go.Proofs.YtneioenhnioehaaDoor.Plain Go.Proofs.YtneioenhnioehaaDoor.Mine Go.Proofs.YtneioenhnioehaaDoor.UtfPure Go.Proofs.YtneioenhnioehaaDoor.UtfFull Go.Proofs.YtneioenhnioehaaDoor.UtfDec Go.Proofs.YtneioenhnioehaaDoor.UtfFeed Go.Proofs.YtneioenhnioehaaDoor.UtfRunes Go.Proofs.YtneioenhnioehaaDoor.UtfAllC Go.Proofs.YtneioenhnioehaaDoor.UtfFit Go.Proofs.YtneioenhnioehaaDoorW.PrintWords Go.Proofs.YtneioenhnioehaaDoorW.PrintLast Go.Proofs.YtneioenhnioehaaDoorW.PrintMore
open Go.Lib (Utf8Tabs)
set_option linter.unusedVariables false
set_option linter.unusedSimpArgs false
theorem runes_len (b : List Int) : (runes b).length ≤ b.length := by
  have : ∀ (k : Nat) (b : List Int), (runesF k b).length ≤ k := by
    intro k
    induction k with
    | zero => intro b; simp [runesF]
    | succ k ih =>
      intro b
      cases b with
      | nil => simp [runesF]
      | cons x l => simp only [runesF, List.length_cons]; have := ih ((x :: l).drop (dec1 (x :: l)).2); omega
  exact this b.length b
set_option maxHeartbeats 800000 in
set_option maxRecDepth 100000 in
theorem all_law (s : ByteArray) (w : World) (hT : Utf8Tabs 0 1 w) : Calls Tryd.prog 3 #[.string s] w fun e w' => e = .returned (.bool true) ∧ Below w.heap.size w w' := by
  have hF := fit_c w hT
  by_cases h : 500 < s.size
  · have h2 : 500 < (s.size : Int) := by omega
    have HF := Aside0.mk hF
    clear h hF hT
    go_enter Tryd.func3, Tryd.ntmps3
    go_wp2_with fail
    refine HF.out.mono ?_
    rintro e w1 ⟨rfl, hb⟩
    have HB := Aside0.mk hb
    clear hb HF
    go_wp2
    go_ret
    exact ⟨rfl, HB.out⟩
  · have h2 : (s.size : Int) ≤ 500 := by omega
    have HF := Aside0.mk hF
    have HA := Aside0.mk (fun W (hb : Below w.heap.size w W) => all_c s W (tabs_below hT hb) (by omega))
    have HR := Aside0.mk (fun W => run_runes W s (by omega))
    have hrl := runes_len (bytesOf s)
    rw [bytesOf_length] at hrl
    obtain ⟨rs, hrs⟩ : ∃ rs, rs = runes (bytesOf s) := ⟨_, rfl⟩
    rw [← hrs] at HA HR hrl
    have HRL := Aside0.mk (show rs.length ≤ 500 by omega)
    clear h hF hT hrs hrl
    go_enter Tryd.func3, Tryd.ntmps3
    go_wp2_with fail
    refine HF.out.mono ?_
    rintro e w1 ⟨rfl, hb⟩
    have HB1 := Aside0.mk hb
    clear hb HF
    go_wp2_with fail
    refine (HA.out w1 HB1.out).mono ?_
    rintro e w2 ⟨v2, rfl, ho, hb⟩
    obtain ⟨A, c, rfl⟩ := Kd.R_slice ho
    have HB2 := Aside0.mk (below_kept HB1.out hb)
    obtain ⟨cap, w3, hcv, hb3, hC3⟩ := HR.out w2
    have HC2 := Aside0.mk (Kd.C_below (Kd.R_reads' ho).2.2 hb3)
    have HC3 := Aside0.mk hC3
    have HB3 := Aside0.mk (below_kept HB2.out hb3)
    clear ho hb hb3 hC3 HR HA
    go_wp2_with fail
    refine (same_c A (some ⟨w2.heap.size, 0, none⟩) c cap rs w3 HC2.out HC3.out (by have := HRL.out; omega)).mono ?_
    rintro e w4 ⟨rfl, hb⟩
    have HB4 := Aside0.mk (below_kept HB3.out hb)
    clear hb hcv
    go_wp2
    go_ret
    exact ⟨rfl, HB4.out⟩
/-- As the row hands it over. -/
theorem all_row {W : World} (s : ByteArray) (_ : s.size ≤ 140737488351232) (hT : Utf8Tabs 0 1 W) : Calls Tryd.prog 3 #[.string s] W fun e w' => e = .returned (.bool true) ∧ Below W.heap.size W w' := all_law s W hT
end Go.Proofs.YtneioenhnioehaaDoor.UtfLawAll
