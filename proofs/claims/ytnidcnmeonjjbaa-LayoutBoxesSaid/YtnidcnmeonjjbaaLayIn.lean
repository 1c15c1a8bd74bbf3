/- Is a place in a box: the law's 'in', as a contract. -/
import Derived.Test.YtnidcnmeonjjbaaLayMade
namespace Go.Proofs.Ytnidcnmeonjjbaa.LayIn
open Go.RowKit Go.Proofs.Ytnidcnmeonjjbaa.Kit Go.Proofs.Ytnidcnmeonjjbaa.Plain Go.Proofs.Ytnidcnmeonjjbaa.Mine Go.Proofs.Ytnidcnmeonjjbaa.LaySmall Go.Proofs.Ytnidcnmeonjjbaa.LayPlace Go.Proofs.Ytnidcnmeonjjbaa.LayTilePure Go.Proofs.YtnidcnmeonjjbaaW.PrintWords Go.Proofs.YtnidcnmeonjjbaaW.PrintLast Go.Proofs.YtnidcnmeonjjbaaW.PrintMore
set_option linter.unusedVariables false
set_option linter.unusedSimpArgs false
section
set_option maxHeartbeats 3200000
set_option maxRecDepth 100000
theorem in_c (x y : Nat) (b : BX) (w : World) (hb : fits b) (hx : x ≤ 60) (hy : y ≤ 60) :
    Calls Try.prog 20 #[.int .i64 x, .int .i64 y, .agg #[.int .i64 b.x, .int .i64 b.y, .int .i64 b.w, .int .i64 b.h]] w fun e w' => e = .returned (.bool (inB x y b)) ∧ Below w.heap.size w w' := by
  have hub := Try.underlying50
  obtain ⟨r, hr⟩ : ∃ r, r = inB x y b := ⟨_, rfl⟩
  rw [← hr]
  unfold inB at hr
  obtain ⟨p, q, u, v⟩ := b
  dsimp only at hr ⊢
  obtain ⟨f1, f2⟩ := hb
  dsimp only at f1 f2
  have g1 : (p : Int) + u ≤ 60 := by omega
  have g2 : (q : Int) + v ≤ 60 := by omega
  have g3 : (0 : Int) ≤ (p : Int) + u := by omega
  have g4 : (0 : Int) ≤ (q : Int) + v := by omega
  by_cases h1 : p ≤ x
  · by_cases h2 : q ≤ y
    · by_cases h3 : (x : Int) < p + u
      · by_cases h4 : (y : Int) < q + v
        · have hr' : r = true := by rw [hr]; exact decide_eq_true (by omega)
          have e1 : decide (p ≤ x) = true := decide_eq_true h1
          have e2 : decide (q ≤ y) = true := decide_eq_true h2
          have e3 : decide ((x : Int) < p + u) = true := decide_eq_true h3
          have e4 : decide ((y : Int) < q + v) = true := decide_eq_true h4
          subst hr'
          clear hr f1 f2
          go_enter Try.func20, Try.ntmps20
          go_wp2_with fail
          go_returns
          exact ⟨rfl, below_alloc (Below.refl _ _) _⟩
        · have hr' : r = false := by rw [hr]; exact decide_eq_false (by omega)
          have e1 : decide (p ≤ x) = true := decide_eq_true h1
          have e2 : decide (q ≤ y) = true := decide_eq_true h2
          have e3 : decide ((x : Int) < p + u) = true := decide_eq_true h3
          have e4 : decide ((y : Int) < q + v) = false := decide_eq_false h4
          subst hr'
          clear hr f1 f2 h4
          go_enter Try.func20, Try.ntmps20
          go_wp2_with fail
          go_returns
          exact ⟨rfl, below_alloc (Below.refl _ _) _⟩
      · have hr' : r = false := by rw [hr]; exact decide_eq_false (by omega)
        have e1 : decide (p ≤ x) = true := decide_eq_true h1
        have e2 : decide (q ≤ y) = true := decide_eq_true h2
        have e3 : decide ((x : Int) < p + u) = false := decide_eq_false h3
        subst hr'
        clear hr f1 f2 h3
        go_enter Try.func20, Try.ntmps20
        go_wp2_with fail
        go_returns
        exact ⟨rfl, below_alloc (Below.refl _ _) _⟩
    · have hr' : r = false := by rw [hr]; exact decide_eq_false (by omega)
      have e1 : decide (p ≤ x) = true := decide_eq_true h1
      have e2 : decide (q ≤ y) = false := decide_eq_false h2
      subst hr'
      clear hr f1 f2 h2
      go_enter Try.func20, Try.ntmps20
      go_wp2_with fail
      go_returns
      exact ⟨rfl, below_alloc (Below.refl _ _) _⟩
  · have hr' : r = false := by rw [hr]; exact decide_eq_false (by omega)
    have e1 : decide (p ≤ x) = false := decide_eq_false h1
    subst hr'
    clear hr f1 f2 h1
    go_enter Try.func20, Try.ntmps20
    go_wp2_with fail
    go_returns
    exact ⟨rfl, below_alloc (Below.refl _ _) _⟩
end
end Go.Proofs.Ytnidcnmeonjjbaa.LayIn
