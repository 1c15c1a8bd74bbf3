/- Two arrays of three bytes compared: the answer is whether they agree byte by byte. -/
import Derived.Test.YtkdkajcokoggiaaDoorKit
import Derived.Laws.StructEq
import Derived.ChangeKeysEq
namespace Go.Proofs.YtkdkajcokoggiaaDoor.ArrEq
open Go.RowKit Go.Proofs.YtkdkajcokoggiaaDoor.Kit
theorem eql_arr (a b c x y z : Int) (w : World) : (binOp .eql 23 (.agg #[.int .u8 a, .int .u8 b, .int .u8 c]) (.agg #[.int .u8 x, .int .u8 y, .int .u8 z])).run Tryd.prog w = .ok (.bool (a == x && (b == y && c == z))) w := by
  have hp : Tryd.prog.plainKey 5 = true := by kernel_rfl
  have hc : Tryd.prog.cellsOf 5 = 1 := by kernel_rfl
  obtain ⟨i, hi⟩ := info_of_underlying Tryd.underlying5
  rw [run_eql_struct, run_equalIn_array w 9999 _ _ Tryd.underlying23 hi, hc]
  have hr : List.range 3 = [0, 1, 2] := rfl
  rw [hr]
  have hpt : ∀ (p q r : Int) (k : Nat) (v : Value) (W : World), (#[Value.int .u8 p, .int .u8 q, .int .u8 r])[k]? = some v → (part 5 #[Value.int .u8 p, .int .u8 q, .int .u8 r] k).run Tryd.prog W = .ok v W := fun p q r k v W h => run_part_plain W hp h
  have he : ∀ (p q : Int) (W : World), (Op.equalIn 9999 5 (.int .u8 p) (.int .u8 q)).run Tryd.prog W = .ok (p == q) W := fun p q W => run_equalIn_int W 9998 5 .u8 .u8 p q Tryd.underlying5
  have p0 := fun p q r W => hpt p q r 0 (.int .u8 p) W rfl
  have p1 := fun p q r W => hpt p q r 1 (.int .u8 q) W rfl
  have p2 := fun p q r W => hpt p q r 2 (.int .u8 r) W rfl
  have e0 := fun W => he a x W
  have e1 := fun W => he b y W
  have e2 := fun W => he c z W
  obtain ⟨A, hA⟩ : ∃ A, (a == x) = A := ⟨_, rfl⟩
  obtain ⟨B, hB⟩ : ∃ A, (b == y) = A := ⟨_, rfl⟩
  obtain ⟨C, hC⟩ : ∃ A, (c == z) = A := ⟨_, rfl⟩
  rw [hA] at e0 ⊢
  rw [hB] at e1 ⊢
  rw [hC] at e2 ⊢
  clear he hA hB hC
  cases A <;> cases B <;> cases C <;> simp [Op.eqItems, Sem.run_pure, p0, p1, p2, e0, e1, e2, Sem.run_bind]
theorem eql_same (a b c : Int) (w : World) : (binOp .eql 23 (.agg #[.int .u8 a, .int .u8 b, .int .u8 c]) (.agg #[.int .u8 a, .int .u8 b, .int .u8 c])).run Tryd.prog w = .ok (.bool true) w := by
  rw [eql_arr]; simp
end Go.Proofs.YtkdkajcokoggiaaDoor.ArrEq
