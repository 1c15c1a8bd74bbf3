/- A string converted to runes, as the model does it: it tells the runes of its bytes. -/
import Derived.Test.YtkdkajcokoggiaaDoorUtfDec
import Derived.Laws.IdiomStrings
namespace Go.Proofs.YtkdkajcokoggiaaDoor.UtfRunes
open Go.RowKit Go.Proofs.YtkdkajcokoggiaaDoor.Kit Go.Proofs.YtkdkajcokoggiaaDoor.Plain Go.Proofs.YtkdkajcokoggiaaDoor.Mine Go.Proofs.YtkdkajcokoggiaaDoor.UtfPure Go.Proofs.YtkdkajcokoggiaaDoorW.PrintWords Go.Proofs.YtkdkajcokoggiaaDoorW.PrintLast Go.Proofs.YtkdkajcokoggiaaDoorW.PrintMore
set_option linter.unusedVariables false
set_option linter.unusedSimpArgs false
theorem bytesOf_bytes (s : ByteArray) : Bytes (bytesOf s) := by
  intro x hx
  simp only [bytesOf, List.mem_map] at hx
  obtain ⟨b, _, rfl⟩ := hx
  have := b.toNat_lt
  omega
theorem bya_of (s : ByteArray) (i j : Nat) : bya ((bytesOf s).drop i) j = (s.get! (i + j)).toNat := by
  unfold bya
  rw [List.getD_eq_getElem?_getD, List.getElem?_drop]
  by_cases h : i + j < s.size
  · have h1 : s.get! (i + j) = s[i + j] := Go.Proofs.Utf8W.get!_of_lt s (i + j) h
    rw [h1]
    simp only [bytesOf, List.getElem?_map]
    rw [List.getElem?_eq_getElem (by rw [data_length]; exact h)]
    simp
    rfl
  · rw [List.getElem?_eq_none (by rw [bytesOf_length]; omega)]
    have h1 : s.get! (i + j) = default := by
      cases s with
      | mk d =>
        show d[i + j]! = default
        exact getElem!_neg d (i + j) h
    rw [h1]
    rfl
theorem runesFrom_is (s : ByteArray) : ∀ (n i : Nat) (acc : Array Value), Conv.runesFrom s n i acc = acc ++ ((runesF n ((bytesOf s).drop i)).map (Value.int .i32)).toArray := by
  intro n
  induction n with
  | zero => intro i acc; simp [Conv.runesFrom, runesF]
  | succ n ih =>
    intro i acc
    unfold Conv.runesFrom
    by_cases hi : i < s.size
    · rw [if_pos hi]
      have hne : (bytesOf s).drop i ≠ [] := by
        intro h
        have := congrArg List.length h
        rw [List.length_drop, bytesOf_length] at this
        simp at this
        omega
      have hd : Utf8.decode s i = dec1 ((bytesOf s).drop i) := by
        rw [Lib.decode_at]
        unfold dec1
        rw [List.length_drop, bytesOf_length, bya_of, bya_of, bya_of, bya_of]
        rfl
      rw [hd, runesF_step n _ hne]
      show Conv.runesFrom s n (i + (dec1 _).2) (acc.push (.int .i32 (Int.ofNat (dec1 _).1))) = _
      rw [ih, List.drop_drop]
      simp
    · rw [if_neg hi, List.drop_eq_nil_of_le (by rw [bytesOf_length]; omega)]
      simp [runesF]
theorem run_runes0 (w : World) (s : ByteArray) : (convert 9 35 (.string s)).run Tryd.prog w = .ok (.slice (some ⟨w.heap.size, 0, none⟩) (runes (bytesOf s)).length (grownCap w (runes (bytesOf s)).length 0 21))
    (w.drew.alloc (.cells (((runes (bytesOf s)).map (Value.int .i32)).toArray ++ Array.replicate (grownCap w (runes (bytesOf s)).length 0 21 - (runes (bytesOf s)).length) (.int .i32 0)) 21)) := by
  have e : Conv.runesFrom s s.size 0 #[] = ((runes (bytesOf s)).map (Value.int .i32)).toArray := by
    rw [runesFrom_is s s.size 0 #[]]
    unfold runes
    rw [bytesOf_length]
    simp
  simp [convert, run_underlying Tryd.underlying9, run_underlying Tryd.underlying35, run_underlying Tryd.underlying21, Conv.stringToRunes, Question.forced, newRow, grownCap, e]
theorem run_runes (w : World) (s : ByteArray) (hs : s.size ≤ 1000000) : ∃ (cap : Nat) (w' : World), (convert 9 35 (.string s)).run Tryd.prog w = .ok (.slice (some ⟨w.heap.size, 0, none⟩) (runes (bytesOf s)).length cap) w' ∧ Below w.heap.size w w' ∧
    Kd.C (Kd.int .i32) w' (some ⟨w.heap.size, 0, none⟩) (runes (bytesOf s)).length (runes (bytesOf s)) := by
  refine ⟨_, _, run_runes0 w s, below_alloc (below_drew (Below.refl _ _)) _, ?_⟩
  have hl : (runes (bytesOf s)).length ≤ s.size := by
    have : ∀ (k : Nat) (b : List Int), (runesF k b).length ≤ k := by
      intro k
      induction k with
      | zero => intro b; simp [runesF]
      | succ k ih =>
        intro b
        cases b with
        | nil => simp [runesF]
        | cons x l => simp only [runesF, List.length_cons]; have := ih ((x :: l).drop (dec1 (x :: l)).2); omega
    have h := this (bytesOf s).length (bytesOf s)
    rw [bytesOf_length] at h
    unfold runes
    rw [bytesOf_length]
    exact h
  obtain ⟨rs, hrs⟩ : ∃ rs, rs = runes (bytesOf s) := ⟨_, rfl⟩
  rw [← hrs] at hl ⊢
  refine Kd.C_of_reads (enc := Value.int .i32) (d := (0 : Int)) (h1 := fun _ => rfl) ⟨rfl, by omega, fun _ => ⟨_, rfl, fun j hj => ?_⟩⟩
  have e : (⟨w.heap.size, 0, none⟩ : Addr).add j = ⟨w.heap.size, j, none⟩ := by unfold Addr.add; split <;> simp_all
  rw [e]
  have hk := blk_new w.drew (.cells ((rs.map (Value.int .i32)).toArray ++ Array.replicate (grownCap w rs.length 0 21 - rs.length) (.int .i32 0)) 21)
  have hk2 := blk_cell hk j
  refine hk2.trans ?_
  rw [Array.getElem?_append_left (by simpa using hj)]
  simp [List.getD_eq_getElem?_getD, hj]
end Go.Proofs.YtkdkajcokoggiaaDoor.UtfRunes
