/- Events: what is right, as contracts of the two functions that tell it; no condition. -/
import Derived.Test.YtmongghhagbokaaKit
import Derived.Test.YtmongghhagbokaaPlain
import Derived.Test.YtmongghhagbokaaMine
import Derived.Test.YtmongghhagbokaaPPlayRightsx0
import Derived.Test.YtmongghhagbokaaOpens
namespace Go.Proofs.Ytmongghhagbokaa.Event
open Go.RowKit Go.Proofs.Ytmongghhagbokaa.Kit Go.Proofs.Ytmongghhagbokaa.Plain Go.Proofs.Ytmongghhagbokaa.Mine Go.Proofs.YtmongghhagbokaaW.PrintWords Go.Proofs.YtmongghhagbokaaW.PrintLast Go.Proofs.YtmongghhagbokaaW.PrintMore
open Go.Proofs.Ytmongghhagbokaa.PPlayRights (S54 z54 k54 k54_open k54_mk rd_T54 at_T54)
set_option linter.unusedVariables false
set_option linter.unusedSimpArgs false
/-- Right: time, kind, the text's length, width, height. -/
def rightB (t k : Int) (sz : Nat) (a b : Int) : Bool := decide (0 ≤ t ∧ t < 4611686018427387904 ∧ sz ≤ 400 ∧ ((k = 2 ∧ sz = 0 ∧ 1 ≤ a ∧ a ≤ 1000 ∧ 1 ≤ b ∧ b ≤ 1000) ∨ ((k = 0 ∨ k = 1 ∨ k = 3) ∧ a = 0 ∧ b = 0)))
def right (x : S54) : Bool := rightB x.f0 x.f1 x.f2.size x.f3 x.f4
/-- An event as a value. -/
def ev (x : S54) : Value := .agg #[.int .i64 x.f0, .int .i64 x.f1, .string x.f2, .int .i64 x.f3, .int .i64 x.f4]
theorem empty_iff (d : ByteArray) : d.size = 0 ↔ d = ByteArray.empty := ByteArray.size_eq_zero_iff
theorem toList_size (d : ByteArray) : d.toList.length = d.size := by rw [ByteArray.toList_eq]; rfl
theorem cases_k (t k : Int) (d : ByteArray) (a b : Int) : (t < 0) ∨ (0 ≤ t ∧ 4611686018427387904 ≤ t) ∨ (0 ≤ t ∧ t < 4611686018427387904 ∧ 400 < (d.size : Int)) ∨
    (0 ≤ t ∧ t < 4611686018427387904 ∧ (d.size : Int) ≤ 400 ∧ (k = 2 ∨ k = 0 ∨ k = 1 ∨ k = 3 ∨ (k ≠ 2 ∧ k ≠ 0 ∧ k ≠ 1 ∧ k ≠ 3))) := by omega
set_option maxHeartbeats 4000000 in
set_option maxRecDepth 100000 in
theorem right_raw (t k : Int) (d : ByteArray) (a b : Int) (w : World) :
    Calls Try.prog 35 #[.agg #[.int .i64 t, .int .i64 k, .string d, .int .i64 a, .int .i64 b]] w fun e w' => e = .returned (.bool (rightB t k d.size a b)) ∧ Below w.heap.size w w' := by
  have HCA := Aside0.mk (cases_k t k d a b)
  have HB := Aside0.mk (Below.refl w.heap.size w)
  have hu := Try.underlying54
  go_enter Try.func35, Try.ntmps35
  go_upto_region 1 with (first | ((with_reducible refine gate_dst (N := 1) rfl ?_); (try (refine gate_guard (by rfl) ?_; dsimp only)); refine box_event ?hg (N := 1) ?hd (cs := #[.int .i64 t, .int .i64 k, .string d, .int .i64 a, .int .i64 b]) (t := 54) ?hr ?_; (case hd => rfl); (case hg => rfl); (case hr => first | (go_simp; done) | (go_simp; rfl)); intro g hg w3 hbox hb; have HW := Aside0.mk (below_step HB.out hb); have BK := Aside0.mk hbox; clear hb hbox hg))
  have c0 : w3.cell? ⟨g, 0, none⟩ = some (.int .i64 t) := (blk_cell BK.out 0).trans rfl
  have c1 : w3.cell? ⟨g, 1, none⟩ = some (.int .i64 k) := (blk_cell BK.out 1).trans rfl
  have c2 : w3.cell? ⟨g, 2, none⟩ = some (.string d) := (blk_cell BK.out 2).trans rfl
  have c3 : w3.cell? ⟨g, 3, none⟩ = some (.int .i64 a) := (blk_cell BK.out 3).trans rfl
  have c4 : w3.cell? ⟨g, 4, none⟩ = some (.int .i64 b) := (blk_cell BK.out 4).trans rfl
  have fin : ∀ r : Bool, (r = true ↔ (0 ≤ t ∧ t < 4611686018427387904 ∧ d.size ≤ 400 ∧ ((k = 2 ∧ d.size = 0 ∧ 1 ≤ a ∧ a ≤ 1000 ∧ 1 ≤ b ∧ b ≤ 1000) ∨ ((k = 0 ∨ k = 1 ∨ k = 3) ∧ a = 0 ∧ b = 0)))) → r = rightB t k d.size a b := fun r h => by
    unfold rightB
    cases r with
    | true => exact (decide_eq_true (h.1 rfl)).symm
    | false => exact (decide_eq_false (fun h2 => Bool.false_ne_true (h.2 h2))).symm
  have FIN := Aside0.mk fin
  clear fin
  rcases HCA.out with h | ⟨h, h1⟩ | ⟨h, h1, h2⟩ | ⟨h, h1, h2, h3⟩
  · have HV := Aside0.mk (FIN.out false ⟨fun h9 => absurd h9 Bool.false_ne_true, fun h9 => by omega⟩)
    go_wp2
    go_ret
    exact ⟨by rw [← HV.out]; rfl, HW.out⟩
  · have HV := Aside0.mk (FIN.out false ⟨fun h9 => absurd h9 Bool.false_ne_true, fun h9 => by omega⟩)
    go_wp2
    go_ret
    exact ⟨by rw [← HV.out]; rfl, HW.out⟩
  · have HV := Aside0.mk (FIN.out false ⟨fun h9 => absurd h9 Bool.false_ne_true, fun h9 => by omega⟩)
    go_wp2
    go_ret
    exact ⟨by rw [← HV.out]; rfl, HW.out⟩
  · rcases h3 with rfl | rfl | rfl | rfl | ⟨k2, k0, k1, k3⟩
    · by_cases hd : d.size = 0
      · have he := (empty_iff d).1 hd
        subst he
        by_cases a1 : (1 : Int) ≤ a
        · by_cases b1 : (1 : Int) ≤ b
          · by_cases a2 : a ≤ (1000 : Int)
            · by_cases b2 : b ≤ (1000 : Int)
              · have HV := Aside0.mk (FIN.out true ⟨fun _ => by omega, fun _ => rfl⟩)
                go_wp2
                go_ret
                first | exact ⟨congrArg (fun x => Ending.returned (.bool x)) HV.out, HW.out⟩ | exact ⟨by rw [← HV.out]; simp [*], HW.out⟩
              · have HV := Aside0.mk (FIN.out false ⟨fun h9 => absurd h9 Bool.false_ne_true, fun h9 => by omega⟩)
                go_wp2
                go_ret
                first | exact ⟨congrArg (fun x => Ending.returned (.bool x)) HV.out, HW.out⟩ | exact ⟨by rw [← HV.out]; simp [*], HW.out⟩
            · have HV := Aside0.mk (FIN.out false ⟨fun h9 => absurd h9 Bool.false_ne_true, fun h9 => by omega⟩)
              go_wp2
              go_ret
              first | exact ⟨congrArg (fun x => Ending.returned (.bool x)) HV.out, HW.out⟩ | exact ⟨by rw [← HV.out]; simp [*], HW.out⟩
          · have HV := Aside0.mk (FIN.out false ⟨fun h9 => absurd h9 Bool.false_ne_true, fun h9 => by omega⟩)
            go_wp2
            go_ret
            first | exact ⟨congrArg (fun x => Ending.returned (.bool x)) HV.out, HW.out⟩ | exact ⟨by rw [← HV.out]; simp [*], HW.out⟩
        · have HV := Aside0.mk (FIN.out false ⟨fun h9 => absurd h9 Bool.false_ne_true, fun h9 => by omega⟩)
          go_wp2
          go_ret
          first | exact ⟨congrArg (fun x => Ending.returned (.bool x)) HV.out, HW.out⟩ | exact ⟨by rw [← HV.out]; simp [*], HW.out⟩
      · have HV := Aside0.mk (FIN.out false ⟨fun h9 => absurd h9 Bool.false_ne_true, fun h9 => by omega⟩)
        have he : d.toList.isEmpty = false := by
          cases h5 : d.toList.isEmpty with
          | false => rfl
          | true => exact absurd (by rw [← toList_size d]; simpa using h5) hd
        go_wp2
        go_ret
        first | exact ⟨congrArg (fun x => Ending.returned (.bool x)) HV.out, HW.out⟩ | exact ⟨by rw [← HV.out]; simp [*], HW.out⟩
    · by_cases a0 : a = 0
      · subst a0
        by_cases b0 : b = 0
        · subst b0
          have HV := Aside0.mk (FIN.out true ⟨fun _ => by omega, fun _ => rfl⟩)
          go_wp2
          go_ret
          first | exact ⟨congrArg (fun x => Ending.returned (.bool x)) HV.out, HW.out⟩ | exact ⟨by rw [← HV.out]; simp [*], HW.out⟩
        · have HV := Aside0.mk (FIN.out false ⟨fun h9 => absurd h9 Bool.false_ne_true, fun h9 => by omega⟩)
          have b0' : ((b : Int) == 0) = false := beq_eq_false_iff_ne.mpr b0
          go_wp2
          go_ret
          first | exact ⟨congrArg (fun x => Ending.returned (.bool x)) HV.out, HW.out⟩ | exact ⟨by rw [← HV.out]; simp [*], HW.out⟩
      · have HV := Aside0.mk (FIN.out false ⟨fun h9 => absurd h9 Bool.false_ne_true, fun h9 => by omega⟩)
        have a0' : ((a : Int) == 0) = false := beq_eq_false_iff_ne.mpr a0
        go_wp2
        go_ret
        first | exact ⟨congrArg (fun x => Ending.returned (.bool x)) HV.out, HW.out⟩ | exact ⟨by rw [← HV.out]; simp [*], HW.out⟩
    · by_cases a0 : a = 0
      · subst a0
        by_cases b0 : b = 0
        · subst b0
          have HV := Aside0.mk (FIN.out true ⟨fun _ => by omega, fun _ => rfl⟩)
          go_wp2
          go_ret
          first | exact ⟨congrArg (fun x => Ending.returned (.bool x)) HV.out, HW.out⟩ | exact ⟨by rw [← HV.out]; simp [*], HW.out⟩
        · have HV := Aside0.mk (FIN.out false ⟨fun h9 => absurd h9 Bool.false_ne_true, fun h9 => by omega⟩)
          have b0' : ((b : Int) == 0) = false := beq_eq_false_iff_ne.mpr b0
          go_wp2
          go_ret
          first | exact ⟨congrArg (fun x => Ending.returned (.bool x)) HV.out, HW.out⟩ | exact ⟨by rw [← HV.out]; simp [*], HW.out⟩
      · have HV := Aside0.mk (FIN.out false ⟨fun h9 => absurd h9 Bool.false_ne_true, fun h9 => by omega⟩)
        have a0' : ((a : Int) == 0) = false := beq_eq_false_iff_ne.mpr a0
        go_wp2
        go_ret
        first | exact ⟨congrArg (fun x => Ending.returned (.bool x)) HV.out, HW.out⟩ | exact ⟨by rw [← HV.out]; simp [*], HW.out⟩
    · by_cases a0 : a = 0
      · subst a0
        by_cases b0 : b = 0
        · subst b0
          have HV := Aside0.mk (FIN.out true ⟨fun _ => by omega, fun _ => rfl⟩)
          go_wp2
          go_ret
          first | exact ⟨congrArg (fun x => Ending.returned (.bool x)) HV.out, HW.out⟩ | exact ⟨by rw [← HV.out]; simp [*], HW.out⟩
        · have HV := Aside0.mk (FIN.out false ⟨fun h9 => absurd h9 Bool.false_ne_true, fun h9 => by omega⟩)
          have b0' : ((b : Int) == 0) = false := beq_eq_false_iff_ne.mpr b0
          go_wp2
          go_ret
          first | exact ⟨congrArg (fun x => Ending.returned (.bool x)) HV.out, HW.out⟩ | exact ⟨by rw [← HV.out]; simp [*], HW.out⟩
      · have HV := Aside0.mk (FIN.out false ⟨fun h9 => absurd h9 Bool.false_ne_true, fun h9 => by omega⟩)
        have a0' : ((a : Int) == 0) = false := beq_eq_false_iff_ne.mpr a0
        go_wp2
        go_ret
        first | exact ⟨congrArg (fun x => Ending.returned (.bool x)) HV.out, HW.out⟩ | exact ⟨by rw [← HV.out]; simp [*], HW.out⟩
    · have HV := Aside0.mk (FIN.out false ⟨fun h9 => absurd h9 Bool.false_ne_true, fun h9 => by omega⟩)
      have q0 : ((k : Int) == 0) = false := beq_eq_false_iff_ne.mpr k0
      have q1 : ((k : Int) == 1) = false := beq_eq_false_iff_ne.mpr k1
      have q2 : ((k : Int) == 2) = false := beq_eq_false_iff_ne.mpr k2
      have q3 : ((k : Int) == 3) = false := beq_eq_false_iff_ne.mpr k3
      go_wp2
      go_ret
      first | exact ⟨congrArg (fun x => Ending.returned (.bool x)) HV.out, HW.out⟩ | exact ⟨by rw [← HV.out]; simp [*], HW.out⟩
end Go.Proofs.Ytmongghhagbokaa.Event
