/- utf.Decoder.Right as a contract, over every three bytes and every number. -/
import Derived.Test.YtneioenhnioehaaDoorUtfFeed
namespace Go.Proofs.YtneioenhnioehaaDoor.UtfRight
open Go.RowKit Go.Proofs.YtneioenhnioehaaDoor.Kit Go.Proofs.YtneioenhnioehaaDoor.Plain Go.Proofs.YtneioenhnioehaaDoor.Mine Go.Proofs.YtneioenhnioehaaDoor.UtfPure Go.Proofs.YtneioenhnioehaaDoor.UtfFull Go.Proofs.YtneioenhnioehaaDoor.UtfDec Go.Proofs.YtneioenhnioehaaDoor.UtfFeed Go.Proofs.YtneioenhnioehaaDoorW.PrintWords Go.Proofs.YtneioenhnioehaaDoorW.PrintLast Go.Proofs.YtneioenhnioehaaDoorW.PrintMore
open Go.Lib (Utf8Tabs)
set_option linter.unusedVariables false
set_option linter.unusedSimpArgs false
/-- What Right tells of three bytes and a number from 0 to 3. -/
def rightN (l : List Int) (m : Nat) : Bool := (l.drop m).all (· == 0) && (decide (m = 0) || !full (l.take m))
def rightB (l : List Int) (n : Int) : Bool := decide (0 ≤ n) && (decide (n ≤ 3) && rightN l n.toNat)
theorem tail_C {W : World} {g : Nat} {b0 b1 b2 n : Int} (h : W.heap[g]? = some (.cells #[.int .u8 b0, .int .u8 b1, .int .u8 b2, .int .i64 n] 29 (0, 0))) (i : Nat) (hi : i < 3) : W.cell? ⟨g, i, none⟩ = some (.int .u8 ([b0, b1, b2].getD i 0)) := by
  rw [blk_cell h i]
  match i, hi with
  | 0, _ => rfl
  | 1, _ => rfl
  | 2, _ => rfl
  | i + 3, hi => omega
theorem head_C {W : World} {g m : Nat} {b0 b1 b2 n : Int} (h : W.heap[g]? = some (.cells #[.int .u8 b0, .int .u8 b1, .int .u8 b2, .int .i64 n] 29 (0, 0))) (hm : m ≤ 3) : Kd.C (Kd.int .u8) W (some ⟨g, 0, none⟩) ([b0, b1, b2].take m).length ([b0, b1, b2].take m) := by
  refine Kd.C_of_reads (enc := Value.int .u8) (d := (0 : Int)) (h1 := fun _ => rfl) ⟨rfl, by rw [List.length_take]; simp; omega, fun _ => ⟨_, rfl, fun j hj => ?_⟩⟩
  have e : (⟨g, 0, none⟩ : Addr).add j = ⟨g, j, none⟩ := by unfold Addr.add; split <;> simp_all
  have hj2 : j < 3 ∧ j < m := by rw [List.length_take] at hj; simp at hj; omega
  rw [e, tail_C h j hj2.1]
  show some (Value.int .u8 _) = some (Value.int .u8 (([b0, b1, b2].take m).getD j 0))
  rw [List.getD_eq_getElem?_getD, List.getD_eq_getElem?_getD, List.getElem?_take_of_lt hj2.2]
theorem drop_step (l : List Int) (m i : Nat) (h : m + i < l.length) (h0 : ∀ j, j < i → l.getD (m + j) 0 = 0) (hx : l.getD (m + i) 0 ≠ 0) : rightN l m = false := by
  unfold rightN
  rw [Bool.and_eq_false_iff]
  left
  rw [List.all_eq_false]
  refine ⟨l[m + i], List.mem_iff_getElem.2 ⟨i, by rw [List.length_drop]; omega, by rw [List.getElem_drop]⟩, ?_⟩
  rw [List.getD_eq_getElem?_getD, List.getElem?_eq_getElem h] at hx
  simpa using hx
theorem upto_step {p : Nat → Prop} {i : Nat} (h : ∀ j, j < i → p j) (hi : p i) : ∀ j, j < i + 1 → p j := fun j hj => (Nat.lt_or_ge j i).elim (fun a => h j a) (fun a => (show i = j by omega) ▸ hi)
theorem drop_all (l : List Int) (m : Nat) (h0 : ∀ j, m + j < l.length → l.getD (m + j) 0 = 0) : (l.drop m).all (· == 0) = true := by
  rw [List.all_eq_true]
  intro x hx
  obtain ⟨i, hi, rfl⟩ := List.mem_iff_getElem.1 hx
  rw [List.length_drop] at hi
  have h := h0 i (by omega)
  rw [List.getD_eq_getElem?_getD, List.getElem?_eq_getElem (by omega)] at h
  rw [List.getElem_drop]
  simpa using h
set_option maxHeartbeats 1600000 in
set_option maxRecDepth 100000 in
theorem right_out (b0 b1 b2 n : Int) (w : World) (h : n < 0 ∨ 3 < n) :
    Calls Tryd.prog 13 #[.agg #[.int .u8 b0, .int .u8 b1, .int .u8 b2, .int .i64 n]] w fun e w' => e = .returned (.bool false) ∧ Below w.heap.size w w' := by
  have hu := Tryd.underlying29
  rcases h with h | h
  · go_enter Tryd.func13, Tryd.ntmps13
    go_wp2
    go_ret
    exact ⟨rfl, below_alloc (Below.refl _ _) _⟩
  · have h2 : (0 : Int) ≤ n := by omega
    go_enter Tryd.func13, Tryd.ntmps13
    go_wp2
    go_ret
    exact ⟨rfl, below_alloc (Below.refl _ _) _⟩
set_option maxHeartbeats 3200000 in
set_option maxRecDepth 100000 in
theorem right_in (b0 b1 b2 : Int) (m : Nat) (w : World) (hT : Utf8Tabs 0 1 w) (hb : Bytes [b0, b1, b2]) (hm : m < 3) :
    Calls Tryd.prog 13 #[.agg #[.int .u8 b0, .int .u8 b1, .int .u8 b2, .int .i64 m]] w fun e w' => e = .returned (.bool (rightN [b0, b1, b2] m)) ∧ Below w.heap.size w w' := by
  have hu := Tryd.underlying29
  have hm3 : ¬ 3 = m := by omega
  have h0 : (0 : Int) ≤ m := by omega
  have h3 : (m : Int) ≤ 3 := by omega
  have HM := Aside0.mk hm
  clear hm
  have HT := Aside0.mk hT
  have HBY := Aside0.mk hb
  obtain ⟨r, hr⟩ : ∃ r, r = rightN [b0, b1, b2] m := ⟨_, rfl⟩
  rw [← hr]
  have HR := Aside0.mk hr
  clear hT hb hr
  go_enter Tryd.func13, Tryd.ntmps13
  go_upto_region 1 with fail
  obtain ⟨w1, hw1⟩ : ∃ w1, w1 = w.alloc (.cells #[.int .u8 b0, .int .u8 b1, .int .u8 b2, .int .i64 m] 29) := ⟨_, rfl⟩
  obtain ⟨g, hg⟩ : ∃ g, g = w.heap.size := ⟨_, rfl⟩
  have HK := Aside0.mk (show w1.heap[g]? = some (.cells #[.int .u8 b0, .int .u8 b1, .int .u8 b2, .int .i64 m] 29 (0, 0)) from by rw [hw1, hg]; exact blk_new w _)
  have HB1 := Aside0.mk (show Below w.heap.size w w1 from by rw [hw1]; exact below_alloc (Below.refl _ _) _)
  rw [← hw1, ← hg]
  have HFUL := Aside0.mk (fun (hne : 0 < m) => full_c (some ⟨g, 0, none⟩) 3 ([b0, b1, b2].take m) w1 (tabs_below HT.out HB1.out) (head_C HK.out (Nat.le_of_lt HM.out)) (fun x hx => HBY.out x (List.mem_of_mem_take hx)) (by rw [List.length_take]; simp; try omega))
  have hln : ([b0, b1, b2].take m).length = m := by rw [List.length_take]; simp; try omega
  rw [hln] at HFUL
  clear hw1 hg hln HT HBY
  have hc3 : w1.cell? ⟨g, 3, none⟩ = some (.int .i64 m) := (blk_cell HK.out 3).trans rfl
  go_wp2
  go_loopg [18] (3 - m) (fun g0 v18 W => ∃ (i : Nat), v18 = .int .i64 (i : Int) ∧ Aside0 (g0 + i = 3 - m) ∧ Aside0 (∀ j, j < i → [b0, b1, b2].getD (m + j) 0 = 0) ∧ W = w1)
  case atStart => exact ⟨0, rfl, ⟨by omega⟩, ⟨fun j hj => by omega⟩, rfl⟩
  case round =>
    obtain ⟨i, rfl, HG, HZ, rfl⟩ := hrel
    have hgi := HG.out
    by_cases hi : i < 3 - m
    · obtain ⟨g0, rfl⟩ : ∃ g0, gk = g0 + 1 := ⟨gk - 1, by omega⟩
      obtain ⟨x, hx⟩ : ∃ x, x = [b0, b1, b2].getD (m + i) 0 := ⟨_, rfl⟩
      have hc := tail_C HK.out (m + i) (by omega)
      rw [← hx] at hc
      have hil : (i : Int) < ((3 - m : Nat) : Int) := by omega
      have HX := Aside0.mk hx
      clear hx hgi hi
      by_cases hx0 : x = 0
      · have hxe : (x == 0) = true := by simp [hx0]
        have HX0 := Aside0.mk hx0
        clear hx0
        go_wp2_with fail
        go_roundg g0
        case measure => omega
        case rel => exact ⟨i + 1, by first | go_num | (congr 1; unfold wrap64; omega), ⟨by have := HG.out; omega⟩, ⟨upto_step HZ.out (by rw [← HX.out]; exact HX0.out)⟩, rfl⟩
      · have hxe : (x == 0) = false := beq_eq_false_iff_ne.mpr hx0
        have HX0 := Aside0.mk hx0
        clear hx0
        go_wp2_with fail
        go_ret
        have hf := drop_step [b0, b1, b2] m i (by have := HG.out; simp; omega) HZ.out (by rw [← HX.out]; exact HX0.out)
        rw [← HR.out] at hf
        exact ⟨by rw [hf]; rfl, HB1.out⟩
    · have hil : ((3 - m : Nat) : Int) ≤ i := by omega
      have hall := drop_all [b0, b1, b2] m (fun j hj => HZ.out j (by simp at hj; omega))
      have HALL := Aside0.mk hall
      clear hgi hall
      by_cases hz : m = 0
      · have hze : ((m : Int) == 0) = true := by simp [hz]
        have HM0 := Aside0.mk hz
        clear hz
        go_wp2_with fail
        go_ret
        refine ⟨?_, HB1.out⟩
        rw [HR.out, rightN, HALL.out, HM0.out]
        rfl
      · have hze : ((m : Int) == 0) = false := beq_eq_false_iff_ne.mpr (by omega)
        have HM0 := Aside0.mk hz
        clear hz
        go_wp2_with fail
        refine (HFUL.out (by have := HM0.out; omega)).mono ?_
        rintro e w2 ⟨rfl, hb2⟩
        have HB2 := Aside0.mk (below_kept HB1.out hb2)
        obtain ⟨f, hf⟩ : ∃ f, f = full ([b0, b1, b2].take m) := ⟨_, rfl⟩
        rw [← hf]
        have HF := Aside0.mk hf
        clear hb2 hf
        go_wp2_with fail
        go_ret
        refine ⟨?_, HB2.out⟩
        rw [HR.out, rightN, HALL.out, ← HF.out]
        simp [HM0.out]
set_option maxHeartbeats 3200000 in
set_option maxRecDepth 100000 in
theorem right_all (b0 b1 b2 : Int) (w : World) (hT : Utf8Tabs 0 1 w) (hb : Bytes [b0, b1, b2]) :
    Calls Tryd.prog 13 #[.agg #[.int .u8 b0, .int .u8 b1, .int .u8 b2, .int .i64 3]] w fun e w' => e = .returned (.bool (rightN [b0, b1, b2] 3)) ∧ Below w.heap.size w w' := by
  have hu := Tryd.underlying29
  have HT := Aside0.mk hT
  have HBY := Aside0.mk hb
  obtain ⟨r, hr⟩ : ∃ r, r = rightN [b0, b1, b2] 3 := ⟨_, rfl⟩
  rw [← hr]
  have HR := Aside0.mk hr
  clear hT hb hr
  go_enter Tryd.func13, Tryd.ntmps13
  go_upto_region 1 with fail
  obtain ⟨w1, hw1⟩ : ∃ w1, w1 = w.alloc (.cells #[.int .u8 b0, .int .u8 b1, .int .u8 b2, .int .i64 3] 29) := ⟨_, rfl⟩
  obtain ⟨g, hg⟩ : ∃ g, g = w.heap.size := ⟨_, rfl⟩
  have HK := Aside0.mk (show w1.heap[g]? = some (.cells #[.int .u8 b0, .int .u8 b1, .int .u8 b2, .int .i64 3] 29 (0, 0)) from by rw [hw1, hg]; exact blk_new w _)
  have HB1 := Aside0.mk (show Below w.heap.size w w1 from by rw [hw1]; exact below_alloc (Below.refl _ _) _)
  rw [← hw1, ← hg]
  have HFUL := Aside0.mk (fun (hne : 0 < 3) => full_c (some ⟨g, 0, none⟩) 3 ([b0, b1, b2].take 3) w1 (tabs_below HT.out HB1.out) (head_C HK.out (Nat.le_refl _)) (fun x hx => HBY.out x (List.mem_of_mem_take hx)) (by rw [List.length_take]; simp; try omega))
  have hln : ([b0, b1, b2].take 3).length = 3 := by rw [List.length_take]; simp; try omega
  rw [hln] at HFUL
  clear hw1 hg hln HT HBY
  have hc3 : w1.cell? ⟨g, 3, none⟩ = some (.int .i64 3) := (blk_cell HK.out 3).trans rfl
  go_wp2
  go_loopg [18] 0 (fun g0 v18 W => v18 = .int .i64 0 ∧ W = w1)
  case atStart => exact ⟨rfl, rfl⟩
  case round =>
    obtain ⟨rfl, rfl⟩ := hrel
    go_wp2_with fail
    refine (HFUL.out (by omega)).mono ?_
    rintro e w2 ⟨rfl, hb2⟩
    have HB2 := Aside0.mk (below_kept HB1.out hb2)
    obtain ⟨f, hf⟩ : ∃ f, f = full ([b0, b1, b2].take 3) := ⟨_, rfl⟩
    rw [← hf]
    have HF := Aside0.mk hf
    clear hb2 hf
    go_wp2_with fail
    go_ret
    refine ⟨?_, HB2.out⟩
    rw [HR.out, rightN, ← HF.out]
    simp
theorem right_c (b0 b1 b2 n : Int) (w : World) (hT : Utf8Tabs 0 1 w) (hb : Bytes [b0, b1, b2]) :
    Calls Tryd.prog 13 #[.agg #[.int .u8 b0, .int .u8 b1, .int .u8 b2, .int .i64 n]] w fun e w' => e = .returned (.bool (rightB [b0, b1, b2] n)) ∧ Below w.heap.size w w' := by
  by_cases h : n < 0 ∨ 3 < n
  · have e : rightB [b0, b1, b2] n = false := by
      unfold rightB
      rcases h with h | h
      · rw [decide_eq_false (show ¬ 0 ≤ n by omega)]; rfl
      · rw [decide_eq_false (show ¬ n ≤ 3 by omega)]; simp
    rw [e]
    exact right_out b0 b1 b2 n w h
  · obtain ⟨m, rfl⟩ : ∃ m : Nat, n = m := ⟨n.toNat, by omega⟩
    have e : rightB [b0, b1, b2] m = rightN [b0, b1, b2] m := by
      unfold rightB
      rw [decide_eq_true (show (0 : Int) ≤ m by omega), decide_eq_true (show (m : Int) ≤ 3 by omega)]
      rfl
    rw [e]
    by_cases hm : m < 3
    · exact right_in b0 b1 b2 m w hT hb hm
    · obtain rfl : m = 3 := by omega
      exact right_all b0 b1 b2 w hT hb
end Go.Proofs.YtneioenhnioehaaDoor.UtfRight
