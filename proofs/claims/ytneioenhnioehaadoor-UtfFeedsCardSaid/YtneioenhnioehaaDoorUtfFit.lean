/- The check at the head of the statements of layer 5, and whether two lists of runes are the same, as contracts. -/
import Derived.Test.YtneioenhnioehaaDoorUtfAllC
namespace Go.Proofs.YtneioenhnioehaaDoor.UtfFit
open Go.RowKit Go.Proofs.YtneioenhnioehaaDoor.Kit Go.Proofs.YtneioenhnioehaaDoor.Plain Go.Proofs.YtneioenhnioehaaDoor.Mine Go.Proofs.YtneioenhnioehaaDoor.UtfPure Go.Proofs.YtneioenhnioehaaDoor.UtfFull Go.Proofs.YtneioenhnioehaaDoor.UtfDec Go.Proofs.YtneioenhnioehaaDoor.UtfFeed Go.Proofs.YtneioenhnioehaaDoor.UtfRunes Go.Proofs.YtneioenhnioehaaDoor.UtfAllC Go.Proofs.YtneioenhnioehaaDoorW.PrintWords Go.Proofs.YtneioenhnioehaaDoorW.PrintLast Go.Proofs.YtneioenhnioehaaDoorW.PrintMore
open Go.Lib (firstT accLo accHi Utf8Tabs firstT_cases slowN decodeN)
set_option linter.unusedVariables false
set_option linter.unusedSimpArgs false
theorem known : runes (bytesOf ⟨#[226, 65]⟩) = [65533, 65] := by decide +kernel
set_option maxHeartbeats 1600000 in
set_option maxRecDepth 100000 in
theorem same_c (A B : Option Addr) (c c2 : Nat) (l : List Int) (w : World) (hr : Kd.C (Kd.int .i32) w A l.length l) (hr2 : Kd.C (Kd.int .i32) w B l.length l) (hl : l.length < 1000000000) :
    Calls Tryd.prog 8 #[.slice A l.length c, .slice B l.length c2] w fun e w' => e = .returned (.bool true) ∧ Below w.heap.size w w' := by
  have HR := Aside0.mk hr
  have HR2 := Aside0.mk hr2
  have hl2 : (l.length : Int) < 1000000000 := by omega
  clear hr hl hr2
  go_enter Tryd.func8, Tryd.ntmps8
  go_wp2
  go_loopg [13] l.length (fun g v13 W => ∃ (i : Nat), v13 = .int .i64 (i : Int) ∧ Aside0 (g + i = l.length) ∧ Aside0 (Below w.heap.size w W))
  case atStart => exact ⟨0, rfl, ⟨by omega⟩, ⟨Below.refl _ _⟩⟩
  case round =>
    obtain ⟨i, rfl, HG, HB⟩ := hrel
    have hgi := HG.out
    by_cases hi : i < l.length
    · obtain ⟨g0, rfl⟩ : ∃ g0, gk = g0 + 1 := ⟨gk - 1, by omega⟩
      obtain ⟨ad, ead, hc0⟩ := Kd.at_int (Kd.C_drew (Kd.C_below HR.out HB.out)) (i : Int) (by omega) (by omega)
      obtain ⟨ad2, ead2, gc0⟩ := Kd.at_int (Kd.C_drew (Kd.C_below HR2.out HB.out)) (i : Int) (by omega) (by omega)
      rw [Int.toNat_natCast, rd_nth l i hi] at hc0 gc0
      obtain ⟨x, hx⟩ : ∃ x, x = l[i] := ⟨_, rfl⟩
      rw [← hx] at hc0 gc0
      have hil : (i : Int) < l.length := by omega
      subst ead
      subst ead2
      clear hx hgi hi
      go_upto_region 6 with fail
      go_cut [24] (fun v24 W => v24 = .bool false ∧ Aside0 (Below w.heap.size w W))
      case first =>
        refine start_ (n := 9) (S := fun w' => w'.cell? (ad.add i) = some (.int .i32 x) ∧ w'.cell? (ad2.add i) = some (.int .i32 x)) (ds := []) #[false, false, false, false, false, false, false, false, false] (by kernel_rfl) rfl rfl ⟨hc0, gc0⟩ (fun hHeld => ?_)
        refine pure_ (i := 0) (N := some 16) (v := ?_) (a' := ?_) #[true, false, false, false, false, false, false, false, false] rfl rfl (by kernel_rfl) (fun _ _ _ h => h) (Or.inl ⟨by rfl, ?_⟩) ?_ ?_
        rotate_left
        · intro w'
          go_simp
          with_reducible rfl
        rotate_left
        · simp only [Act.put, List.setIfInBounds_toArray, List.set_cons_zero, List.set_cons_succ, i64_w, i32_w]
          rfl
        refine pure_ (i := 1) (N := some 17) (v := ?_) (a' := ?_) #[true, true, false, false, false, false, false, false, false] rfl rfl (by kernel_rfl) (fun _ _ _ h => h) (Or.inl ⟨by rfl, ?_⟩) ?_ ?_
        rotate_left
        · intro w'
          go_simp
          with_reducible rfl
        rotate_left
        · simp only [Act.put, List.setIfInBounds_toArray, List.set_cons_zero, List.set_cons_succ, i64_w, i32_w]
          rfl
        refine pure_ (i := 2) (N := some 18) (v := ?_) (a' := ?_) #[true, true, true, false, false, false, false, false, false] rfl rfl (by kernel_rfl) (fun _ _ _ h => h) (Or.inl ⟨by rfl, ?_⟩) ?_ ?_
        rotate_left
        · intro w'
          go_simp
          with_reducible rfl
        rotate_left
        · simp only [Act.put, List.setIfInBounds_toArray, List.set_cons_zero, List.set_cons_succ, i64_w, i32_w]
          rfl
        refine pure_ (i := 4) (N := some 20) (v := ?_) (a' := ?_) #[true, true, true, false, true, false, false, false, false] rfl rfl (by kernel_rfl) (fun _ _ _ h => h) (Or.inl ⟨by rfl, ?_⟩) ?_ ?_
        rotate_left
        · intro w'
          go_simp
          with_reducible rfl
        rotate_left
        · simp only [Act.put, List.setIfInBounds_toArray, List.set_cons_zero, List.set_cons_succ, i64_w, i32_w]
          rfl
        refine pure_ (i := 5) (N := some 21) (v := ?_) (a' := ?_) #[true, true, true, false, true, true, false, false, false] rfl rfl (by kernel_rfl) (fun _ _ _ h => h) (Or.inl ⟨by rfl, ?_⟩) ?_ ?_
        rotate_left
        · intro w'
          go_simp
          with_reducible rfl
        rotate_left
        · simp only [Act.put, List.setIfInBounds_toArray, List.set_cons_zero, List.set_cons_succ, i64_w, i32_w]
          rfl
        refine pure_ (i := 6) (N := some 22) (v := ?_) (a' := ?_) #[true, true, true, false, true, true, true, false, false] rfl rfl (by kernel_rfl) (fun _ _ _ h => h) (Or.inl ⟨by rfl, ?_⟩) ?_ ?_
        rotate_left
        · intro w'
          go_simp
          with_reducible rfl
        rotate_left
        · simp only [Act.put, List.setIfInBounds_toArray, List.set_cons_zero, List.set_cons_succ, i64_w, i32_w]
          rfl
        refine take_ (i := 3) (N := some 19) (v := ?_) (a' := ?_) #[true, true, true, true, true, true, true, false, false] rfl rfl (by kernel_rfl) (fun _ _ _ h => h) (Or.inl ⟨by rfl, ?_⟩) hHeld ?_ ?_
        rotate_left
        · rintro w' ⟨s0, s1⟩
          go_simp
          with_reducible rfl
        rotate_left
        · simp only [Act.put, List.setIfInBounds_toArray, List.set_cons_zero, List.set_cons_succ, i64_w, i32_w]
          rfl
        refine take_ (i := 7) (N := some 23) (v := ?_) (a' := ?_) #[true, true, true, true, true, true, true, true, false] rfl rfl (by kernel_rfl) (fun _ _ _ h => h) (Or.inl ⟨by rfl, ?_⟩) hHeld ?_ ?_
        rotate_left
        · rintro w' ⟨s0, s1⟩
          go_simp
          with_reducible rfl
        rotate_left
        · simp only [Act.put, List.setIfInBounds_toArray, List.set_cons_zero, List.set_cons_succ, i64_w, i32_w]
          rfl
        refine pure_ (i := 8) (N := some 24) (v := ?_) (a' := ?_) #[true, true, true, true, true, true, true, true, true] rfl rfl (by kernel_rfl) (fun _ _ _ h => h) (Or.inl ⟨by rfl, ?_⟩) ?_ ?_
        rotate_left
        · intro w'
          go_simp
          with_reducible rfl
        rotate_left
        · simp only [Act.put, List.setIfInBounds_toArray, List.set_cons_zero, List.set_cons_succ, i64_w, i32_w]
          rfl
        refine done_ (by kernel_rfl) ?_
        go_wp2
        go_meet
        case rel => exact ⟨by first | rfl | (simp; done), ⟨below_drew HB.out⟩⟩
      case rest =>
        obtain ⟨rfl, HBC⟩ := hcut
        clear hc0 gc0
        go_wp2_with fail
        go_roundg g0
        case measure => omega
        case rel => exact ⟨i + 1, by first | go_num | (congr 1; unfold wrap64; omega), ⟨by have := HG.out; omega⟩, HBC⟩
    · have hil : (l.length : Int) ≤ i := by omega
      clear hgi
      go_wp2
      go_ret
      exact ⟨rfl, HB.out⟩
set_option maxHeartbeats 800000 in
set_option maxRecDepth 100000 in
theorem fit_c (w : World) (hT : Utf8Tabs 0 1 w) : Calls Tryd.prog 7 #[] w fun e w' => e = .returned (.bool true) ∧ Below w.heap.size w w' := by
  have hA := all_c ⟨#[226, 65]⟩ w hT (by decide)
  rw [known] at hA
  have HA := Aside0.mk hA
  clear hA hT
  go_enter Tryd.func7, Tryd.ntmps7
  go_wp2_with fail
  refine HA.out.mono ?_
  rintro e w1 ⟨v1, rfl, ho, hb⟩
  obtain ⟨A, c, rfl⟩ := Kd.R_slice ho
  have hr := (Kd.R_reads' ho).2.2
  have HB := Aside0.mk hb
  obtain ⟨ad, ead, hc0⟩ := Kd.at_int hr (0 : Int) (by omega) (by simp)
  obtain ⟨ad2, ead2, hc1⟩ := Kd.at_int hr (1 : Int) (by omega) (by simp)
  rw [ead] at ead2
  cases ead2
  subst ead
  have e0 : w1.cell? ad = some (.int .i32 65533) := hc0
  have e1 : w1.cell? ⟨ad.block, ad.off + 1, none⟩ = some (.int .i32 65) := by
    have h2 := add_field ad 0 1 (by omega)
    rw [Nat.zero_add] at h2
    have h3 : w1.cell? (ad.add 1) = some (.int .i32 65) := hc1
    rw [h2] at h3
    exact h3
  clear ho hr hb hc0 hc1
  go_wp2
  go_ret
  exact ⟨rfl, HB.out⟩
end Go.Proofs.YtneioenhnioehaaDoor.UtfFit
