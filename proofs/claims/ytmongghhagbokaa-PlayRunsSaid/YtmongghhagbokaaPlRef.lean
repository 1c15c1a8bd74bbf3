/- The reference's Scale and Now as contracts. -/
import Derived.Test.YtmongghhagbokaaPlStep
import Derived.Test.YtmongghhagbokaaPlTimes
namespace Go.Proofs.Ytmongghhagbokaa.PlRef
open Go.RowKit Go.Proofs.Ytmongghhagbokaa.Kit Go.Proofs.Ytmongghhagbokaa.Plain Go.Proofs.Ytmongghhagbokaa.Mine Go.Proofs.Ytmongghhagbokaa.PlScale Go.Proofs.Ytmongghhagbokaa.PlNow Go.Proofs.Ytmongghhagbokaa.PlTimes Go.Proofs.Ytmongghhagbokaa.PlWide Go.Proofs.YtmongghhagbokaaW.PrintWords Go.Proofs.YtmongghhagbokaaW.PrintLast Go.Proofs.YtmongghhagbokaaW.PrintMore
set_option linter.unusedVariables false
set_option linter.unusedSimpArgs false
theorem scl_top {n m a b : Nat} (h : m ≤ n) (h2 : 4611686018427387904 ≤ m * a / b) : scl n a b = 4611686018427387904 := by
  unfold scl
  have := Nat.div_le_div_right (c := b) (Nat.mul_le_mul_right a h)
  omega
/-- A bit more: what is whole, and what is left. -/
theorem half_top {n m a b wh : Nat} (h : 2 * m ≤ n) (e : wh = m * a / b) (h2 : 2305843009213693952 ≤ wh) : scl n a b = 4611686018427387904 := by
  refine scl_top h ?_
  rw [Nat.mul_assoc]
  have := Nat.mul_div_le_mul_div_assoc 2 (m * a) b
  omega
theorem bit_facts (n k : Nat) : ∃ (m : Nat) (t : Nat), (n : Int) / 2 ^ k = (m : Int) ∧ m = n / 2 ^ k ∧ (t = 0 ∨ t = 1) ∧ Go.bits .and .i64 (m : Int) 1 = (t : Int) ∧ m = 2 * (n / 2 ^ (k + 1)) + t := by
  refine ⟨n / 2 ^ k, (n / 2 ^ k) % 2, by push_cast; rfl, rfl, by omega, by rw [low1]; omega, ?_⟩
  have e : n / 2 ^ (k + 1) = n / 2 ^ k / 2 := by rw [Nat.pow_succ, Nat.div_div_eq_div_mul]
  rw [e]
  omega
theorem round_law {m m2 t a b wh re : Nat} (e : wh * b + re = m * a) (h : m2 = 2 * m + t) : 2 * wh * b + (2 * re + t * a) = m2 * a := by
  rw [h, Nat.add_mul, Nat.mul_assoc 2 m a, ← e, Nat.mul_add, Nat.mul_assoc 2 wh b]
  omega
theorem end_law {m a b wh re : Nat} (hb : re < b) (e : wh * b + re = m * a) : wh = m * a / b := by
  rw [← e, Nat.mul_comm wh b, Nat.mul_add_div (by omega), Nat.div_eq_of_lt hb, Nat.add_zero]
set_option maxHeartbeats 3200000 in
set_option maxRecDepth 100000 in
theorem rscale_c (n a b : Nat) (hn : n ≤ 4611686018427387904) (ha : a ≤ 1000) (hb : 1 ≤ b) (hb2 : b ≤ 1000) (w : World) :
    Calls Try.prog 34 #[.int .i64 n, .int .i64 a, .int .i64 b] w fun e w' => e = .returned (.int .i64 (scl n a b : Int)) ∧ Below w.heap.size w w' := by
  have HB := Aside0.mk (below_drew (Below.refl w.heap.size w))
  obtain ⟨z, hz⟩ : ∃ z, z = scl n a b := ⟨_, rfl⟩
  have HZ := Aside0.mk hz
  rw [← hz]
  have HB1 := Aside0.mk hb
  have HN := Aside0.mk hn
  have HA := Aside0.mk ha
  have HB2 := Aside0.mk hb2
  have hnI : (n : Int) ≤ 4611686018427387904 := by omega
  have haI : (a : Int) ≤ 1000 := by omega
  have hbI : (b : Int) ≤ 1000 := by omega
  have hb0 : (0 : Int) < b := by omega
  clear hz hn ha hb hb2
  go_enter Try.func34, Try.ntmps34
  go_wp2_with fail
  go_loopg [7, 8, 9] 63 (fun gk v7 v8 v9 W => ∃ (wh re : Nat), v7 = .int .i64 (wh : Int) ∧ v8 = .int .i64 (re : Int) ∧ v9 = .int .i64 ((gk : Int) - 1) ∧ Aside0 (gk ≤ 63) ∧ Aside0 (wh * b + re = n / 2 ^ gk * a) ∧ Aside0 (re < b) ∧ Aside0 (wh < 4611686018427387904) ∧ W = w)
  case atStart => exact ⟨0, 0, rfl, rfl, rfl, ⟨by omega⟩, ⟨by have h := HN.out; rw [Nat.div_eq_of_lt (by omega)]; omega⟩, ⟨by have := HB1.out; omega⟩, ⟨by omega⟩, rfl⟩
  case round =>
    obtain ⟨wh, re, rfl, rfl, rfl, HG, HE, HR, HW, rfl⟩ := hrel
    by_cases hk : gk = 0
    · subst hk
      have hfin : z = wh := by
        have h := end_law HR.out HE.out
        rw [Nat.pow_zero, Nat.div_one] at h
        rw [HZ.out, scl, ← h]
        have := HW.out
        omega
      subst hfin
      go_wp2
      go_ret
      exact ⟨rfl, Below.refl _ _⟩
    · obtain ⟨k, rfl⟩ : ∃ k, gk = k + 1 := ⟨gk - 1, by omega⟩
      have hk0 : (0 : Int) ≤ (k : Int) := by omega
      have hk62 : (k : Int) ≤ 62 := by have := HG.out; omega
      have hki : ((k + 1 : Nat) : Int) - 1 = (k : Int) := by omega
      rw [hki]
      by_cases ht : 2305843009213693952 ≤ wh
      · have hz2 : z = 4611686018427387904 := by
          rw [HZ.out]
          have e := end_law HR.out HE.out
          have hm : 2 * (n / 2 ^ (k + 1)) ≤ n := by
            have h1 := Nat.div_mul_le_self n (2 ^ (k + 1))
            have h2 : 2 ≤ 2 ^ (k + 1) := by rw [Nat.pow_succ]; have := Nat.one_le_two_pow (n := k); omega
            have h3 := Nat.mul_le_mul_left (n / 2 ^ (k + 1)) h2
            omega
          exact half_top hm e ht
        have htI : (2305843009213693952 : Int) ≤ wh := by omega
        clear ht hk hki
        go_wp2
        go_ret
        exact ⟨by rw [hz2]; rfl, Below.refl _ _⟩
      · obtain ⟨m, t, f1, f2, f3, f4, f5⟩ := bit_facts n k
        have htI : (wh : Int) ≤ 2305843009213693951 := by omega
        have htd : decide ((2305843009213693952 : Int) ≤ wh) = false := decide_eq_false (by omega)
        have hreI : (re : Int) ≤ 1000 := by have := HR.out; have := HB2.out; omega
        have HRL := Aside0.mk (round_law HE.out f5 : 2 * wh * b + (2 * re + t * a) = m * a)
        have HM := Aside0.mk f2
        have HT := Aside0.mk f3
        clear f2 f3 f5 ht hk hki
        rcases HT.out with rfl | rfl
        · have hf4 : Go.bits .and .i64 (m : Int) 1 = 0 := f4
          clear f4
          go_wp2_with fail
          go_loopg [7, 8] (2 * re + 0 * a) (fun gj v7 v8 W => ∃ (wq rq : Nat), v7 = .int .i64 (wq : Int) ∧ v8 = .int .i64 (rq : Int) ∧ Aside0 (gj = rq) ∧ Aside0 (wq * b + rq = m * a) ∧ Aside0 (wq + rq ≤ 4611686018427390904) ∧ W = wr)
          case atStart => exact ⟨2 * wh, 2 * re + 0 * a, by first | rfl | (congr 1; push_cast; omega), by first | rfl | (congr 1; push_cast; omega), ⟨rfl⟩, HRL, ⟨by have h1 := HR.out; have h2 := HB2.out; have h3 := HA.out; omega⟩, rfl⟩
          case round =>
            obtain ⟨wq, rq, rfl, rfl, HJ, HEQ, HBD, rfl⟩ := hrel
            have hwq : (wq : Int) ≤ 4611686018427390904 := by have := HBD.out; omega
            have hrq : (rq : Int) ≤ 4611686018427390904 := by have := HBD.out; omega
            by_cases hge : b ≤ rq
            · have hgeI : (b : Int) ≤ rq := by omega
              have hsub : (rq : Int) - b = ((rq - b : Nat) : Int) := by omega
              go_wp2
              go_roundg (rq - b)
              case measure => have h1 := HJ.out; have h2 := HB1.out; omega
              case rel => exact ⟨wq + 1, rq - b, by first | rfl | (congr 1; omega), by first | rfl | (congr 1; omega), ⟨rfl⟩, ⟨by have h1 := HEQ.out; rw [Nat.add_mul, Nat.one_mul]; omega⟩, ⟨by have h1 := HBD.out; have h2 := HB1.out; omega⟩, rfl⟩
            · have hltI : (rq : Int) < b := by omega
              have hltd : decide ((b : Int) ≤ rq) = false := decide_eq_false (by omega)
              have he := end_law (by omega) HEQ.out
              by_cases htop : 4611686018427387904 ≤ wq
              · have hz2 : z = 4611686018427387904 := by
                  rw [HZ.out]
                  exact scl_top (m := m) (by rw [HM.out]; exact Nat.div_le_self _ _) (by rw [← he]; exact htop)
                have htI2 : (4611686018427387904 : Int) ≤ wq := by omega
                clear hge htop he
                go_wp2
                go_ret
                exact ⟨by rw [hz2]; rfl, Below.refl _ _⟩
              · have htI2 : (wq : Int) ≤ 4611686018427387903 := by omega
                have htd2 : decide ((4611686018427387904 : Int) ≤ wq) = false := decide_eq_false (by omega)
                have HLT := Aside0.mk (show rq < b by omega)
                have HLW := Aside0.mk (show wq < 4611686018427387904 by omega)
                clear hge htop he
                go_wp2
                go_roundg k
                case measure => omega
                case rel => exact ⟨wq, rq, rfl, rfl, rfl, ⟨by have := HG.out; omega⟩, ⟨by rw [← HM.out]; exact HEQ.out⟩, HLT, HLW, rfl⟩
        · have hf4 : Go.bits .and .i64 (m : Int) 1 = 1 := f4
          clear f4
          go_wp2_with fail
          go_loopg [7, 8] (2 * re + 1 * a) (fun gj v7 v8 W => ∃ (wq rq : Nat), v7 = .int .i64 (wq : Int) ∧ v8 = .int .i64 (rq : Int) ∧ Aside0 (gj = rq) ∧ Aside0 (wq * b + rq = m * a) ∧ Aside0 (wq + rq ≤ 4611686018427390904) ∧ W = wr)
          case atStart => exact ⟨2 * wh, 2 * re + 1 * a, by first | rfl | (congr 1; push_cast; omega), by first | rfl | (congr 1; push_cast; omega), ⟨rfl⟩, HRL, ⟨by have h1 := HR.out; have h2 := HB2.out; have h3 := HA.out; omega⟩, rfl⟩
          case round =>
            obtain ⟨wq, rq, rfl, rfl, HJ, HEQ, HBD, rfl⟩ := hrel
            have hwq : (wq : Int) ≤ 4611686018427390904 := by have := HBD.out; omega
            have hrq : (rq : Int) ≤ 4611686018427390904 := by have := HBD.out; omega
            by_cases hge : b ≤ rq
            · have hgeI : (b : Int) ≤ rq := by omega
              have hsub : (rq : Int) - b = ((rq - b : Nat) : Int) := by omega
              go_wp2
              go_roundg (rq - b)
              case measure => have h1 := HJ.out; have h2 := HB1.out; omega
              case rel => exact ⟨wq + 1, rq - b, by first | rfl | (congr 1; omega), by first | rfl | (congr 1; omega), ⟨rfl⟩, ⟨by have h1 := HEQ.out; rw [Nat.add_mul, Nat.one_mul]; omega⟩, ⟨by have h1 := HBD.out; have h2 := HB1.out; omega⟩, rfl⟩
            · have hltI : (rq : Int) < b := by omega
              have hltd : decide ((b : Int) ≤ rq) = false := decide_eq_false (by omega)
              have he := end_law (by omega) HEQ.out
              by_cases htop : 4611686018427387904 ≤ wq
              · have hz2 : z = 4611686018427387904 := by
                  rw [HZ.out]
                  exact scl_top (m := m) (by rw [HM.out]; exact Nat.div_le_self _ _) (by rw [← he]; exact htop)
                have htI2 : (4611686018427387904 : Int) ≤ wq := by omega
                clear hge htop he
                go_wp2
                go_ret
                exact ⟨by rw [hz2]; rfl, Below.refl _ _⟩
              · have htI2 : (wq : Int) ≤ 4611686018427387903 := by omega
                have htd2 : decide ((4611686018427387904 : Int) ≤ wq) = false := decide_eq_false (by omega)
                have HLT := Aside0.mk (show rq < b by omega)
                have HLW := Aside0.mk (show wq < 4611686018427387904 by omega)
                clear hge htop he
                go_wp2
                go_roundg k
                case measure => omega
                case rel => exact ⟨wq, rq, rfl, rfl, rfl, ⟨by have := HG.out; omega⟩, ⟨by rw [← HM.out]; exact HEQ.out⟩, HLT, HLW, rfl⟩
/-- The reference's player. -/
def QC (W : World) (g : Nat) (ev : Value) (st p q wl nx : Nat) (pz : Bool) : Prop := W.heap[g]? = some (.cells #[ev, .int .i64 st, .int .i64 p, .int .i64 q, .int .i64 wl, .int .i64 nx, .bool pz] 48 (0, 0))
set_option maxHeartbeats 1600000 in
set_option maxRecDepth 100000 in
theorem rnow_c (g : Nat) (ev : Value) (st p q wl nx : Nat) (pz : Bool) (w : World) (hk : QC w g ev st p q wl nx pz) (hf : Wide st p q wl) :
    Calls Try.prog 26 #[.pointer (some ⟨g, 0, none⟩)] w fun e w' => e = .returned (.int .i64 (nowN st p q wl : Int)) ∧ Below w.heap.size w w' := by
  have hu := Try.underlying48
  obtain ⟨f1, f2, f3, f4, f5, f6⟩ := hf
  have HSC := Aside0.mk (fun W => rscale_c wl p q f6 f3 f4 f5 W)
  have hsl := scl_le wl p q
  obtain ⟨z, hz⟩ : ∃ z, z = scl wl p q := ⟨_, rfl⟩
  have HN := Aside0.mk (show nowN st p q wl = min (st + z) 4611686018427387904 from by rw [nowN, hz])
  rw [← hz] at HSC hsl
  have h1 : (st : Int) ≤ 4611686018427387903 := by omega
  have h2 : (z : Int) ≤ 4611686018427387904 := by omega
  have c1 : w.drew.cell? ⟨g, 1, none⟩ = some (.int .i64 st) := (blk_cell (blk_drew hk) 1).trans rfl
  have c2 : w.drew.cell? ⟨g, 2, none⟩ = some (.int .i64 p) := (blk_cell (blk_drew hk) 2).trans rfl
  have c3 : w.drew.cell? ⟨g, 3, none⟩ = some (.int .i64 q) := (blk_cell (blk_drew hk) 3).trans rfl
  have c4 : w.drew.cell? ⟨g, 4, none⟩ = some (.int .i64 wl) := (blk_cell (blk_drew hk) 4).trans rfl
  have HK := Aside0.mk (show w.heap[g]? = some (.cells #[ev, .int .i64 st, .int .i64 p, .int .i64 q, .int .i64 wl, .int .i64 nx, .bool pz] 48 (0, 0)) from hk)
  have HB := Aside0.mk (below_drew (Below.refl w.heap.size w))
  clear f1 f2 f3 f4 f5 f6 hsl hz hk
  go_enter Try.func26, Try.ntmps26
  go_upto_region 1 with fail
  refine start_ (n := 14) (S := fun w' => w'.cell? ⟨g, 1, none⟩ = some (.int .i64 st) ∧ w'.cell? ⟨g, 2, none⟩ = some (.int .i64 p) ∧ w'.cell? ⟨g, 3, none⟩ = some (.int .i64 q) ∧ w'.cell? ⟨g, 4, none⟩ = some (.int .i64 wl)) (ds := []) #[false, false, false, false, false, false, false, false, false, false, false, false, false, false] (by kernel_rfl) rfl rfl ⟨c1, c2, c3, c4⟩ (fun hHeld => ?_)
  refine pure_ (i := 0) (N := some 4) (v := ?_) (a' := ?_) #[true, false, false, false, false, false, false, false, false, false, false, false, false, false] rfl rfl (by kernel_rfl) (fun _ _ _ h => h) (Or.inl ⟨by rfl, ?_⟩) ?_ ?_
  rotate_left
  · intro w'
    go_simp
    with_reducible rfl
  rotate_left
  · simp only [Act.put, List.setIfInBounds_toArray, List.set_cons_zero, List.set_cons_succ, i64_w, i32_w]
    rfl
  refine pure_ (i := 1) (N := some 5) (v := ?_) (a' := ?_) #[true, true, false, false, false, false, false, false, false, false, false, false, false, false] rfl rfl (by kernel_rfl) (fun _ _ _ h => h) (Or.inl ⟨by rfl, ?_⟩) ?_ ?_
  rotate_left
  · intro w'
    go_simp
    with_reducible rfl
  rotate_left
  · simp only [Act.put, List.setIfInBounds_toArray, List.set_cons_zero, List.set_cons_succ, i64_w, i32_w]
    rfl
  refine pure_ (i := 2) (N := some 6) (v := ?_) (a' := ?_) #[true, true, true, false, false, false, false, false, false, false, false, false, false, false] rfl rfl (by kernel_rfl) (fun _ _ _ h => h) (Or.inl ⟨by rfl, ?_⟩) ?_ ?_
  rotate_left
  · intro w'
    go_simp
    with_reducible rfl
  rotate_left
  · simp only [Act.put, List.setIfInBounds_toArray, List.set_cons_zero, List.set_cons_succ, i64_w, i32_w]
    rfl
  refine pure_ (i := 4) (N := some 8) (v := ?_) (a' := ?_) #[true, true, true, false, true, false, false, false, false, false, false, false, false, false] rfl rfl (by kernel_rfl) (fun _ _ _ h => h) (Or.inl ⟨by rfl, ?_⟩) ?_ ?_
  rotate_left
  · intro w'
    go_simp
    with_reducible rfl
  rotate_left
  · simp only [Act.put, List.setIfInBounds_toArray, List.set_cons_zero, List.set_cons_succ, i64_w, i32_w]
    rfl
  refine pure_ (i := 5) (N := some 9) (v := ?_) (a' := ?_) #[true, true, true, false, true, true, false, false, false, false, false, false, false, false] rfl rfl (by kernel_rfl) (fun _ _ _ h => h) (Or.inl ⟨by rfl, ?_⟩) ?_ ?_
  rotate_left
  · intro w'
    go_simp
    with_reducible rfl
  rotate_left
  · simp only [Act.put, List.setIfInBounds_toArray, List.set_cons_zero, List.set_cons_succ, i64_w, i32_w]
    rfl
  refine pure_ (i := 6) (N := some 10) (v := ?_) (a' := ?_) #[true, true, true, false, true, true, true, false, false, false, false, false, false, false] rfl rfl (by kernel_rfl) (fun _ _ _ h => h) (Or.inl ⟨by rfl, ?_⟩) ?_ ?_
  rotate_left
  · intro w'
    go_simp
    with_reducible rfl
  rotate_left
  · simp only [Act.put, List.setIfInBounds_toArray, List.set_cons_zero, List.set_cons_succ, i64_w, i32_w]
    rfl
  refine pure_ (i := 8) (N := some 12) (v := ?_) (a' := ?_) #[true, true, true, false, true, true, true, false, true, false, false, false, false, false] rfl rfl (by kernel_rfl) (fun _ _ _ h => h) (Or.inl ⟨by rfl, ?_⟩) ?_ ?_
  rotate_left
  · intro w'
    go_simp
    with_reducible rfl
  rotate_left
  · simp only [Act.put, List.setIfInBounds_toArray, List.set_cons_zero, List.set_cons_succ, i64_w, i32_w]
    rfl
  refine pure_ (i := 9) (N := some 13) (v := ?_) (a' := ?_) #[true, true, true, false, true, true, true, false, true, true, false, false, false, false] rfl rfl (by kernel_rfl) (fun _ _ _ h => h) (Or.inl ⟨by rfl, ?_⟩) ?_ ?_
  rotate_left
  · intro w'
    go_simp
    with_reducible rfl
  rotate_left
  · simp only [Act.put, List.setIfInBounds_toArray, List.set_cons_zero, List.set_cons_succ, i64_w, i32_w]
    rfl
  refine pure_ (i := 10) (N := some 14) (v := ?_) (a' := ?_) #[true, true, true, false, true, true, true, false, true, true, true, false, false, false] rfl rfl (by kernel_rfl) (fun _ _ _ h => h) (Or.inl ⟨by rfl, ?_⟩) ?_ ?_
  rotate_left
  · intro w'
    go_simp
    with_reducible rfl
  rotate_left
  · simp only [Act.put, List.setIfInBounds_toArray, List.set_cons_zero, List.set_cons_succ, i64_w, i32_w]
    rfl
  refine take_ (i := 3) (N := some 7) (v := ?_) (a' := ?_) #[true, true, true, true, true, true, true, false, true, true, true, false, false, false] rfl rfl (by kernel_rfl) (fun _ _ _ h => h) (Or.inl ⟨by rfl, ?_⟩) hHeld ?_ ?_
  rotate_left
  · rintro w' ⟨s0, s1, s2, s3⟩
    go_simp
    with_reducible rfl
  rotate_left
  · simp only [Act.put, List.setIfInBounds_toArray, List.set_cons_zero, List.set_cons_succ, i64_w, i32_w]
    rfl
  refine take_ (i := 7) (N := some 11) (v := ?_) (a' := ?_) #[true, true, true, true, true, true, true, true, true, true, true, false, false, false] rfl rfl (by kernel_rfl) (fun _ _ _ h => h) (Or.inl ⟨by rfl, ?_⟩) hHeld ?_ ?_
  rotate_left
  · rintro w' ⟨s0, s1, s2, s3⟩
    go_simp
    with_reducible rfl
  rotate_left
  · simp only [Act.put, List.setIfInBounds_toArray, List.set_cons_zero, List.set_cons_succ, i64_w, i32_w]
    rfl
  refine take_ (i := 11) (N := some 15) (v := ?_) (a' := ?_) #[true, true, true, true, true, true, true, true, true, true, true, true, false, false] rfl rfl (by kernel_rfl) (fun _ _ _ h => h) (Or.inl ⟨by rfl, ?_⟩) hHeld ?_ ?_
  rotate_left
  · rintro w' ⟨s0, s1, s2, s3⟩
    go_simp
    with_reducible rfl
  rotate_left
  · simp only [Act.put, List.setIfInBounds_toArray, List.set_cons_zero, List.set_cons_succ, i64_w, i32_w]
    rfl
  refine one_ (i := 12) (N := some 16) #[true, true, true, true, true, true, true, true, true, true, true, true, true, false] rfl rfl (by kernel_rfl) (by decide) (fun K hK => ?_)
  refine goes_ Try.func34 (by kernel_rfl) rfl #[.int .i64 wl, .int .i64 p, .int .i64 q] (by rfl) rfl rfl (by simp only [List.map_toArray, List.map_cons, List.map_nil]; rfl) ?_
  with_reducible refine (HSC.out _).mono ?_
  rintro e w3 ⟨rfl, hb3⟩
  refine ⟨_, rfl, ?_⟩
  have HB3 := Aside0.mk (below_kept HB.out hb3)
  have HK3 := Aside0.mk (blk_below (blk_drew HK.out) hb3)
  clear hb3
  have d1 := (blk_cell HK3.out 1).trans (rfl : _ = some (Value.int .i64 st))
  have d2 := (blk_cell HK3.out 2).trans (rfl : _ = some (Value.int .i64 p))
  have d3 := (blk_cell HK3.out 3).trans (rfl : _ = some (Value.int .i64 q))
  have d4 := (blk_cell HK3.out 4).trans (rfl : _ = some (Value.int .i64 wl))
  refine hK.out _ _ ⟨d1, d2, d3, d4⟩ (fun hHeld => ?_)
  clear hK K
  refine norm_ (a' := ?_) ?_ ?_
  rotate_left
  · show Act.put _ (some 16) _ = _
    simp only [Act.put, List.setIfInBounds_toArray, List.set_cons_zero, List.set_cons_succ, i64_w, i32_w]
    rfl
  refine pure_ (i := 13) (N := some 3) (v := ?_) (a' := ?_) #[true, true, true, true, true, true, true, true, true, true, true, true, true, true] rfl rfl (by kernel_rfl) (fun _ _ _ h => h) (Or.inl ⟨by rfl, ?_⟩) ?_ ?_
  rotate_left
  · intro w'
    go_simp
    with_reducible rfl
  rotate_left
  · simp only [Act.put, List.setIfInBounds_toArray, List.set_cons_zero, List.set_cons_succ, i64_w, i32_w]
    rfl
  refine done_ (by kernel_rfl) ?_
  clear c1 c2 c3 c4
  by_cases hbig : (z : Int) ≤ 4611686018427387904 - st
  · have hlt : decide ((4611686018427387904 : Int) - st < z) = false := decide_eq_false (by omega)
    go_wp2
    go_ret
    exact ⟨by rw [HN.out, Nat.min_eq_left (by omega), Int.natCast_add]; rfl, HB3.out⟩
  · have hlt : (4611686018427387904 : Int) - st < z := by omega
    clear hbig
    go_wp2
    go_ret
    exact ⟨by rw [HN.out, Nat.min_eq_right (by omega)]; rfl, HB3.out⟩
end Go.Proofs.Ytmongghhagbokaa.PlRef
