/- play.Player's Now, Left, Paused, and play.speed, as contracts. -/
import Derived.Test.YtmongghhagbokaaPlScale
import Derived.Test.YtmongghhagbokaaEvUntil
namespace Go.Proofs.Ytmongghhagbokaa.PlNow
open Go.RowKit Go.Proofs.Ytmongghhagbokaa.Kit Go.Proofs.Ytmongghhagbokaa.Plain Go.Proofs.Ytmongghhagbokaa.Mine Go.Proofs.Ytmongghhagbokaa.PlScale Go.Proofs.YtmongghhagbokaaW.PrintWords Go.Proofs.YtmongghhagbokaaW.PrintLast Go.Proofs.YtmongghhagbokaaW.PrintMore
set_option linter.unusedVariables false
set_option linter.unusedSimpArgs false
/-- A player's block: its events, beginning, speed, wall time, how many are told, whether it is paused. -/
def PC (W : World) (g : Nat) (ev : Value) (st p q wl nx : Nat) (pz : Bool) : Prop := W.heap[g]? = some (.cells #[ev, .int .i64 st, .int .i64 p, .int .i64 q, .int .i64 wl, .int .i64 nx, .bool pz] 57 (0, 0))
def nowN (st p q wl : Nat) : Nat := min (st + scl wl p q) 4611686018427387904
/-- A speed, and a wall time, that don't go beyond 64 bits. -/
def Fine (st p q wl : Nat) : Prop := st < 4611686018427387904 ∧ 1 ≤ p ∧ p ≤ 1000 ∧ 1 ≤ q ∧ q ≤ 1000 ∧ wl ≤ 4611686018427387904 ∧ wl * p < 18446744073709551616
theorem scl_le (n p q : Nat) : scl n p q ≤ 4611686018427387904 := Nat.min_le_right _ _
set_option maxHeartbeats 1600000 in
set_option maxRecDepth 100000 in
theorem now_c (g : Nat) (ev : Value) (st p q wl nx : Nat) (pz : Bool) (w : World) (hk : PC w g ev st p q wl nx pz) (hf : Fine st p q wl) :
    Calls Try.prog 13 #[.pointer (some ⟨g, 0, none⟩)] w fun e w' => e = .returned (.int .i64 (nowN st p q wl : Int)) ∧ Below w.heap.size w w' := by
  have hu := Try.underlying57
  obtain ⟨f1, f2, f3, f4, f5, f6, f7⟩ := hf
  have HSC := Aside0.mk (fun W => scale_c wl p q f6 f3 f4 f5 f7 W)
  have hsl := scl_le wl p q
  obtain ⟨z, hz⟩ : ∃ z, z = scl wl p q := ⟨_, rfl⟩
  have HN := Aside0.mk (show nowN st p q wl = min (st + z) 4611686018427387904 from by rw [nowN, hz])
  rw [← hz] at HSC hsl
  have h1 : (st : Int) ≤ 4611686018427387903 := by omega
  have h2 : (z : Int) ≤ 4611686018427387904 := by omega
  have hwz : wrap64 ((st : Int) + z) = (st : Int) + z := by unfold wrap64; omega
  have c1 : w.drew.cell? ⟨g, 1, none⟩ = some (.int .i64 st) := (blk_cell (blk_drew hk) 1).trans rfl
  have c2 : w.drew.cell? ⟨g, 2, none⟩ = some (.int .i64 p) := (blk_cell (blk_drew hk) 2).trans rfl
  have c3 : w.drew.cell? ⟨g, 3, none⟩ = some (.int .i64 q) := (blk_cell (blk_drew hk) 3).trans rfl
  have c4 : w.drew.cell? ⟨g, 4, none⟩ = some (.int .i64 wl) := (blk_cell (blk_drew hk) 4).trans rfl
  have HK := Aside0.mk (show w.heap[g]? = some (.cells #[ev, .int .i64 st, .int .i64 p, .int .i64 q, .int .i64 wl, .int .i64 nx, .bool pz] 57 (0, 0)) from hk)
  have HB := Aside0.mk (below_drew (Below.refl w.heap.size w))
  clear f1 f2 f3 f4 f5 f6 f7 hsl hz hk
  go_enter Try.func13, Try.ntmps13
  go_upto_region 1 with fail
  refine start_ (n := 20) (S := fun w' => w'.cell? ⟨g, 1, none⟩ = some (.int .i64 st) ∧ w'.cell? ⟨g, 2, none⟩ = some (.int .i64 p) ∧ w'.cell? ⟨g, 3, none⟩ = some (.int .i64 q) ∧ w'.cell? ⟨g, 4, none⟩ = some (.int .i64 wl)) (ds := []) #[false, false, false, false, false, false, false, false, false, false, false, false, false, false, false, false, false, false, false, false] (by kernel_rfl) rfl rfl ⟨c1, c2, c3, c4⟩ (fun hHeld => ?_)
  refine pure_ (i := 0) (N := some 3) (v := ?_) (a' := ?_) #[true, false, false, false, false, false, false, false, false, false, false, false, false, false, false, false, false, false, false, false] rfl rfl (by kernel_rfl) (fun _ _ _ h => h) (Or.inl ⟨by rfl, ?_⟩) ?_ ?_
  rotate_left
  · intro w'
    go_simp
    with_reducible rfl
  rotate_left
  · simp only [Act.put, List.setIfInBounds_toArray, List.set_cons_zero, List.set_cons_succ, i64_w, i32_w]
    rfl
  refine pure_ (i := 1) (N := some 4) (v := ?_) (a' := ?_) #[true, true, false, false, false, false, false, false, false, false, false, false, false, false, false, false, false, false, false, false] rfl rfl (by kernel_rfl) (fun _ _ _ h => h) (Or.inl ⟨by rfl, ?_⟩) ?_ ?_
  rotate_left
  · intro w'
    go_simp
    with_reducible rfl
  rotate_left
  · simp only [Act.put, List.setIfInBounds_toArray, List.set_cons_zero, List.set_cons_succ, i64_w, i32_w]
    rfl
  refine pure_ (i := 2) (N := some 5) (v := ?_) (a' := ?_) #[true, true, true, false, false, false, false, false, false, false, false, false, false, false, false, false, false, false, false, false] rfl rfl (by kernel_rfl) (fun _ _ _ h => h) (Or.inl ⟨by rfl, ?_⟩) ?_ ?_
  rotate_left
  · intro w'
    go_simp
    with_reducible rfl
  rotate_left
  · simp only [Act.put, List.setIfInBounds_toArray, List.set_cons_zero, List.set_cons_succ, i64_w, i32_w]
    rfl
  refine pure_ (i := 4) (N := some 7) (v := ?_) (a' := ?_) #[true, true, true, false, true, false, false, false, false, false, false, false, false, false, false, false, false, false, false, false] rfl rfl (by kernel_rfl) (fun _ _ _ h => h) (Or.inl ⟨by rfl, ?_⟩) ?_ ?_
  rotate_left
  · intro w'
    go_simp
    with_reducible rfl
  rotate_left
  · simp only [Act.put, List.setIfInBounds_toArray, List.set_cons_zero, List.set_cons_succ, i64_w, i32_w]
    rfl
  refine pure_ (i := 5) (N := some 8) (v := ?_) (a' := ?_) #[true, true, true, false, true, true, false, false, false, false, false, false, false, false, false, false, false, false, false, false] rfl rfl (by kernel_rfl) (fun _ _ _ h => h) (Or.inl ⟨by rfl, ?_⟩) ?_ ?_
  rotate_left
  · intro w'
    go_simp
    with_reducible rfl
  rotate_left
  · simp only [Act.put, List.setIfInBounds_toArray, List.set_cons_zero, List.set_cons_succ, i64_w, i32_w]
    rfl
  refine pure_ (i := 6) (N := some 9) (v := ?_) (a' := ?_) #[true, true, true, false, true, true, true, false, false, false, false, false, false, false, false, false, false, false, false, false] rfl rfl (by kernel_rfl) (fun _ _ _ h => h) (Or.inl ⟨by rfl, ?_⟩) ?_ ?_
  rotate_left
  · intro w'
    go_simp
    with_reducible rfl
  rotate_left
  · simp only [Act.put, List.setIfInBounds_toArray, List.set_cons_zero, List.set_cons_succ, i64_w, i32_w]
    rfl
  refine pure_ (i := 8) (N := some 11) (v := ?_) (a' := ?_) #[true, true, true, false, true, true, true, false, true, false, false, false, false, false, false, false, false, false, false, false] rfl rfl (by kernel_rfl) (fun _ _ _ h => h) (Or.inl ⟨by rfl, ?_⟩) ?_ ?_
  rotate_left
  · intro w'
    go_simp
    with_reducible rfl
  rotate_left
  · simp only [Act.put, List.setIfInBounds_toArray, List.set_cons_zero, List.set_cons_succ, i64_w, i32_w]
    rfl
  refine pure_ (i := 9) (N := some 12) (v := ?_) (a' := ?_) #[true, true, true, false, true, true, true, false, true, true, false, false, false, false, false, false, false, false, false, false] rfl rfl (by kernel_rfl) (fun _ _ _ h => h) (Or.inl ⟨by rfl, ?_⟩) ?_ ?_
  rotate_left
  · intro w'
    go_simp
    with_reducible rfl
  rotate_left
  · simp only [Act.put, List.setIfInBounds_toArray, List.set_cons_zero, List.set_cons_succ, i64_w, i32_w]
    rfl
  refine pure_ (i := 10) (N := some 13) (v := ?_) (a' := ?_) #[true, true, true, false, true, true, true, false, true, true, true, false, false, false, false, false, false, false, false, false] rfl rfl (by kernel_rfl) (fun _ _ _ h => h) (Or.inl ⟨by rfl, ?_⟩) ?_ ?_
  rotate_left
  · intro w'
    go_simp
    with_reducible rfl
  rotate_left
  · simp only [Act.put, List.setIfInBounds_toArray, List.set_cons_zero, List.set_cons_succ, i64_w, i32_w]
    rfl
  refine pure_ (i := 12) (N := some 15) (v := ?_) (a' := ?_) #[true, true, true, false, true, true, true, false, true, true, true, false, true, false, false, false, false, false, false, false] rfl rfl (by kernel_rfl) (fun _ _ _ h => h) (Or.inl ⟨by rfl, ?_⟩) ?_ ?_
  rotate_left
  · intro w'
    go_simp
    with_reducible rfl
  rotate_left
  · simp only [Act.put, List.setIfInBounds_toArray, List.set_cons_zero, List.set_cons_succ, i64_w, i32_w]
    rfl
  refine pure_ (i := 13) (N := some 16) (v := ?_) (a' := ?_) #[true, true, true, false, true, true, true, false, true, true, true, false, true, true, false, false, false, false, false, false] rfl rfl (by kernel_rfl) (fun _ _ _ h => h) (Or.inl ⟨by rfl, ?_⟩) ?_ ?_
  rotate_left
  · intro w'
    go_simp
    with_reducible rfl
  rotate_left
  · simp only [Act.put, List.setIfInBounds_toArray, List.set_cons_zero, List.set_cons_succ, i64_w, i32_w]
    rfl
  refine pure_ (i := 14) (N := some 17) (v := ?_) (a' := ?_) #[true, true, true, false, true, true, true, false, true, true, true, false, true, true, true, false, false, false, false, false] rfl rfl (by kernel_rfl) (fun _ _ _ h => h) (Or.inl ⟨by rfl, ?_⟩) ?_ ?_
  rotate_left
  · intro w'
    go_simp
    with_reducible rfl
  rotate_left
  · simp only [Act.put, List.setIfInBounds_toArray, List.set_cons_zero, List.set_cons_succ, i64_w, i32_w]
    rfl
  refine take_ (i := 3) (N := some 6) (v := ?_) (a' := ?_) #[true, true, true, true, true, true, true, false, true, true, true, false, true, true, true, false, false, false, false, false] rfl rfl (by kernel_rfl) (fun _ _ _ h => h) (Or.inl ⟨by rfl, ?_⟩) hHeld ?_ ?_
  rotate_left
  · rintro w' ⟨s0, s1, s2, s3⟩
    go_simp
    with_reducible rfl
  rotate_left
  · simp only [Act.put, List.setIfInBounds_toArray, List.set_cons_zero, List.set_cons_succ, i64_w, i32_w]
    rfl
  refine take_ (i := 7) (N := some 10) (v := ?_) (a' := ?_) #[true, true, true, true, true, true, true, true, true, true, true, false, true, true, true, false, false, false, false, false] rfl rfl (by kernel_rfl) (fun _ _ _ h => h) (Or.inl ⟨by rfl, ?_⟩) hHeld ?_ ?_
  rotate_left
  · rintro w' ⟨s0, s1, s2, s3⟩
    go_simp
    with_reducible rfl
  rotate_left
  · simp only [Act.put, List.setIfInBounds_toArray, List.set_cons_zero, List.set_cons_succ, i64_w, i32_w]
    rfl
  refine take_ (i := 11) (N := some 14) (v := ?_) (a' := ?_) #[true, true, true, true, true, true, true, true, true, true, true, true, true, true, true, false, false, false, false, false] rfl rfl (by kernel_rfl) (fun _ _ _ h => h) (Or.inl ⟨by rfl, ?_⟩) hHeld ?_ ?_
  rotate_left
  · rintro w' ⟨s0, s1, s2, s3⟩
    go_simp
    with_reducible rfl
  rotate_left
  · simp only [Act.put, List.setIfInBounds_toArray, List.set_cons_zero, List.set_cons_succ, i64_w, i32_w]
    rfl
  refine take_ (i := 15) (N := some 18) (v := ?_) (a' := ?_) #[true, true, true, true, true, true, true, true, true, true, true, true, true, true, true, true, false, false, false, false] rfl rfl (by kernel_rfl) (fun _ _ _ h => h) (Or.inl ⟨by rfl, ?_⟩) hHeld ?_ ?_
  rotate_left
  · rintro w' ⟨s0, s1, s2, s3⟩
    go_simp
    with_reducible rfl
  rotate_left
  · simp only [Act.put, List.setIfInBounds_toArray, List.set_cons_zero, List.set_cons_succ, i64_w, i32_w]
    rfl
  refine one_ (i := 16) (N := some 19) #[true, true, true, true, true, true, true, true, true, true, true, true, true, true, true, true, true, false, false, false] rfl rfl (by kernel_rfl) (by decide) (fun K hK => ?_)
  refine goes_ Try.func31 (by kernel_rfl) rfl #[.int .i64 wl, .int .i64 p, .int .i64 q] (by rfl) rfl rfl (by simp only [List.map_toArray, List.map_cons, List.map_nil]; rfl) ?_
  with_reducible refine (HSC.out _).mono ?_
  rintro e w3 ⟨rfl, hb3⟩
  refine ⟨_, rfl, ?_⟩
  have HB3 := Aside0.mk (below_kept HB.out hb3)
  have HK3 := Aside0.mk (blk_below (blk_drew HK.out) hb3)
  clear hb3
  have d1 := (blk_cell HK3.out 1).trans (rfl : _ = some (Value.int .i64 st))
  have d2 := (blk_cell HK3.out 2).trans (rfl : _ = some (Value.int .i64 p))
  have d3 := (blk_cell HK3.out 3).trans (rfl : _ = some (Value.int .i64 q))
  have d4 := (blk_cell HK3.out 4).trans (rfl : _ = some (Value.int .i64 wl))
  refine hK.out _ _ ⟨d1, d2, d3, d4⟩ (fun hHeld => ?_)
  clear hK K
  refine norm_ (a' := ?_) ?_ ?_
  rotate_left
  · show Act.put _ (some 19) _ = _
    simp only [Act.put, List.setIfInBounds_toArray, List.set_cons_zero, List.set_cons_succ, i64_w, i32_w]
    rfl
  refine pure_ (i := 17) (N := some 20) (v := ?_) (a' := ?_) #[true, true, true, true, true, true, true, true, true, true, true, true, true, true, true, true, true, true, false, false] rfl rfl (by kernel_rfl) (fun _ _ _ h => h) (Or.inl ⟨by rfl, ?_⟩) ?_ ?_
  rotate_left
  · intro w'
    go_simp
    with_reducible rfl
  rotate_left
  · simp only [Act.put, List.setIfInBounds_toArray, List.set_cons_zero, List.set_cons_succ, i64_w, i32_w]
    rfl
  refine pure_ (i := 18) (N := some 21) (v := ?_) (a' := ?_) #[true, true, true, true, true, true, true, true, true, true, true, true, true, true, true, true, true, true, true, false] rfl rfl (by kernel_rfl) (fun _ _ _ h => h) (Or.inl ⟨by rfl, ?_⟩) ?_ ?_
  rotate_left
  · intro w'
    go_simp
    with_reducible rfl
  rotate_left
  · simp only [Act.put, List.setIfInBounds_toArray, List.set_cons_zero, List.set_cons_succ, i64_w, i32_w]
    rfl
  refine pure_ (i := 19) (N := some 2) (v := ?_) (a' := ?_) #[true, true, true, true, true, true, true, true, true, true, true, true, true, true, true, true, true, true, true, true] rfl rfl (by kernel_rfl) (fun _ _ _ h => h) (Or.inl ⟨by rfl, ?_⟩) ?_ ?_
  rotate_left
  · intro w'
    go_simp
    with_reducible rfl
  rotate_left
  · simp only [Act.put, List.setIfInBounds_toArray, List.set_cons_zero, List.set_cons_succ, i64_w, i32_w]
    rfl
  refine done_ (by kernel_rfl) ?_
  go_wp2
  all_goals
    go_ret
    refine ⟨?_, HB3.out⟩
    rw [HN.out]
    first
      | (rw [Nat.min_eq_left (by omega), Int.natCast_add]; rfl)
      | (rw [Nat.min_eq_right (by omega)]; rfl)
set_option maxHeartbeats 800000 in
set_option maxRecDepth 100000 in
theorem left_c (g : Nat) (A : Option Addr) (n c : Nat) (st p q wl nx : Nat) (pz : Bool) (w : World) (hk : PC w g (.slice A n c) st p q wl nx pz) (hn : nx ≤ n) (hn2 : n < 1000000000) :
    Calls Try.prog 14 #[.pointer (some ⟨g, 0, none⟩)] w fun e w' => e = .returned (.int .i64 ((n - nx : Nat) : Int)) ∧ Below w.heap.size w w' := by
  have hu := Try.underlying57
  have h1 : (n : Int) < 1000000000 := by omega
  have h2 : (nx : Int) ≤ n := by omega
  have hd : (n : Int) - nx = ((n - nx : Nat) : Int) := by omega
  have hw : wrap64 ((n : Int) - nx) = ((n - nx : Nat) : Int) := by unfold wrap64; omega
  have c0 : w.drew.cell? ⟨g, 0, none⟩ = some (.slice A n c) := (blk_cell (blk_drew hk) 0).trans rfl
  have c5 : w.drew.cell? ⟨g, 5, none⟩ = some (.int .i64 nx) := (blk_cell (blk_drew hk) 5).trans rfl
  have HB := Aside0.mk (below_drew (Below.refl w.heap.size w))
  clear hk hn hn2 hd
  go_enter Try.func14, Try.ntmps14
  go_upto_region 1 with fail
  refine start_ (n := 11) (S := fun w' => w'.cell? ⟨g, 0, none⟩ = some (.slice A n c) ∧ w'.cell? ⟨g, 5, none⟩ = some (.int .i64 nx)) (ds := []) #[false, false, false, false, false, false, false, false, false, false, false] (by kernel_rfl) rfl rfl ⟨c0, c5⟩ (fun hHeld => ?_)
  refine pure_ (i := 0) (N := some 3) (v := ?_) (a' := ?_) #[true, false, false, false, false, false, false, false, false, false, false] rfl rfl (by kernel_rfl) (fun _ _ _ h => h) (Or.inl ⟨by rfl, ?_⟩) ?_ ?_
  rotate_left
  · intro w'
    go_simp
    with_reducible rfl
  rotate_left
  · simp only [Act.put, List.setIfInBounds_toArray, List.set_cons_zero, List.set_cons_succ, i64_w, i32_w]
    rfl
  refine pure_ (i := 1) (N := some 4) (v := ?_) (a' := ?_) #[true, true, false, false, false, false, false, false, false, false, false] rfl rfl (by kernel_rfl) (fun _ _ _ h => h) (Or.inl ⟨by rfl, ?_⟩) ?_ ?_
  rotate_left
  · intro w'
    go_simp
    with_reducible rfl
  rotate_left
  · simp only [Act.put, List.setIfInBounds_toArray, List.set_cons_zero, List.set_cons_succ, i64_w, i32_w]
    rfl
  refine pure_ (i := 2) (N := some 5) (v := ?_) (a' := ?_) #[true, true, true, false, false, false, false, false, false, false, false] rfl rfl (by kernel_rfl) (fun _ _ _ h => h) (Or.inl ⟨by rfl, ?_⟩) ?_ ?_
  rotate_left
  · intro w'
    go_simp
    with_reducible rfl
  rotate_left
  · simp only [Act.put, List.setIfInBounds_toArray, List.set_cons_zero, List.set_cons_succ, i64_w, i32_w]
    rfl
  refine pure_ (i := 5) (N := some 8) (v := ?_) (a' := ?_) #[true, true, true, false, false, true, false, false, false, false, false] rfl rfl (by kernel_rfl) (fun _ _ _ h => h) (Or.inl ⟨by rfl, ?_⟩) ?_ ?_
  rotate_left
  · intro w'
    go_simp
    with_reducible rfl
  rotate_left
  · simp only [Act.put, List.setIfInBounds_toArray, List.set_cons_zero, List.set_cons_succ, i64_w, i32_w]
    rfl
  refine pure_ (i := 6) (N := some 9) (v := ?_) (a' := ?_) #[true, true, true, false, false, true, true, false, false, false, false] rfl rfl (by kernel_rfl) (fun _ _ _ h => h) (Or.inl ⟨by rfl, ?_⟩) ?_ ?_
  rotate_left
  · intro w'
    go_simp
    with_reducible rfl
  rotate_left
  · simp only [Act.put, List.setIfInBounds_toArray, List.set_cons_zero, List.set_cons_succ, i64_w, i32_w]
    rfl
  refine pure_ (i := 7) (N := some 10) (v := ?_) (a' := ?_) #[true, true, true, false, false, true, true, true, false, false, false] rfl rfl (by kernel_rfl) (fun _ _ _ h => h) (Or.inl ⟨by rfl, ?_⟩) ?_ ?_
  rotate_left
  · intro w'
    go_simp
    with_reducible rfl
  rotate_left
  · simp only [Act.put, List.setIfInBounds_toArray, List.set_cons_zero, List.set_cons_succ, i64_w, i32_w]
    rfl
  refine take_ (i := 3) (N := some 6) (v := ?_) (a' := ?_) #[true, true, true, true, false, true, true, true, false, false, false] rfl rfl (by kernel_rfl) (fun _ _ _ h => h) (Or.inl ⟨by rfl, ?_⟩) hHeld ?_ ?_
  rotate_left
  · rintro w' ⟨s0, s1⟩
    go_simp
    with_reducible rfl
  rotate_left
  · simp only [Act.put, List.setIfInBounds_toArray, List.set_cons_zero, List.set_cons_succ, i64_w, i32_w]
    rfl
  refine pure_ (i := 4) (N := some 7) (v := ?_) (a' := ?_) #[true, true, true, true, true, true, true, true, false, false, false] rfl rfl (by kernel_rfl) (fun _ _ _ h => h) (Or.inl ⟨by rfl, ?_⟩) ?_ ?_
  rotate_left
  · intro w'
    go_simp
    with_reducible rfl
  rotate_left
  · simp only [Act.put, List.setIfInBounds_toArray, List.set_cons_zero, List.set_cons_succ, i64_w, i32_w]
    rfl
  refine take_ (i := 8) (N := some 11) (v := ?_) (a' := ?_) #[true, true, true, true, true, true, true, true, true, false, false] rfl rfl (by kernel_rfl) (fun _ _ _ h => h) (Or.inl ⟨by rfl, ?_⟩) hHeld ?_ ?_
  rotate_left
  · rintro w' ⟨s0, s1⟩
    go_simp
    with_reducible rfl
  rotate_left
  · simp only [Act.put, List.setIfInBounds_toArray, List.set_cons_zero, List.set_cons_succ, i64_w, i32_w]
    rfl
  refine pure_ (i := 9) (N := some 12) (v := ?_) (a' := ?_) #[true, true, true, true, true, true, true, true, true, true, false] rfl rfl (by kernel_rfl) (fun _ _ _ h => h) (Or.inl ⟨by rfl, ?_⟩) ?_ ?_
  rotate_left
  · intro w'
    go_simp
    with_reducible rfl
  rotate_left
  · simp only [Act.put, List.setIfInBounds_toArray, List.set_cons_zero, List.set_cons_succ, i64_w, i32_w]
    rfl
  refine pure_ (i := 10) (N := some 2) (v := ?_) (a' := ?_) #[true, true, true, true, true, true, true, true, true, true, true] rfl rfl (by kernel_rfl) (fun _ _ _ h => h) (Or.inl ⟨by rfl, ?_⟩) ?_ ?_
  rotate_left
  · intro w'
    go_simp
    with_reducible rfl
  rotate_left
  · simp only [Act.put, List.setIfInBounds_toArray, List.set_cons_zero, List.set_cons_succ, i64_w, i32_w]
    rfl
  refine done_ (by kernel_rfl) ?_
  go_wp2
  go_ret
  exact ⟨by first | rfl | (rw [← hw]; rfl), HB.out⟩
set_option maxHeartbeats 800000 in
set_option maxRecDepth 100000 in
theorem paused_c (g : Nat) (ev : Value) (st p q wl nx : Nat) (pz : Bool) (w : World) (hk : PC w g ev st p q wl nx pz) :
    Calls Try.prog 19 #[.pointer (some ⟨g, 0, none⟩)] w fun e w' => e = .returned (.bool pz) ∧ Below w.heap.size w w' := by
  have hu := Try.underlying57
  have c6 : w.cell? ⟨g, 6, none⟩ = some (.bool pz) := (blk_cell hk 6).trans rfl
  clear hk
  go_enter Try.func19, Try.ntmps19
  go_wp2
  go_ret
  exact ⟨rfl, Below.refl _ _⟩
/-- May it be a speed? -/
def speedB (a b : Int) : Bool := decide (1 ≤ a ∧ a ≤ 1000 ∧ 1 ≤ b ∧ b ≤ 1000)
set_option maxHeartbeats 1600000 in
set_option maxRecDepth 100000 in
theorem speed_c (a b : Int) (w : World) : Calls Try.prog 27 #[.int .i64 a, .int .i64 b] w fun e w' => e = .returned (.bool (speedB a b)) ∧ Below w.heap.size w w' := by
  rcases (show a < 1 ∨ (1 ≤ a ∧ b < 1) ∨ (1 ≤ a ∧ 1 ≤ b ∧ 1000 < a) ∨ (1 ≤ a ∧ 1 ≤ b ∧ a ≤ 1000 ∧ 1000 < b) ∨ (1 ≤ a ∧ 1 ≤ b ∧ a ≤ 1000 ∧ b ≤ 1000) by omega) with h | ⟨h, h2⟩ | ⟨h, h2, h3⟩ | ⟨h, h2, h3, h4⟩ | ⟨h, h2, h3, h4⟩
  all_goals
    first
      | (have e : speedB a b = true := decide_eq_true (by omega)
         have E := Aside0.mk e)
      | (have e : speedB a b = false := decide_eq_false (by omega)
         have E := Aside0.mk e)
    clear e
    go_enter Try.func27, Try.ntmps27
    go_wp2
    go_ret
    exact ⟨by rw [E.out]; first | rfl | simp; omega, Below.refl _ _⟩
set_option maxHeartbeats 1600000 in
set_option maxRecDepth 100000 in
theorem rspeed_c (a b : Int) (w : World) : Calls Try.prog 18 #[.int .i64 a, .int .i64 b] w fun e w' => e = .returned (.bool (speedB a b)) ∧ Below w.heap.size w w' := by
  rcases (show a ≤ 0 ∨ (0 < a ∧ 1001 ≤ a) ∨ (0 < a ∧ a < 1001 ∧ b ≤ 0) ∨ (0 < a ∧ a < 1001 ∧ 0 < b ∧ 1001 ≤ b) ∨ (0 < a ∧ a < 1001 ∧ 0 < b ∧ b < 1001) by omega) with h | ⟨h, h2⟩ | ⟨h, h2, h3⟩ | ⟨h, h2, h3, h4⟩ | ⟨h, h2, h3, h4⟩
  all_goals
    first
      | (have e : speedB a b = true := decide_eq_true (by omega)
         have E := Aside0.mk e)
      | (have e : speedB a b = false := decide_eq_false (by omega)
         have E := Aside0.mk e)
    clear e
    go_enter Try.func18, Try.ntmps18
    go_wp2
    go_ret
    exact ⟨by rw [E.out]; first | rfl | simp; omega, Below.refl _ _⟩
end Go.Proofs.Ytmongghhagbokaa.PlNow
