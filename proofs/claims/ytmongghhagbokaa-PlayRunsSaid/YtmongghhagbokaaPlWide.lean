/- play.Player's functions without a bound on the product of the wall time and the speed, as contracts. -/
import Derived.Test.YtmongghhagbokaaPlDiv
import Derived.Test.YtmongghhagbokaaPlPause
namespace Go.Proofs.Ytmongghhagbokaa.PlWide
open Go.RowKit Go.Proofs.Ytmongghhagbokaa.Kit Go.Proofs.Ytmongghhagbokaa.Plain Go.Proofs.Ytmongghhagbokaa.Mine Go.Proofs.Ytmongghhagbokaa.Event Go.Proofs.Ytmongghhagbokaa.EventRef Go.Proofs.Ytmongghhagbokaa.EventList Go.Proofs.Ytmongghhagbokaa.EvUntil Go.Proofs.Ytmongghhagbokaa.PlScale Go.Proofs.Ytmongghhagbokaa.PlDiv Go.Proofs.Ytmongghhagbokaa.PlNow Go.Proofs.Ytmongghhagbokaa.PlDue Go.Proofs.Ytmongghhagbokaa.PlPause Go.Proofs.YtmongghhagbokaaW.PrintWords Go.Proofs.YtmongghhagbokaaW.PrintLast Go.Proofs.YtmongghhagbokaaW.PrintMore
open Go.Proofs.Ytmongghhagbokaa.PPlayRights (S54 z54 k54 k54_open k54_mk k54_mkM rd_T54 at_T54 info54)
set_option linter.unusedVariables false
set_option linter.unusedSimpArgs false
/-- A beginning, a speed and a wall time that may be. -/
def Wide (st p q wl : Nat) : Prop := st < 4611686018427387904 ∧ 1 ≤ p ∧ p ≤ 1000 ∧ 1 ≤ q ∧ q ≤ 1000 ∧ wl ≤ 4611686018427387904
/-- What a call leaves that turns one block alone. -/
def Only (g : Nat) (w w' : World) : Prop := Below g w w' ∧ KeepBut w w' g none
theorem Only.below {g B : Nat} {w w' : World} (h : Only g w w') (hB : B ≤ g) : Below B w w' := h.1.mono hB
theorem Only.trans {g : Nat} {w w1 w2 : World} (h : Only g w w1) (k : Only g w1 w2) : Only g w w2 := ⟨h.1.trans k.1, h.2.trans k.2 (.inl rfl)⟩
theorem Only.refl (g : Nat) (w : World) : Only g w w := ⟨Below.refl _ _, KeepBut.refl _ _ _⟩
theorem Only.of_below {g : Nat} {w w' : World} (h : Below w.heap.size w w') (hg : g ≤ w.heap.size) : Only g w w' := ⟨h.mono hg, KeepBut.of_below h g none⟩
theorem Only.set_ {g : Nat} {w w' : World} (h : Only g w w') (j : Nat) (u : Value) : Only g w (w'.setCell ⟨g, j, none⟩ u) := ⟨h.1.setCell (Nat.le_refl _) _, h.2.set_ j u⟩
theorem Only.blk {g g' : Nat} {w w' : World} {o : Obj} (h : Only g w w') (hb : w.heap[g']? = some o) (hne : g' ≠ g) : w'.heap[g']? = some o := h.2.blk hb hne (by simp)
theorem Only.R {α : Type} {d : Kd α} {e base : Nat} {ok : Nat → Prop} {v : Value} {xs : List α} {g : Nat} {w w' : World} (h : Only g w w') (hr : Kd.R d e w base ok v xs) (hok : ∀ k, ok k → k ≠ g) : Kd.R d e w' base ok v xs := Kd.R_keep hr h.2 hok
/-- What is below a base stays what it was; the base lies behind the block that turns. -/
theorem Only.Rbase {α : Type} {d : Kd α} {e base : Nat} {ok : Nat → Prop} {v : Value} {xs : List α} {g : Nat} {w w' : World} (h : Only g w w') (hr : Kd.R d e w base ok v xs) (hg : g < base) : Kd.R d e w' base ok v xs :=
  Kd.R_mono (ok' := ok) (Kd.R_keep (Kd.R_bound hr) h.2 (fun k hk => by have := hk.2.1; omega)) (fun k hk => hk.1)
set_option maxHeartbeats 1600000 in
set_option maxRecDepth 100000 in
theorem wnow_c (g : Nat) (ev : Value) (st p q wl nx : Nat) (pz : Bool) (w : World) (hk : PC w g ev st p q wl nx pz) (hf : Wide st p q wl) :
    Calls Try.prog 13 #[.pointer (some ⟨g, 0, none⟩)] w fun e w' => e = .returned (.int .i64 (nowN st p q wl : Int)) ∧ Below w.heap.size w w' := by
  have hu := Try.underlying57
  obtain ⟨f1, f2, f3, f4, f5, f6⟩ := hf
  have HSC := Aside0.mk (fun W => wscale_c wl p q f6 f3 f4 f5 W)
  have hsl := scl_le wl p q
  obtain ⟨z, hz⟩ : ∃ z, z = scl wl p q := ⟨_, rfl⟩
  have HN := Aside0.mk (show nowN st p q wl = min (st + z) 4611686018427387904 from by rw [nowN, hz])
  rw [← hz] at HSC hsl
  have h1 : (st : Int) ≤ 4611686018427387903 := by omega
  have h2 : (z : Int) ≤ 4611686018427387904 := by omega
  have hwz : wrap64 ((st : Int) + z) = (st : Int) + z := by unfold wrap64; omega
  have c1 : w.drew.cell? ⟨g, 1, none⟩ = some (.int .i64 st) := (blk_cell (blk_drew hk) 1).trans rfl
  have c2 : w.drew.cell? ⟨g, 2, none⟩ = some (.int .i64 p) := (blk_cell (blk_drew hk) 2).trans rfl
  have c3 : w.drew.cell? ⟨g, 3, none⟩ = some (.int .i64 q) := (blk_cell (blk_drew hk) 3).trans rfl
  have c4 : w.drew.cell? ⟨g, 4, none⟩ = some (.int .i64 wl) := (blk_cell (blk_drew hk) 4).trans rfl
  have HK := Aside0.mk (show w.heap[g]? = some (.cells #[ev, .int .i64 st, .int .i64 p, .int .i64 q, .int .i64 wl, .int .i64 nx, .bool pz] 57 (0, 0)) from hk)
  have HB := Aside0.mk (below_drew (Below.refl w.heap.size w))
  clear f1 f2 f3 f4 f5 f6 hsl hz hk
  go_enter Try.func13, Try.ntmps13
  go_upto_region 1 with fail
  refine start_ (n := 20) (S := fun w' => w'.cell? ⟨g, 1, none⟩ = some (.int .i64 st) ∧ w'.cell? ⟨g, 2, none⟩ = some (.int .i64 p) ∧ w'.cell? ⟨g, 3, none⟩ = some (.int .i64 q) ∧ w'.cell? ⟨g, 4, none⟩ = some (.int .i64 wl)) (ds := []) #[false, false, false, false, false, false, false, false, false, false, false, false, false, false, false, false, false, false, false, false] (by kernel_rfl) rfl rfl ⟨c1, c2, c3, c4⟩ (fun hHeld => ?_)
  refine pure_ (i := 0) (N := some 3) (v := ?_) (a' := ?_) #[true, false, false, false, false, false, false, false, false, false, false, false, false, false, false, false, false, false, false, false] rfl rfl (by kernel_rfl) (fun _ _ _ h => h) (Or.inl ⟨by rfl, ?_⟩) ?_ ?_
  rotate_left
  · intro w'
    go_simp
    with_reducible rfl
  rotate_left
  · simp only [Act.put, List.setIfInBounds_toArray, List.set_cons_zero, List.set_cons_succ, i64_w, i32_w]
    rfl
  refine pure_ (i := 1) (N := some 4) (v := ?_) (a' := ?_) #[true, true, false, false, false, false, false, false, false, false, false, false, false, false, false, false, false, false, false, false] rfl rfl (by kernel_rfl) (fun _ _ _ h => h) (Or.inl ⟨by rfl, ?_⟩) ?_ ?_
  rotate_left
  · intro w'
    go_simp
    with_reducible rfl
  rotate_left
  · simp only [Act.put, List.setIfInBounds_toArray, List.set_cons_zero, List.set_cons_succ, i64_w, i32_w]
    rfl
  refine pure_ (i := 2) (N := some 5) (v := ?_) (a' := ?_) #[true, true, true, false, false, false, false, false, false, false, false, false, false, false, false, false, false, false, false, false] rfl rfl (by kernel_rfl) (fun _ _ _ h => h) (Or.inl ⟨by rfl, ?_⟩) ?_ ?_
  rotate_left
  · intro w'
    go_simp
    with_reducible rfl
  rotate_left
  · simp only [Act.put, List.setIfInBounds_toArray, List.set_cons_zero, List.set_cons_succ, i64_w, i32_w]
    rfl
  refine pure_ (i := 4) (N := some 7) (v := ?_) (a' := ?_) #[true, true, true, false, true, false, false, false, false, false, false, false, false, false, false, false, false, false, false, false] rfl rfl (by kernel_rfl) (fun _ _ _ h => h) (Or.inl ⟨by rfl, ?_⟩) ?_ ?_
  rotate_left
  · intro w'
    go_simp
    with_reducible rfl
  rotate_left
  · simp only [Act.put, List.setIfInBounds_toArray, List.set_cons_zero, List.set_cons_succ, i64_w, i32_w]
    rfl
  refine pure_ (i := 5) (N := some 8) (v := ?_) (a' := ?_) #[true, true, true, false, true, true, false, false, false, false, false, false, false, false, false, false, false, false, false, false] rfl rfl (by kernel_rfl) (fun _ _ _ h => h) (Or.inl ⟨by rfl, ?_⟩) ?_ ?_
  rotate_left
  · intro w'
    go_simp
    with_reducible rfl
  rotate_left
  · simp only [Act.put, List.setIfInBounds_toArray, List.set_cons_zero, List.set_cons_succ, i64_w, i32_w]
    rfl
  refine pure_ (i := 6) (N := some 9) (v := ?_) (a' := ?_) #[true, true, true, false, true, true, true, false, false, false, false, false, false, false, false, false, false, false, false, false] rfl rfl (by kernel_rfl) (fun _ _ _ h => h) (Or.inl ⟨by rfl, ?_⟩) ?_ ?_
  rotate_left
  · intro w'
    go_simp
    with_reducible rfl
  rotate_left
  · simp only [Act.put, List.setIfInBounds_toArray, List.set_cons_zero, List.set_cons_succ, i64_w, i32_w]
    rfl
  refine pure_ (i := 8) (N := some 11) (v := ?_) (a' := ?_) #[true, true, true, false, true, true, true, false, true, false, false, false, false, false, false, false, false, false, false, false] rfl rfl (by kernel_rfl) (fun _ _ _ h => h) (Or.inl ⟨by rfl, ?_⟩) ?_ ?_
  rotate_left
  · intro w'
    go_simp
    with_reducible rfl
  rotate_left
  · simp only [Act.put, List.setIfInBounds_toArray, List.set_cons_zero, List.set_cons_succ, i64_w, i32_w]
    rfl
  refine pure_ (i := 9) (N := some 12) (v := ?_) (a' := ?_) #[true, true, true, false, true, true, true, false, true, true, false, false, false, false, false, false, false, false, false, false] rfl rfl (by kernel_rfl) (fun _ _ _ h => h) (Or.inl ⟨by rfl, ?_⟩) ?_ ?_
  rotate_left
  · intro w'
    go_simp
    with_reducible rfl
  rotate_left
  · simp only [Act.put, List.setIfInBounds_toArray, List.set_cons_zero, List.set_cons_succ, i64_w, i32_w]
    rfl
  refine pure_ (i := 10) (N := some 13) (v := ?_) (a' := ?_) #[true, true, true, false, true, true, true, false, true, true, true, false, false, false, false, false, false, false, false, false] rfl rfl (by kernel_rfl) (fun _ _ _ h => h) (Or.inl ⟨by rfl, ?_⟩) ?_ ?_
  rotate_left
  · intro w'
    go_simp
    with_reducible rfl
  rotate_left
  · simp only [Act.put, List.setIfInBounds_toArray, List.set_cons_zero, List.set_cons_succ, i64_w, i32_w]
    rfl
  refine pure_ (i := 12) (N := some 15) (v := ?_) (a' := ?_) #[true, true, true, false, true, true, true, false, true, true, true, false, true, false, false, false, false, false, false, false] rfl rfl (by kernel_rfl) (fun _ _ _ h => h) (Or.inl ⟨by rfl, ?_⟩) ?_ ?_
  rotate_left
  · intro w'
    go_simp
    with_reducible rfl
  rotate_left
  · simp only [Act.put, List.setIfInBounds_toArray, List.set_cons_zero, List.set_cons_succ, i64_w, i32_w]
    rfl
  refine pure_ (i := 13) (N := some 16) (v := ?_) (a' := ?_) #[true, true, true, false, true, true, true, false, true, true, true, false, true, true, false, false, false, false, false, false] rfl rfl (by kernel_rfl) (fun _ _ _ h => h) (Or.inl ⟨by rfl, ?_⟩) ?_ ?_
  rotate_left
  · intro w'
    go_simp
    with_reducible rfl
  rotate_left
  · simp only [Act.put, List.setIfInBounds_toArray, List.set_cons_zero, List.set_cons_succ, i64_w, i32_w]
    rfl
  refine pure_ (i := 14) (N := some 17) (v := ?_) (a' := ?_) #[true, true, true, false, true, true, true, false, true, true, true, false, true, true, true, false, false, false, false, false] rfl rfl (by kernel_rfl) (fun _ _ _ h => h) (Or.inl ⟨by rfl, ?_⟩) ?_ ?_
  rotate_left
  · intro w'
    go_simp
    with_reducible rfl
  rotate_left
  · simp only [Act.put, List.setIfInBounds_toArray, List.set_cons_zero, List.set_cons_succ, i64_w, i32_w]
    rfl
  refine take_ (i := 3) (N := some 6) (v := ?_) (a' := ?_) #[true, true, true, true, true, true, true, false, true, true, true, false, true, true, true, false, false, false, false, false] rfl rfl (by kernel_rfl) (fun _ _ _ h => h) (Or.inl ⟨by rfl, ?_⟩) hHeld ?_ ?_
  rotate_left
  · rintro w' ⟨s0, s1, s2, s3⟩
    go_simp
    with_reducible rfl
  rotate_left
  · simp only [Act.put, List.setIfInBounds_toArray, List.set_cons_zero, List.set_cons_succ, i64_w, i32_w]
    rfl
  refine take_ (i := 7) (N := some 10) (v := ?_) (a' := ?_) #[true, true, true, true, true, true, true, true, true, true, true, false, true, true, true, false, false, false, false, false] rfl rfl (by kernel_rfl) (fun _ _ _ h => h) (Or.inl ⟨by rfl, ?_⟩) hHeld ?_ ?_
  rotate_left
  · rintro w' ⟨s0, s1, s2, s3⟩
    go_simp
    with_reducible rfl
  rotate_left
  · simp only [Act.put, List.setIfInBounds_toArray, List.set_cons_zero, List.set_cons_succ, i64_w, i32_w]
    rfl
  refine take_ (i := 11) (N := some 14) (v := ?_) (a' := ?_) #[true, true, true, true, true, true, true, true, true, true, true, true, true, true, true, false, false, false, false, false] rfl rfl (by kernel_rfl) (fun _ _ _ h => h) (Or.inl ⟨by rfl, ?_⟩) hHeld ?_ ?_
  rotate_left
  · rintro w' ⟨s0, s1, s2, s3⟩
    go_simp
    with_reducible rfl
  rotate_left
  · simp only [Act.put, List.setIfInBounds_toArray, List.set_cons_zero, List.set_cons_succ, i64_w, i32_w]
    rfl
  refine take_ (i := 15) (N := some 18) (v := ?_) (a' := ?_) #[true, true, true, true, true, true, true, true, true, true, true, true, true, true, true, true, false, false, false, false] rfl rfl (by kernel_rfl) (fun _ _ _ h => h) (Or.inl ⟨by rfl, ?_⟩) hHeld ?_ ?_
  rotate_left
  · rintro w' ⟨s0, s1, s2, s3⟩
    go_simp
    with_reducible rfl
  rotate_left
  · simp only [Act.put, List.setIfInBounds_toArray, List.set_cons_zero, List.set_cons_succ, i64_w, i32_w]
    rfl
  refine one_ (i := 16) (N := some 19) #[true, true, true, true, true, true, true, true, true, true, true, true, true, true, true, true, true, false, false, false] rfl rfl (by kernel_rfl) (by decide) (fun K hK => ?_)
  refine goes_ Try.func31 (by kernel_rfl) rfl #[.int .i64 wl, .int .i64 p, .int .i64 q] (by rfl) rfl rfl (by simp only [List.map_toArray, List.map_cons, List.map_nil]; rfl) ?_
  with_reducible refine (HSC.out _).mono ?_
  rintro e w3 ⟨rfl, hb3⟩
  refine ⟨_, rfl, ?_⟩
  have HB3 := Aside0.mk (below_kept HB.out hb3)
  have HK3 := Aside0.mk (blk_below (blk_drew HK.out) hb3)
  clear hb3
  have d1 := (blk_cell HK3.out 1).trans (rfl : _ = some (Value.int .i64 st))
  have d2 := (blk_cell HK3.out 2).trans (rfl : _ = some (Value.int .i64 p))
  have d3 := (blk_cell HK3.out 3).trans (rfl : _ = some (Value.int .i64 q))
  have d4 := (blk_cell HK3.out 4).trans (rfl : _ = some (Value.int .i64 wl))
  refine hK.out _ _ ⟨d1, d2, d3, d4⟩ (fun hHeld => ?_)
  clear hK K
  refine norm_ (a' := ?_) ?_ ?_
  rotate_left
  · show Act.put _ (some 19) _ = _
    simp only [Act.put, List.setIfInBounds_toArray, List.set_cons_zero, List.set_cons_succ, i64_w, i32_w]
    rfl
  refine pure_ (i := 17) (N := some 20) (v := ?_) (a' := ?_) #[true, true, true, true, true, true, true, true, true, true, true, true, true, true, true, true, true, true, false, false] rfl rfl (by kernel_rfl) (fun _ _ _ h => h) (Or.inl ⟨by rfl, ?_⟩) ?_ ?_
  rotate_left
  · intro w'
    go_simp
    with_reducible rfl
  rotate_left
  · simp only [Act.put, List.setIfInBounds_toArray, List.set_cons_zero, List.set_cons_succ, i64_w, i32_w]
    rfl
  refine pure_ (i := 18) (N := some 21) (v := ?_) (a' := ?_) #[true, true, true, true, true, true, true, true, true, true, true, true, true, true, true, true, true, true, true, false] rfl rfl (by kernel_rfl) (fun _ _ _ h => h) (Or.inl ⟨by rfl, ?_⟩) ?_ ?_
  rotate_left
  · intro w'
    go_simp
    with_reducible rfl
  rotate_left
  · simp only [Act.put, List.setIfInBounds_toArray, List.set_cons_zero, List.set_cons_succ, i64_w, i32_w]
    rfl
  refine pure_ (i := 19) (N := some 2) (v := ?_) (a' := ?_) #[true, true, true, true, true, true, true, true, true, true, true, true, true, true, true, true, true, true, true, true] rfl rfl (by kernel_rfl) (fun _ _ _ h => h) (Or.inl ⟨by rfl, ?_⟩) ?_ ?_
  rotate_left
  · intro w'
    go_simp
    with_reducible rfl
  rotate_left
  · simp only [Act.put, List.setIfInBounds_toArray, List.set_cons_zero, List.set_cons_succ, i64_w, i32_w]
    rfl
  refine done_ (by kernel_rfl) ?_
  go_wp2
  all_goals
    go_ret
    refine ⟨?_, HB3.out⟩
    rw [HN.out]
    first
      | (rw [Nat.min_eq_left (by omega), Int.natCast_add]; rfl)
      | (rw [Nat.min_eq_right (by omega)]; rfl)
      | exact congrArg (fun v => Ending.returned (Value.int .i64 v)) (show min ((st : Int) + z) 4611686018427387904 = ((min (st + z) 4611686018427387904 : Nat) : Int) from by omega)
set_option maxHeartbeats 3200000 in
set_option maxRecDepth 100000 in
theorem wdue_c (g : Nat) (A : Option Addr) (c : Nat) (l : List S54) (st p q wl nx : Nat) (pz : Bool) (w : World) (hk : PC w g (.slice A l.length c) st p q wl nx pz) (hC : Kd.C k54 w A l.length l) (hlc : l.length ≤ c) (hr : Rising l) (hl : l.length ≤ 1000) (hf : Wide st p q wl) (hnx : nx ≤ l.length) :
    Calls Try.prog 30 #[.pointer (some ⟨g, 0, none⟩)] w fun e w' => ∃ (v : Value) (w1 : World), e = .returned v ∧ Kd.R k54 54 w1 w.heap.size (fun _ => True) v ((l.take (toN st p q wl nx l)).drop nx) ∧ Below w.heap.size w w1 ∧ w' = w1.setCell ⟨g, 5, none⟩ (.int .i64 (toN st p q wl nx l : Int)) := by
  have hu := Try.underlying57
  have HNOW := Aside0.mk (wnow_c g (.slice A l.length c) st p q wl nx pz w.drew (blk_drew hk) hf)
  have HUN := Aside0.mk (fun W (h : Kd.C k54 W A l.length l) => until_c A c l (nowN st p q wl : Int) W h (by omega) hr)
  have hcl := countT_le (nowN st p q wl : Int) l
  obtain ⟨now, hnow⟩ : ∃ now, now = nowN st p q wl := ⟨_, rfl⟩
  have HTO := Aside0.mk (show toN st p q wl nx l = max (countT (now : Int) l) nx from by rw [toN, hnow])
  rw [← hnow] at HNOW HUN hcl
  obtain ⟨k, hkk⟩ : ∃ k, k = countT (now : Int) l := ⟨_, rfl⟩
  rw [← hkk] at HUN HTO hcl
  obtain ⟨tt, hto⟩ : ∃ tt, tt = toN st p q wl nx l := ⟨_, rfl⟩
  rw [← hto] at HTO
  rw [← hto]
  have htl : tt ≤ l.length := by rw [HTO.out]; omega
  have hnt : nx ≤ tt := by rw [HTO.out]; omega
  have hmx : (if k < nx then (nx : Int) else (k : Int)) = (tt : Int) := by rw [HTO.out]; split <;> omega
  have hmz : max (k : Int) (nx : Int) = (tt : Int) := by rw [HTO.out]; omega
  have hmy : (if (k : Int) < (nx : Int) then (nx : Int) else (k : Int)) = (tt : Int) := by rw [HTO.out]; split <;> omega
  obtain ⟨A2, c2, hcut, hc2, hC2⟩ := cut_mid_ex (P := Try.prog) k54 22 54 (.agg #[(.int .i64 0), (.int .i64 0), (.string ⟨#[]⟩), (.int .i64 0), (.int .i64 0)]) 48 Try.underlying22 info54 A c l (nx : Int) (tt : Int) (by omega) (by omega) (by omega) hlc
  simp only [Int.toNat_natCast] at hcut hc2 hC2
  obtain ⟨m, hm⟩ : ∃ m, m = (l.take tt).drop nx := ⟨_, rfl⟩
  rw [← hm] at hcut hc2 hC2
  rw [← hm]
  have hml : m.length ≤ 1000 := by rw [hm, List.length_drop, List.length_take]; omega
  have HML := Aside0.mk hml
  have HC := Aside0.mk hC
  have HC2 := Aside0.mk hC2
  have HK := Aside0.mk (show w.heap[g]? = some (.cells #[.slice A l.length c, .int .i64 st, .int .i64 p, .int .i64 q, .int .i64 wl, .int .i64 nx, .bool pz] 57 (0, 0)) from hk)
  have HB := Aside0.mk (below_drew (Below.refl w.heap.size w))
  have c0 : w.drew.cell? ⟨g, 0, none⟩ = some (.slice A l.length c) := (blk_cell (blk_drew hk) 0).trans rfl
  have c5 : w.drew.cell? ⟨g, 5, none⟩ = some (.int .i64 nx) := (blk_cell (blk_drew hk) 5).trans rfl
  clear hk hC hlc hr hl hf hnx hcl hnow hkk hto htl hnt hm hml hc2 hC2
  go_enter Try.func30, Try.ntmps30
  go_upto_region 1 with fail
  refine start_ (n := 13) (S := fun w' => w'.cell? ⟨g, 0, none⟩ = some (.slice A l.length c) ∧ w'.cell? ⟨g, 5, none⟩ = some (.int .i64 nx)) (ds := []) #[false, false, false, false, false, false, false, false, false, false, false, false, false] (by kernel_rfl) rfl rfl ⟨c0, c5⟩ (fun hHeld => ?_)
  refine pure_ (i := 0) (N := some 5) (v := ?_) (a' := ?_) #[true, false, false, false, false, false, false, false, false, false, false, false, false] rfl rfl (by kernel_rfl) (fun _ _ _ h => h) (Or.inl ⟨by rfl, ?_⟩) ?_ ?_
  rotate_left
  · intro w'
    go_simp
    with_reducible rfl
  rotate_left
  · simp only [Act.put, List.setIfInBounds_toArray, List.set_cons_zero, List.set_cons_succ, i64_w, i32_w]
    rfl
  refine pure_ (i := 1) (N := some 6) (v := ?_) (a' := ?_) #[true, true, false, false, false, false, false, false, false, false, false, false, false] rfl rfl (by kernel_rfl) (fun _ _ _ h => h) (Or.inl ⟨by rfl, ?_⟩) ?_ ?_
  rotate_left
  · intro w'
    go_simp
    with_reducible rfl
  rotate_left
  · simp only [Act.put, List.setIfInBounds_toArray, List.set_cons_zero, List.set_cons_succ, i64_w, i32_w]
    rfl
  refine pure_ (i := 2) (N := some 7) (v := ?_) (a' := ?_) #[true, true, true, false, false, false, false, false, false, false, false, false, false] rfl rfl (by kernel_rfl) (fun _ _ _ h => h) (Or.inl ⟨by rfl, ?_⟩) ?_ ?_
  rotate_left
  · intro w'
    go_simp
    with_reducible rfl
  rotate_left
  · simp only [Act.put, List.setIfInBounds_toArray, List.set_cons_zero, List.set_cons_succ, i64_w, i32_w]
    rfl
  refine pure_ (i := 4) (N := some 9) (v := ?_) (a' := ?_) #[true, true, true, false, true, false, false, false, false, false, false, false, false] rfl rfl (by kernel_rfl) (fun _ _ _ h => h) (Or.inl ⟨by rfl, ?_⟩) ?_ ?_
  rotate_left
  · intro w'
    go_simp
    with_reducible rfl
  rotate_left
  · simp only [Act.put, List.setIfInBounds_toArray, List.set_cons_zero, List.set_cons_succ, i64_w, i32_w]
    rfl
  refine pure_ (i := 7) (N := some 12) (v := ?_) (a' := ?_) #[true, true, true, false, true, false, false, true, false, false, false, false, false] rfl rfl (by kernel_rfl) (fun _ _ _ h => h) (Or.inl ⟨by rfl, ?_⟩) ?_ ?_
  rotate_left
  · intro w'
    go_simp
    with_reducible rfl
  rotate_left
  · simp only [Act.put, List.setIfInBounds_toArray, List.set_cons_zero, List.set_cons_succ, i64_w, i32_w]
    rfl
  refine pure_ (i := 8) (N := some 13) (v := ?_) (a' := ?_) #[true, true, true, false, true, false, false, true, true, false, false, false, false] rfl rfl (by kernel_rfl) (fun _ _ _ h => h) (Or.inl ⟨by rfl, ?_⟩) ?_ ?_
  rotate_left
  · intro w'
    go_simp
    with_reducible rfl
  rotate_left
  · simp only [Act.put, List.setIfInBounds_toArray, List.set_cons_zero, List.set_cons_succ, i64_w, i32_w]
    rfl
  refine pure_ (i := 9) (N := some 14) (v := ?_) (a' := ?_) #[true, true, true, false, true, false, false, true, true, true, false, false, false] rfl rfl (by kernel_rfl) (fun _ _ _ h => h) (Or.inl ⟨by rfl, ?_⟩) ?_ ?_
  rotate_left
  · intro w'
    go_simp
    with_reducible rfl
  rotate_left
  · simp only [Act.put, List.setIfInBounds_toArray, List.set_cons_zero, List.set_cons_succ, i64_w, i32_w]
    rfl
  refine take_ (i := 3) (N := some 8) (v := ?_) (a' := ?_) #[true, true, true, true, true, false, false, true, true, true, false, false, false] rfl rfl (by kernel_rfl) (fun _ _ _ h => h) (Or.inl ⟨by rfl, ?_⟩) hHeld ?_ ?_
  rotate_left
  · rintro w' ⟨s0, s1⟩
    go_simp
    with_reducible rfl
  rotate_left
  · simp only [Act.put, List.setIfInBounds_toArray, List.set_cons_zero, List.set_cons_succ, i64_w, i32_w]
    rfl
  refine take_ (i := 10) (N := some 15) (v := ?_) (a' := ?_) #[true, true, true, true, true, false, false, true, true, true, true, false, false] rfl rfl (by kernel_rfl) (fun _ _ _ h => h) (Or.inl ⟨by rfl, ?_⟩) hHeld ?_ ?_
  rotate_left
  · rintro w' ⟨s0, s1⟩
    go_simp
    with_reducible rfl
  rotate_left
  · simp only [Act.put, List.setIfInBounds_toArray, List.set_cons_zero, List.set_cons_succ, i64_w, i32_w]
    rfl
  refine one_ (i := 5) (N := some 10) #[true, true, true, true, true, true, false, true, true, true, true, false, false] rfl rfl (by kernel_rfl) (by decide) (fun K hK => ?_)
  refine goes_ Try.func13 (by kernel_rfl) rfl #[.pointer (some ⟨g, 0, none⟩)] (by rfl) rfl rfl (by simp only [List.map_toArray, List.map_cons, List.map_nil]; rfl) ?_
  with_reducible refine (HNOW.out).mono ?_
  rintro e w3 ⟨rfl, hb3⟩
  refine ⟨_, rfl, ?_⟩
  have HB3 := Aside0.mk (below_then HB.out HB.out.size hb3)
  have HK3 := Aside0.mk (blk_below (blk_drew HK.out) hb3)
  have HC3 := Aside0.mk (Kd.C_below (Kd.C_drew HC.out) hb3)
  clear hb3
  have d0 := (blk_cell HK3.out 0).trans (rfl : _ = some (Value.slice A l.length c))
  have d5 := (blk_cell HK3.out 5).trans (rfl : _ = some (Value.int .i64 nx))
  refine hK.out _ _ ⟨d0, d5⟩ (fun hHeld => ?_)
  clear hK K
  refine norm_ (a' := ?_) ?_ ?_
  rotate_left
  · show Act.put _ (some 10) _ = _
    simp only [Act.put, List.setIfInBounds_toArray, List.set_cons_zero, List.set_cons_succ, i64_w, i32_w]
    rfl
  refine one_ (i := 6) (N := some 11) #[true, true, true, true, true, true, true, true, true, true, true, false, false] rfl rfl (by kernel_rfl) (by decide) (fun K hK => ?_)
  refine goes_ Try.func29 (by kernel_rfl) rfl #[.slice A l.length c, .int .i64 now] (by rfl) rfl rfl (by simp only [List.map_toArray, List.map_cons, List.map_nil]; rfl) ?_
  with_reducible refine (HUN.out _ HC3.out).mono ?_
  rintro e w4 ⟨rfl, hb4⟩
  refine ⟨_, rfl, ?_⟩
  have HB4 := Aside0.mk (below_kept HB3.out hb4)
  have HK4 := Aside0.mk (blk_below HK3.out hb4)
  have HC4 := Aside0.mk (Kd.C_below HC3.out hb4)
  clear hb4
  have e0 := (blk_cell HK4.out 0).trans (rfl : _ = some (Value.slice A l.length c))
  have e5 := (blk_cell HK4.out 5).trans (rfl : _ = some (Value.int .i64 nx))
  refine hK.out _ _ ⟨e0, e5⟩ (fun hHeld => ?_)
  clear hK K
  refine norm_ (a' := ?_) ?_ ?_
  rotate_left
  · show Act.put _ (some 11) _ = _
    simp only [Act.put, List.setIfInBounds_toArray, List.set_cons_zero, List.set_cons_succ, i64_w, i32_w]
    rfl
  refine pure_ (i := 11) (N := some 16) (v := ?_) (a' := ?_) #[true, true, true, true, true, true, true, true, true, true, true, true, false] rfl rfl (by kernel_rfl) (fun _ _ _ h => h) (Or.inl ⟨by rfl, ?_⟩) ?_ ?_
  rotate_left
  · intro w'
    go_simp
    with_reducible rfl
  rotate_left
  · simp only [Act.put, List.setIfInBounds_toArray, List.set_cons_zero, List.set_cons_succ, i64_w, i32_w]
    rfl
  refine pure_ (i := 12) (N := some 3) (v := ?_) (a' := ?_) #[true, true, true, true, true, true, true, true, true, true, true, true, true] rfl rfl (by kernel_rfl) (fun _ _ _ h => h) (Or.inl ⟨by rfl, ?_⟩) ?_ ?_
  rotate_left
  · intro w'
    go_simp
    with_reducible rfl
  rotate_left
  · simp only [Act.put, List.setIfInBounds_toArray, List.set_cons_zero, List.set_cons_succ, i64_w, i32_w]
    rfl
  refine done_ (by kernel_rfl) ?_
  clear c0 c5 d0 d5 e0 e5
  have c0 : w4.drew.cell? ⟨g, 0, none⟩ = some (.slice A l.length c) := (blk_cell (blk_drew HK4.out) 0).trans rfl
  have c5 : w4.drew.cell? ⟨g, 5, none⟩ = some (.int .i64 nx) := (blk_cell (blk_drew HK4.out) 5).trans rfl
  go_upto_region 2 with fail
  refine start_ (n := 12) (S := fun w' => w'.cell? ⟨g, 0, none⟩ = some (.slice A l.length c) ∧ w'.cell? ⟨g, 5, none⟩ = some (.int .i64 nx)) (ds := []) #[false, false, false, false, false, false, false, false, false, false, false, false] (by kernel_rfl) rfl rfl ⟨c0, c5⟩ (fun hHeld => ?_)
  refine pure_ (i := 0) (N := some 17) (v := ?_) (a' := ?_) #[true, false, false, false, false, false, false, false, false, false, false, false] rfl rfl (by kernel_rfl) (fun _ _ _ h => h) (Or.inl ⟨by rfl, ?_⟩) ?_ ?_
  rotate_left
  · intro w'
    go_simp
    with_reducible rfl
  rotate_left
  · simp only [Act.put, List.setIfInBounds_toArray, List.set_cons_zero, List.set_cons_succ, i64_w, i32_w]
    rfl
  refine pure_ (i := 1) (N := some 18) (v := ?_) (a' := ?_) #[true, true, false, false, false, false, false, false, false, false, false, false] rfl rfl (by kernel_rfl) (fun _ _ _ h => h) (Or.inl ⟨by rfl, ?_⟩) ?_ ?_
  rotate_left
  · intro w'
    go_simp
    with_reducible rfl
  rotate_left
  · simp only [Act.put, List.setIfInBounds_toArray, List.set_cons_zero, List.set_cons_succ, i64_w, i32_w]
    rfl
  refine pure_ (i := 2) (N := some 19) (v := ?_) (a' := ?_) #[true, true, true, false, false, false, false, false, false, false, false, false] rfl rfl (by kernel_rfl) (fun _ _ _ h => h) (Or.inl ⟨by rfl, ?_⟩) ?_ ?_
  rotate_left
  · intro w'
    go_simp
    with_reducible rfl
  rotate_left
  · simp only [Act.put, List.setIfInBounds_toArray, List.set_cons_zero, List.set_cons_succ, i64_w, i32_w]
    rfl
  refine pure_ (i := 4) (N := some 21) (v := ?_) (a' := ?_) #[true, true, true, false, true, false, false, false, false, false, false, false] rfl rfl (by kernel_rfl) (fun _ _ _ h => h) (Or.inl ⟨by rfl, ?_⟩) ?_ ?_
  rotate_left
  · intro w'
    go_simp
    with_reducible rfl
  rotate_left
  · simp only [Act.put, List.setIfInBounds_toArray, List.set_cons_zero, List.set_cons_succ, i64_w, i32_w]
    rfl
  refine pure_ (i := 5) (N := some 22) (v := ?_) (a' := ?_) #[true, true, true, false, true, true, false, false, false, false, false, false] rfl rfl (by kernel_rfl) (fun _ _ _ h => h) (Or.inl ⟨by rfl, ?_⟩) ?_ ?_
  rotate_left
  · intro w'
    go_simp
    with_reducible rfl
  rotate_left
  · simp only [Act.put, List.setIfInBounds_toArray, List.set_cons_zero, List.set_cons_succ, i64_w, i32_w]
    rfl
  refine pure_ (i := 6) (N := some 23) (v := ?_) (a' := ?_) #[true, true, true, false, true, true, true, false, false, false, false, false] rfl rfl (by kernel_rfl) (fun _ _ _ h => h) (Or.inl ⟨by rfl, ?_⟩) ?_ ?_
  rotate_left
  · intro w'
    go_simp
    with_reducible rfl
  rotate_left
  · simp only [Act.put, List.setIfInBounds_toArray, List.set_cons_zero, List.set_cons_succ, i64_w, i32_w]
    rfl
  refine pure_ (i := 8) (N := some 25) (v := ?_) (a' := ?_) #[true, true, true, false, true, true, true, false, true, false, false, false] rfl rfl (by kernel_rfl) (fun _ _ _ h => h) (Or.inl ⟨by rfl, ?_⟩) ?_ ?_
  rotate_left
  · intro w'
    go_simp
    with_reducible rfl
  rotate_left
  · simp only [Act.put, List.setIfInBounds_toArray, List.set_cons_zero, List.set_cons_succ, i64_w, i32_w]
    rfl
  refine take_ (i := 3) (N := some 20) (v := ?_) (a' := ?_) #[true, true, true, true, true, true, true, false, true, false, false, false] rfl rfl (by kernel_rfl) (fun _ _ _ h => h) (Or.inl ⟨by rfl, ?_⟩) hHeld ?_ ?_
  rotate_left
  · rintro w' ⟨s0, s1⟩
    go_simp
    with_reducible rfl
  rotate_left
  · simp only [Act.put, List.setIfInBounds_toArray, List.set_cons_zero, List.set_cons_succ, i64_w, i32_w]
    rfl
  refine take_ (i := 7) (N := some 24) (v := ?_) (a' := ?_) #[true, true, true, true, true, true, true, true, true, false, false, false] rfl rfl (by kernel_rfl) (fun _ _ _ h => h) (Or.inl ⟨by rfl, ?_⟩) hHeld ?_ ?_
  rotate_left
  · rintro w' ⟨s0, s1⟩
    go_simp
    with_reducible rfl
  rotate_left
  · simp only [Act.put, List.setIfInBounds_toArray, List.set_cons_zero, List.set_cons_succ, i64_w, i32_w]
    rfl
  refine pure_ (i := 9) (N := some 26) (v := ?_) (a' := ?_) #[true, true, true, true, true, true, true, true, true, true, false, false] rfl rfl (by kernel_rfl) (fun _ _ _ h => h) (Or.inl ⟨by rfl, ?_⟩) ?_ ?_
  rotate_left
  · intro w'
    go_simp
    with_reducible rfl
  rotate_left
  · simp only [Act.put, List.setIfInBounds_toArray, List.set_cons_zero, List.set_cons_succ, i64_w, i32_w]
    rfl
  refine one_ (i := 10) (N := some 27) #[true, true, true, true, true, true, true, true, true, true, true, false] rfl rfl (by kernel_rfl) (by decide) (fun K hK => ?_)
  refine Kd.R_append_rows_step k54 (w0 := w4.drew) w4.drew.heap.size (by rfl) (.const (.slice none 0 0)) (.tmp 26) 22 54 (.agg #[(.int .i64 0), (.int .i64 0), (.string ⟨#[]⟩), (.int .i64 0), (.int .i64 0)]) 48 rfl Try.underlying22 info54 rfl (by decide) (by omega) (.slice none 0 0) [] m A2 m.length c2 (fun _ => True) (fun _ => False) rfl rfl (Kd.R_nil _ _ _ _ _) (HC2.out _ (Kd.C_drew HC4.out)) ?aK (fun _ hk => hk.elim) ?aF (Below.refl _ _) (Nat.le_refl _) ?aL ?_; (case aK => exact fun x cs h => by rw [k54_open h]; exact k54_mkM _ _ _ x); (case aF => exact fun _ _ => trivial); (case aL => have := HML.out; simp; omega)
  intro v5 w5 ho hb hg hat
  rw [List.nil_append] at ho
  have HO5 := Aside0.mk ho
  have HB5 := Aside0.mk hb
  have HK5 := Aside0.mk (blk_below (blk_drew HK4.out) hb)
  clear ho hb hg hat
  have d0 := (blk_cell HK5.out 0).trans (rfl : _ = some (Value.slice A l.length c))
  have d5 := (blk_cell HK5.out 5).trans (rfl : _ = some (Value.int .i64 nx))
  refine hK.out _ _ ⟨d0, d5⟩ (fun hHeld => ?_)
  clear hK K
  refine norm_ (a' := ?_) ?_ ?_
  rotate_left
  · show Act.put _ (some 27) _ = _
    simp only [Act.put, List.setIfInBounds_toArray, List.set_cons_zero, List.set_cons_succ, i64_w, i32_w]
    rfl
  refine pure_ (i := 11) (N := some 4) (v := ?_) (a' := ?_) #[true, true, true, true, true, true, true, true, true, true, true, true] rfl rfl (by kernel_rfl) (fun _ _ _ h => h) (Or.inl ⟨by rfl, ?_⟩) ?_ ?_
  rotate_left
  · intro w'
    go_simp
    with_reducible rfl
  rotate_left
  · simp only [Act.put, List.setIfInBounds_toArray, List.set_cons_zero, List.set_cons_succ, i64_w, i32_w]
    rfl
  refine done_ (by kernel_rfl) ?_
  have c5 : w5.cell? ⟨g, 5, none⟩ = some (.int .i64 nx) := (blk_cell HK5.out 5).trans rfl
  have f5 := blk_frozen HK5.out 5
  go_wp2
  go_ret
  have HB45 := below_then (below_drew HB4.out) HB4.out.size HB5.out
  exact ⟨v5, w5, rfl, Kd.R_lower HO5.out HB4.out.size, HB45, rfl⟩
set_option maxHeartbeats 3200000 in
set_option maxRecDepth 100000 in
theorem wtick0_c (g : Nat) (A : Option Addr) (c : Nat) (l : List S54) (n : Int) (st p q wl wl2 nx : Nat) (w : World) (base : Nat) (ok : Nat → Prop) (hok : ∀ k, ok k → k ≠ g) (hk : PC w g (.slice A l.length c) st p q wl nx false) (hR : Kd.R k54 54 w base ok (.slice A l.length c) l) (hr : Rising l) (hl : l.length ≤ 1000) (hw2 : wl2 = wl + dN n wl) (hwl : wl ≤ 4611686018427387904) (hf : Wide st p q wl2) (hnx : nx ≤ l.length) :
    Calls Try.prog 11 #[.pointer (some ⟨g, 0, none⟩), .int .i64 n] w fun e w' => ∃ (v : Value), e = .returned v ∧ Kd.R k54 54 w' w.heap.size (fun _ => True) v ((l.take (toN st p q wl2 nx l)).drop nx) ∧ PC w' g (.slice A l.length c) st p q wl2 (toN st p q wl2 nx l) false ∧ Kd.R k54 54 w' base ok (.slice A l.length c) l ∧ Only g w w' := by
  have hu := Try.underlying57
  have hlc : l.length ≤ c := (Kd.R_reads' hR).2.1
  have HDUE := Aside0.mk (fun W (h : PC W g (.slice A l.length c) st p q wl2 nx false) (h2 : Kd.C k54 W A l.length l) => wdue_c g A c l st p q wl2 nx false W h h2 hlc hr hl hf hnx)
  obtain ⟨d, hd⟩ : ∃ d, d = dN n wl := ⟨_, rfl⟩
  rw [← hd] at hw2
  obtain ⟨nn, hnn⟩ : ∃ nn : Int, nn = max n 0 := ⟨_, rfl⟩
  obtain ⟨r, hrr⟩ : ∃ r : Int, r = 4611686018427387904 - (wl : Int) := ⟨_, rfl⟩
  have hdd : (d : Int) = min nn r := by rw [hd, dN, ← hnn, ← hrr]; omega
  have hm1 : (if n < 0 then (0 : Int) else n) = nn := by rw [hnn]; split <;> omega
  have hm3 : (4611686018427387904 : Int) - wl = r := hrr.symm
  have hm1b : max n 0 = nn := hnn.symm
  have hm2b : min nn r = (d : Int) := hdd.symm
  have hmw : wrap64 r = r := by unfold wrap64; omega
  have hm2 : (if r < nn then r else nn) = (d : Int) := by rw [hdd]; split <;> omega
  have hadd : wrap64 ((wl : Int) + d) = (wl2 : Int) := by unfold wrap64; omega
  have HK := Aside0.mk (show w.heap[g]? = some (.cells #[.slice A l.length c, .int .i64 st, .int .i64 p, .int .i64 q, .int .i64 wl, .int .i64 nx, .bool false] 57 (0, 0)) from hk)
  have HR := Aside0.mk hR
  have c6 : w.cell? ⟨g, 6, none⟩ = some (.bool false) := (blk_cell hk 6).trans rfl
  have c4 : w.drew.cell? ⟨g, 4, none⟩ = some (.int .i64 wl) := (blk_cell (blk_drew hk) 4).trans rfl
  have f4 := blk_frozen (blk_drew HK.out) 4
  clear hk hR hlc hr hl hf hnx hd hnn hrr hdd hw2 hwl
  go_enter Try.func11, Try.ntmps11
  go_upto_region 2 with fail
  refine start_ (n := 16) (S := fun w' => w'.cell? ⟨g, 4, none⟩ = some (.int .i64 wl)) (ds := [15]) #[false, false, false, false, false, false, false, false, false, false, false, false, false, false, false, false] (by kernel_rfl) rfl rfl (c4) (fun hHeld => ?_)
  refine pure_ (i := 0) (N := some 10) (v := ?_) (a' := ?_) #[true, false, false, false, false, false, false, false, false, false, false, false, false, false, false, false] rfl rfl (by kernel_rfl) (fun _ _ _ h => h) (Or.inl ⟨by rfl, ?_⟩) ?_ ?_
  rotate_left
  · intro w'
    go_simp
    with_reducible rfl
  rotate_left
  · simp only [Act.put, List.setIfInBounds_toArray, List.set_cons_zero, List.set_cons_succ, i64_w, i32_w]
    rfl
  refine pure_ (i := 1) (N := some 11) (v := ?_) (a' := ?_) #[true, true, false, false, false, false, false, false, false, false, false, false, false, false, false, false] rfl rfl (by kernel_rfl) (fun _ _ _ h => h) (Or.inl ⟨by rfl, ?_⟩) ?_ ?_
  rotate_left
  · intro w'
    go_simp
    with_reducible rfl
  rotate_left
  · simp only [Act.put, List.setIfInBounds_toArray, List.set_cons_zero, List.set_cons_succ, i64_w, i32_w]
    rfl
  refine pure_ (i := 2) (N := some 12) (v := ?_) (a' := ?_) #[true, true, true, false, false, false, false, false, false, false, false, false, false, false, false, false] rfl rfl (by kernel_rfl) (fun _ _ _ h => h) (Or.inl ⟨by rfl, ?_⟩) ?_ ?_
  rotate_left
  · intro w'
    go_simp
    with_reducible rfl
  rotate_left
  · simp only [Act.put, List.setIfInBounds_toArray, List.set_cons_zero, List.set_cons_succ, i64_w, i32_w]
    rfl
  refine pure_ (i := 4) (N := some 14) (v := ?_) (a' := ?_) #[true, true, true, false, true, false, false, false, false, false, false, false, false, false, false, false] rfl rfl (by kernel_rfl) (fun _ _ _ h => h) (Or.inl ⟨by rfl, ?_⟩) ?_ ?_
  rotate_left
  · intro w'
    go_simp
    with_reducible rfl
  rotate_left
  · simp only [Act.put, List.setIfInBounds_toArray, List.set_cons_zero, List.set_cons_succ, i64_w, i32_w]
    rfl
  refine pure_ (i := 5) (N := some 15) (v := ?_) (a' := ?_) #[true, true, true, false, true, true, false, false, false, false, false, false, false, false, false, false] rfl rfl (by kernel_rfl) (fun _ _ _ h => h) (Or.inl ⟨by rfl, ?_⟩) ?_ ?_
  rotate_left
  · intro w'
    go_simp
    with_reducible rfl
  rotate_left
  · simp only [Act.put, List.setIfInBounds_toArray, List.set_cons_zero, List.set_cons_succ, i64_w, i32_w]
    rfl
  refine pure_ (i := 6) (N := some 16) (v := ?_) (a' := ?_) #[true, true, true, false, true, true, true, false, false, false, false, false, false, false, false, false] rfl rfl (by kernel_rfl) (fun _ _ _ h => h) (Or.inl ⟨by rfl, ?_⟩) ?_ ?_
  rotate_left
  · intro w'
    go_simp
    with_reducible rfl
  rotate_left
  · simp only [Act.put, List.setIfInBounds_toArray, List.set_cons_zero, List.set_cons_succ, i64_w, i32_w]
    rfl
  refine pure_ (i := 7) (N := some 17) (v := ?_) (a' := ?_) #[true, true, true, false, true, true, true, true, false, false, false, false, false, false, false, false] rfl rfl (by kernel_rfl) (fun _ _ _ h => h) (Or.inl ⟨by rfl, ?_⟩) ?_ ?_
  rotate_left
  · intro w'
    go_simp
    with_reducible rfl
  rotate_left
  · simp only [Act.put, List.setIfInBounds_toArray, List.set_cons_zero, List.set_cons_succ, i64_w, i32_w]
    rfl
  refine pure_ (i := 8) (N := some 18) (v := ?_) (a' := ?_) #[true, true, true, false, true, true, true, true, true, false, false, false, false, false, false, false] rfl rfl (by kernel_rfl) (fun _ _ _ h => h) (Or.inl ⟨by rfl, ?_⟩) ?_ ?_
  rotate_left
  · intro w'
    go_simp
    with_reducible rfl
  rotate_left
  · simp only [Act.put, List.setIfInBounds_toArray, List.set_cons_zero, List.set_cons_succ, i64_w, i32_w]
    rfl
  refine take_ (i := 3) (N := some 13) (v := ?_) (a' := ?_) #[true, true, true, true, true, true, true, true, true, false, false, false, false, false, false, false] rfl rfl (by kernel_rfl) (fun _ _ _ h => h) (Or.inl ⟨by rfl, ?_⟩) hHeld ?_ ?_
  rotate_left
  · intro w' s0
    go_simp
    with_reducible rfl
  rotate_left
  · simp only [Act.put, List.setIfInBounds_toArray, List.set_cons_zero, List.set_cons_succ, i64_w, i32_w]
    rfl
  refine take_ (i := 9) (N := some 19) (v := ?_) (a' := ?_) #[true, true, true, true, true, true, true, true, true, true, false, false, false, false, false, false] rfl rfl (by kernel_rfl) (fun _ _ _ h => h) (Or.inl ⟨by rfl, ?_⟩) hHeld ?_ ?_
  rotate_left
  · intro w' s0
    go_simp
    with_reducible rfl
  rotate_left
  · simp only [Act.put, List.setIfInBounds_toArray, List.set_cons_zero, List.set_cons_succ, i64_w, i32_w]
    rfl
  refine pure_ (i := 10) (N := some 20) (v := ?_) (a' := ?_) #[true, true, true, true, true, true, true, true, true, true, true, false, false, false, false, false] rfl rfl (by kernel_rfl) (fun _ _ _ h => h) (Or.inl ⟨by rfl, ?_⟩) ?_ ?_
  rotate_left
  · intro w'
    go_simp
    with_reducible rfl
  rotate_left
  · simp only [Act.put, List.setIfInBounds_toArray, List.set_cons_zero, List.set_cons_succ, i64_w, i32_w]
    rfl
  refine pure_ (i := 11) (N := some 21) (v := ?_) (a' := ?_) #[true, true, true, true, true, true, true, true, true, true, true, true, false, false, false, false] rfl rfl (by kernel_rfl) (fun _ _ _ h => h) (Or.inl ⟨by rfl, ?_⟩) ?_ ?_
  rotate_left
  · intro w'
    go_simp
    with_reducible rfl
  rotate_left
  · simp only [Act.put, List.setIfInBounds_toArray, List.set_cons_zero, List.set_cons_succ, i64_w, i32_w]
    rfl
  refine pure_ (i := 12) (N := some 22) (v := ?_) (a' := ?_) #[true, true, true, true, true, true, true, true, true, true, true, true, true, false, false, false] rfl rfl (by kernel_rfl) (fun _ _ _ h => h) (Or.inl ⟨by rfl, ?_⟩) ?_ ?_
  rotate_left
  · intro w'
    go_simp
    with_reducible rfl
  rotate_left
  · simp only [Act.put, List.setIfInBounds_toArray, List.set_cons_zero, List.set_cons_succ, i64_w, i32_w]
    rfl
  refine pure_ (i := 13) (N := some 23) (v := ?_) (a' := ?_) #[true, true, true, true, true, true, true, true, true, true, true, true, true, true, false, false] rfl rfl (by kernel_rfl) (fun _ _ _ h => h) (Or.inl ⟨by rfl, ?_⟩) ?_ ?_
  rotate_left
  · intro w'
    go_simp
    with_reducible rfl
  rotate_left
  · simp only [Act.put, List.setIfInBounds_toArray, List.set_cons_zero, List.set_cons_succ, i64_w, i32_w]
    rfl
  refine pure_ (i := 14) (N := some 24) (v := ?_) (a' := ?_) #[true, true, true, true, true, true, true, true, true, true, true, true, true, true, true, false] rfl rfl (by kernel_rfl) (fun _ _ _ h => h) (Or.inl ⟨by rfl, ?_⟩) ?_ ?_
  rotate_left
  · intro w'
    go_simp
    with_reducible rfl
  rotate_left
  · simp only [Act.put, List.setIfInBounds_toArray, List.set_cons_zero, List.set_cons_succ, i64_w, i32_w]
    rfl
  refine last_ (i := 15) (N := none) #[true, true, true, true, true, true, true, true, true, true, true, true, true, true, true, true] rfl rfl (by kernel_rfl) (by decide) (fun K hK => ?_)
  refine skip_ (w1 := ?_) (by rfl) rfl ?_ ?_
  rotate_left
  · go_simp
    rfl
  refine hK.out _ _ ?_
  clear hK K
  refine done_ (by kernel_rfl) ?_
  have HB1 := Aside0.mk (show ∀ B, B ≤ g → Below B w (w.setCell ⟨g, 4, none⟩ (.int .i64 wl2)).drew from fun B h => below_drewB ((Below.refl B w).setCell h _))
  have HK1 := Aside0.mk (show (w.setCell ⟨g, 4, none⟩ (.int .i64 wl2)).drew.heap[g]? = some (.cells #[.slice A l.length c, .int .i64 st, .int .i64 p, .int .i64 q, .int .i64 wl2, .int .i64 nx, .bool false] 57 (0, 0)) from blk_drew (blk_put HK.out 4 _ rfl))
  have HR1 := Aside0.mk (Kd.R_drew (Kd.R_keep HR.out ((KeepBut.refl w g none).set_ 4 (.int .i64 wl2)) hok))
  have HKB := Aside0.mk (show KeepBut w (w.setCell ⟨g, 4, none⟩ (.int .i64 wl2)).drew g none from (KeepBut.refl w g none).set_ 4 (.int .i64 wl2))
  have HS1 := Aside0.mk (show w.heap.size ≤ (w.setCell ⟨g, 4, none⟩ (.int .i64 wl2)).drew.heap.size from HKB.out.1)
  obtain ⟨w1, hw1⟩ : ∃ w1, w1 = (w.setCell ⟨g, 4, none⟩ (.int .i64 wl2)).drew := ⟨_, rfl⟩
  rw [← hw1] at HB1 HK1 HR1 HKB HS1
  rw [← hw1]
  clear hw1 f4 c4 c6 hm1 hm1b hm2b hm2 hm3 hmw hadd hHeld
  go_wp2_with fail
  refine (HDUE.out w1 HK1.out (Kd.R_reads' HR1.out).2.2).mono ?_
  rintro e w5 ⟨v, w2, rfl, hv, hb, rfl⟩
  have HV := Aside0.mk hv
  have HB2 := Aside0.mk hb
  clear hv hb HDUE
  go_wp2
  go_ret
  have hg1 : g < w1.heap.size := blk_lt HK1.out
  have hkb := (KeepBut.refl w2 g none).set_ 5 (.int .i64 (toN st p q wl2 nx l : Int))
  have ho2 : Only g w w2 := ⟨below_then (HB1.out g (Nat.le_refl _)) (by omega) HB2.out, (HKB.out.trans (KeepBut.of_below HB2.out g none) (.inl rfl))⟩
  refine ⟨v, rfl, Kd.R_lower (Kd.R_mono (ok' := fun _ => True) (Kd.R_keep (Kd.R_bound HV.out) hkb (fun k hk => by have := hk.2.1; omega)) (fun k hk => trivial)) HS1.out, blk_put (blk_below HK1.out HB2.out) 5 _ rfl, Kd.R_keep (Kd.R_below HR1.out HB2.out) hkb hok, ho2.set_ 5 _⟩
set_option maxHeartbeats 1600000 in
set_option maxRecDepth 100000 in
theorem wtickp_c (g : Nat) (A : Option Addr) (c : Nat) (l : List S54) (n : Int) (st p q wl nx : Nat) (w : World) (base : Nat) (ok : Nat → Prop) (hok : ∀ k, ok k → k ≠ g) (hk : PC w g (.slice A l.length c) st p q wl nx true) (hR : Kd.R k54 54 w base ok (.slice A l.length c) l) (hr : Rising l) (hl : l.length ≤ 1000) (hf : Wide st p q wl) (hnx : nx ≤ l.length) :
    Calls Try.prog 11 #[.pointer (some ⟨g, 0, none⟩), .int .i64 n] w fun e w' => ∃ (v : Value), e = .returned v ∧ Kd.R k54 54 w' w.heap.size (fun _ => True) v ((l.take (toN st p q wl nx l)).drop nx) ∧ PC w' g (.slice A l.length c) st p q wl (toN st p q wl nx l) true ∧ Kd.R k54 54 w' base ok (.slice A l.length c) l ∧ Only g w w' := by
  have hu := Try.underlying57
  have HDUE := Aside0.mk (wdue_c g A c l st p q wl nx true w hk (Kd.R_reads' hR).2.2 (Kd.R_reads' hR).2.1 hr hl hf hnx)
  have HK := Aside0.mk (show w.heap[g]? = some (.cells #[.slice A l.length c, .int .i64 st, .int .i64 p, .int .i64 q, .int .i64 wl, .int .i64 nx, .bool true] 57 (0, 0)) from hk)
  have HR := Aside0.mk hR
  have c6 : w.cell? ⟨g, 6, none⟩ = some (.bool true) := (blk_cell hk 6).trans rfl
  clear hk hR hr hl hf hnx
  go_enter Try.func11, Try.ntmps11
  go_wp2_with fail
  refine HDUE.out.mono ?_
  rintro e w5 ⟨v, w2, rfl, hv, hb, rfl⟩
  have HV := Aside0.mk hv
  have HB2 := Aside0.mk hb
  clear hv hb HDUE c6
  go_wp2
  go_ret
  have hg1 : g < w.heap.size := blk_lt HK.out
  have hkb := (KeepBut.refl w2 g none).set_ 5 (.int .i64 (toN st p q wl nx l : Int))
  have ho2 : Only g w w2 := Only.of_below HB2.out (by omega)
  refine ⟨v, rfl, Kd.R_mono (ok' := fun _ => True) (Kd.R_keep (Kd.R_bound HV.out) hkb (fun k hk => by have := hk.2.1; omega)) (fun k hk => trivial), blk_put (blk_below HK.out HB2.out) 5 _ rfl, Kd.R_keep (Kd.R_below HR.out HB2.out) hkb hok, ho2.set_ 5 _⟩
set_option maxHeartbeats 800000 in
set_option maxRecDepth 100000 in
theorem wpause_c (g : Nat) (A : Option Addr) (c : Nat) (l : List S54) (st p q wl nx : Nat) (pz on : Bool) (w : World) (base : Nat) (ok : Nat → Prop) (hok : ∀ k, ok k → k ≠ g) (hk : PC w g (.slice A l.length c) st p q wl nx pz) (hR : Kd.R k54 54 w base ok (.slice A l.length c) l) :
    Calls Try.prog 16 #[.pointer (some ⟨g, 0, none⟩), .bool on] w fun e w' => (∃ v, e = .returned v) ∧ PC w' g (.slice A l.length c) st p q wl nx on ∧ Kd.R k54 54 w' base ok (.slice A l.length c) l ∧ Only g w w' := by
  have hu := Try.underlying57
  have HK := Aside0.mk (show w.heap[g]? = some (.cells #[.slice A l.length c, .int .i64 st, .int .i64 p, .int .i64 q, .int .i64 wl, .int .i64 nx, .bool pz] 57 (0, 0)) from hk)
  have HR := Aside0.mk hR
  have c6 : w.cell? ⟨g, 6, none⟩ = some (.bool pz) := (blk_cell hk 6).trans rfl
  have f6 := blk_frozen HK.out 6
  clear hk hR
  go_enter Try.func16, Try.ntmps16
  go_wp2
  have hkb := (KeepBut.refl w g none).set_ 6 (.bool on)
  have h2 : PC (w.setCell ⟨g, 6, none⟩ (.bool on)) g (.slice A l.length c) st p q wl nx on := blk_put HK.out 6 _ rfl
  refine ⟨rfl, .tuple #[], ?_, ⟨_, rfl⟩, h2, Kd.R_keep HR.out hkb hok, (Only.refl g w).set_ 6 _⟩
  first
    | rfl
    | simp [results, Try.results16, go_sem]
/-- The wall time behind a Tick. -/
def wlT (pz : Bool) (n : Int) (wl : Nat) : Nat := if pz then wl else wl + dN n wl
theorem wlT_le {pz : Bool} {n : Int} {wl : Nat} (h : wl ≤ 4611686018427387904) : wlT pz n wl ≤ 4611686018427387904 := by
  unfold wlT dN
  split <;> omega
theorem wlT_ge (pz : Bool) (n : Int) (wl : Nat) : wl ≤ wlT pz n wl := by
  unfold wlT
  split <;> omega
theorem wtick_c (g : Nat) (A : Option Addr) (c : Nat) (l : List S54) (n : Int) (st p q wl nx : Nat) (pz : Bool) (w : World) (base : Nat) (ok : Nat → Prop) (hok : ∀ k, ok k → k ≠ g) (hk : PC w g (.slice A l.length c) st p q wl nx pz) (hR : Kd.R k54 54 w base ok (.slice A l.length c) l) (hr : Rising l) (hl : l.length ≤ 1000) (hf : Wide st p q wl) (hnx : nx ≤ l.length) :
    Calls Try.prog 11 #[.pointer (some ⟨g, 0, none⟩), .int .i64 n] w fun e w' => ∃ (v : Value), e = .returned v ∧ Kd.R k54 54 w' w.heap.size (fun _ => True) v ((l.take (toN st p q (wlT pz n wl) nx l)).drop nx) ∧ PC w' g (.slice A l.length c) st p q (wlT pz n wl) (toN st p q (wlT pz n wl) nx l) pz ∧ Kd.R k54 54 w' base ok (.slice A l.length c) l ∧ Only g w w' := by
  cases pz with
  | true => exact wtickp_c g A c l n st p q wl nx w base ok hok hk hR hr hl hf hnx
  | false => exact wtick0_c g A c l n st p q wl (wlT false n wl) nx w base ok hok hk hR hr hl rfl hf.2.2.2.2.2 ⟨hf.1, hf.2.1, hf.2.2.1, hf.2.2.2.1, hf.2.2.2.2.1, wlT_le hf.2.2.2.2.2⟩ hnx
end Go.Proofs.Ytmongghhagbokaa.PlWide
