/- play.Player's anew, Step and Speed as contracts. -/
import Derived.Test.YtmongghhagbokaaPlWide
namespace Go.Proofs.Ytmongghhagbokaa.PlStep
open Go.RowKit Go.Proofs.Ytmongghhagbokaa.Kit Go.Proofs.Ytmongghhagbokaa.Plain Go.Proofs.Ytmongghhagbokaa.Mine Go.Proofs.Ytmongghhagbokaa.Event Go.Proofs.Ytmongghhagbokaa.EventRef Go.Proofs.Ytmongghhagbokaa.EventList Go.Proofs.Ytmongghhagbokaa.EventListR Go.Proofs.Ytmongghhagbokaa.EvUntil Go.Proofs.Ytmongghhagbokaa.PlScale Go.Proofs.Ytmongghhagbokaa.PlNow Go.Proofs.Ytmongghhagbokaa.PlDue Go.Proofs.Ytmongghhagbokaa.PlPause Go.Proofs.Ytmongghhagbokaa.PlWide Go.Proofs.YtmongghhagbokaaW.PrintWords Go.Proofs.YtmongghhagbokaaW.PrintLast Go.Proofs.YtmongghhagbokaaW.PrintMore
open Go.Proofs.Ytmongghhagbokaa.PPlayRights (S54 z54 k54 k54_open k54_mk k54_mkM rd_T54 at_T54 info54)
set_option linter.unusedVariables false
set_option linter.unusedSimpArgs false
theorem listR_all (l : List S54) : ∀ t, listR t l = true → ∀ x ∈ l, right x = true := by
  induction l with
  | nil => intro t _ x hx; simp at hx
  | cons y l ih =>
    intro t h x hx
    rw [listR_cons, Bool.and_eq_true, Bool.and_eq_true] at h
    rcases List.mem_cons.1 hx with rfl | hx
    · exact h.1.1
    · exact ih _ h.2 x hx
theorem right_time {x : S54} (h : right x = true) : 0 ≤ x.f0 ∧ x.f0 < 4611686018427387904 := by
  unfold right rightB at h
  have := of_decide_eq_true h
  exact ⟨this.1, this.2.1⟩
set_option maxHeartbeats 800000 in
set_option maxRecDepth 100000 in
theorem anew_c (g : Nat) (ev : Value) (st p q wl nx t : Nat) (pz : Bool) (w : World) (hk : PC w g ev st p q wl nx pz) :
    Calls Try.prog 33 #[.pointer (some ⟨g, 0, none⟩), .int .i64 t] w fun e w' => (∃ v, e = .returned v) ∧ PC w' g ev t p q 0 nx pz ∧ Only g w w' := by
  have hu := Try.underlying57
  have HK := Aside0.mk (show w.heap[g]? = some (.cells #[ev, .int .i64 st, .int .i64 p, .int .i64 q, .int .i64 wl, .int .i64 nx, .bool pz] 57 (0, 0)) from hk)
  have c1 : w.cell? ⟨g, 1, none⟩ = some (.int .i64 st) := (blk_cell HK.out 1).trans rfl
  have c4 : w.cell? ⟨g, 4, none⟩ = some (.int .i64 wl) := (blk_cell HK.out 4).trans rfl
  have f1 := blk_frozen HK.out 1
  have f4 := blk_frozen HK.out 4
  clear hk
  go_enter Try.func33, Try.ntmps33
  go_wp2
  have h1 : (w.setCell ⟨g, 1, none⟩ (.int .i64 t)).heap[g]? = some (.cells #[ev, .int .i64 t, .int .i64 p, .int .i64 q, .int .i64 wl, .int .i64 nx, .bool pz] 57 (0, 0)) := blk_put HK.out 1 _ rfl
  refine ⟨rfl, .tuple #[], ?_, ⟨_, rfl⟩, blk_put h1 4 _ rfl, ((Only.refl g w).set_ 1 _).set_ 4 _⟩
  first
    | rfl
    | simp [results, Try.results33, go_sem]
set_option maxHeartbeats 1600000 in
set_option maxRecDepth 100000 in
/-- Speed of what is none. -/
theorem wspeed_bad (g : Nat) (ev : Value) (a b : Int) (w : World) (h : speedB a b = false) :
    Calls Try.prog 21 #[.pointer (some ⟨g, 0, none⟩), .int .i64 a, .int .i64 b] w fun e w' => e = .returned (.int .i64 3) ∧ Below w.heap.size w w' := by
  have HS := Aside0.mk (fun W => speed_c a b W)
  rw [h] at HS
  clear h
  go_enter Try.func21, Try.ntmps21
  go_wp2_with fail
  refine (HS.out _).mono ?_
  rintro e w2 ⟨rfl, hb⟩
  have HB := Aside0.mk hb
  clear hb
  go_wp2
  go_ret
  exact ⟨rfl, HB.out⟩
set_option maxHeartbeats 1600000 in
set_option maxRecDepth 100000 in
theorem wspeed_ok (g : Nat) (ev : Value) (st p q wl nx a b t : Nat) (pz : Bool) (w : World) (hk : PC w g ev st p q wl nx pz) (hf : Wide st p q wl) (h : speedB a b = true) (ht : t = min (nowN st p q wl) 4611686018427387903) :
    Calls Try.prog 21 #[.pointer (some ⟨g, 0, none⟩), .int .i64 a, .int .i64 b] w fun e w' => e = .returned (.int .i64 0) ∧ PC w' g ev t a b 0 nx pz ∧ Only g w w' := by
  have hu := Try.underlying57
  have HS := Aside0.mk (fun W => speed_c a b W)
  rw [h] at HS
  have HG := Aside0.mk (blk_lt hk)
  have HK := Aside0.mk (show w.heap[g]? = some (.cells #[ev, .int .i64 st, .int .i64 p, .int .i64 q, .int .i64 wl, .int .i64 nx, .bool pz] 57 (0, 0)) from hk)
  have HNOW := Aside0.mk (fun W (h : PC W g ev st p q wl nx pz) => wnow_c g ev st p q wl nx pz W h hf)
  obtain ⟨now, hnow⟩ : ∃ now, now = nowN st p q wl := ⟨_, rfl⟩
  rw [← hnow] at HNOW ht
  have hm1 : min (now : Int) 4611686018427387903 = (t : Int) := by omega
  have hm2 : (if (4611686018427387903 : Int) < (now : Int) then (4611686018427387903 : Int) else (now : Int)) = (t : Int) := by split <;> omega
  clear h hk hf hnow ht
  go_enter Try.func21, Try.ntmps21
  go_wp2_with fail
  refine (HS.out _).mono ?_
  rintro e w2 ⟨rfl, hb⟩
  have HB := Aside0.mk hb
  have HK2 := Aside0.mk (show PC w2 g ev st p q wl nx pz from blk_below HK.out hb)
  clear hb
  go_wp2_with fail
  refine (HNOW.out _ HK2.out).mono ?_
  rintro e w3 ⟨rfl, hb⟩
  have HB3 := Aside0.mk (below_kept HB.out hb)
  have HK3 := Aside0.mk (show PC w3 g ev st p q wl nx pz from blk_below HK2.out hb)
  clear hb HNOW HS
  go_wp2_with fail
  refine (anew_c g ev st p q wl nx t pz w3 HK3.out).mono ?_
  rintro e w4 ⟨⟨v, rfl⟩, hp, ho⟩
  have HO4 := Aside0.mk ((Only.of_below (g := g) HB3.out (Nat.le_of_lt HG.out)).trans ho)
  have HK4 := Aside0.mk (show w4.heap[g]? = some (.cells #[ev, .int .i64 t, .int .i64 p, .int .i64 q, .int .i64 (0 : Nat), .int .i64 nx, .bool pz] 57 (0, 0)) from hp)
  have c2 : w4.cell? ⟨g, 2, none⟩ = some (.int .i64 p) := (blk_cell HK4.out 2).trans rfl
  have c3 : w4.cell? ⟨g, 3, none⟩ = some (.int .i64 q) := (blk_cell HK4.out 3).trans rfl
  have f2 := blk_frozen HK4.out 2
  have f3 := blk_frozen HK4.out 3
  clear hp ho hm1 hm2
  go_wp2
  go_ret
  have h1 : (w4.setCell ⟨g, 2, none⟩ (.int .i64 a)).heap[g]? = some (.cells #[ev, .int .i64 t, .int .i64 a, .int .i64 q, .int .i64 (0 : Nat), .int .i64 nx, .bool pz] 57 (0, 0)) := blk_put HK4.out 2 _ rfl
  exact ⟨rfl, blk_put h1 3 _ rfl, (HO4.out.set_ 2 _).set_ 3 _⟩
set_option maxHeartbeats 1600000 in
set_option maxRecDepth 100000 in
/-- Step of a player that told all. -/
theorem step_end (g : Nat) (A : Option Addr) (c : Nat) (l : List S54) (st p q wl : Nat) (pz : Bool) (w : World) (hk : PC w g (.slice A l.length c) st p q wl l.length pz) (hl : l.length < 1000000000) :
    Calls Try.prog 20 #[.pointer (some ⟨g, 0, none⟩)] w fun e w' => e = .returned (.slice none 0 0) ∧ Below w.heap.size w w' := by
  have hu := Try.underlying57
  have HL := Aside0.mk (left_c g A l.length c st p q wl l.length pz w hk (Nat.le_refl _) hl)
  rw [Nat.sub_self] at HL
  clear hk hl
  go_enter Try.func20, Try.ntmps20
  go_wp2_with fail
  refine HL.out.mono ?_
  rintro e w2 ⟨rfl, hb⟩
  have HB := Aside0.mk hb
  clear hb
  go_wp2
  go_ret
  exact ⟨rfl, HB.out⟩
set_option maxHeartbeats 3200000 in
set_option maxRecDepth 100000 in
theorem step_c (g : Nat) (A : Option Addr) (c : Nat) (l : List S54) (st p q wl nx t : Nat) (pz : Bool) (w : World) (base : Nat) (ok : Nat → Prop) (hok : ∀ k, ok k → k ≠ g) (hk : PC w g (.slice A l.length c) st p q wl nx pz) (hR : Kd.R k54 54 w base ok (.slice A l.length c) l) (hr : Rising l) (hl : l.length ≤ 1000) (hf : Wide st p q wl) (hnx : nx < l.length) (ht : (l[nx]).f0 = (t : Int)) (ht2 : t < 4611686018427387904) :
    Calls Try.prog 20 #[.pointer (some ⟨g, 0, none⟩)] w fun e w' => ∃ (v : Value), e = .returned v ∧ Kd.R k54 54 w' w.heap.size (fun _ => True) v ((l.take (toN t p q 0 nx l)).drop nx) ∧ PC w' g (.slice A l.length c) t p q 0 (toN t p q 0 nx l) pz ∧ Kd.R k54 54 w' base ok (.slice A l.length c) l ∧ Only g w w' := by
  have hu := Try.underlying57
  have HL := Aside0.mk (left_c g A l.length c st p q wl nx pz w hk (Nat.le_of_lt hnx) (by omega))
  have HG := Aside0.mk (blk_lt hk)
  have HR := Aside0.mk hR
  have hlc : l.length ≤ c := (Kd.R_reads' hR).2.1
  have HDUE := Aside0.mk (fun W (h : PC W g (.slice A l.length c) t p q 0 nx pz) (h2 : Kd.C k54 W A l.length l) => wdue_c g A c l t p q 0 nx pz W h h2 hlc hr hl ⟨ht2, hf.2.1, hf.2.2.1, hf.2.2.2.1, hf.2.2.2.2.1, Nat.zero_le _⟩ (Nat.le_of_lt hnx))
  have HK := Aside0.mk (show w.heap[g]? = some (.cells #[.slice A l.length c, .int .i64 st, .int .i64 p, .int .i64 q, .int .i64 wl, .int .i64 nx, .bool pz] 57 (0, 0)) from hk)
  have HC := Aside0.mk (fun W (h : Kd.C k54 W A l.length l) => at_ev h nx hnx)
  obtain ⟨n, hn⟩ : ∃ n, n = l.length := ⟨_, rfl⟩
  obtain ⟨lf, hlf⟩ : ∃ lf, lf = l.length - nx := ⟨_, rfl⟩
  rw [← hlf] at HL
  have hlf0 : (0 : Int) < lf := by omega
  have hlfe : ((lf : Int) == 0) = false := beq_eq_false_iff_ne.mpr (by omega)
  have hlfd : decide ((lf : Int) = 0) = false := decide_eq_false (by omega)
  have hni : (nx : Int) < l.length := by omega
  have HTT := Aside0.mk ht
  clear hk hR hlc hr hl hf ht ht2
  go_enter Try.func20, Try.ntmps20
  go_wp2_with fail
  refine HL.out.mono ?_
  rintro e w2 ⟨rfl, hb⟩
  have HB := Aside0.mk hb
  have HK2 := Aside0.mk (blk_below HK.out hb)
  have HR2 := Aside0.mk (Kd.R_below HR.out hb)
  clear hb
  go_upto_region 3 with fail
  have HR2d := Aside0.mk (Kd.R_drew HR2.out)
  obtain ⟨ad, ead, hc0, _⟩ := HC.out _ (Kd.R_reads' HR2d.out).2.2
  rw [HTT.out] at hc0
  subst ead
  have c0 : w2.drew.cell? ⟨g, 0, none⟩ = some (.slice (some ad) l.length c) := (blk_cell (blk_drew HK2.out) 0).trans rfl
  have c5 : w2.drew.cell? ⟨g, 5, none⟩ = some (.int .i64 nx) := (blk_cell (blk_drew HK2.out) 5).trans rfl
  have HAN := Aside0.mk (anew_c g (.slice (some ad) l.length c) st p q wl nx t pz w2.drew (blk_drew HK2.out))
  have HO2 := Aside0.mk (show Only g w w2.drew from Only.of_below (below_drew HB.out) (Nat.le_of_lt HG.out))
  clear hlf0 hlfe hlfd hn hlf HL
  refine start_ (n := 13) (S := fun w' => w'.cell? ⟨g, 0, none⟩ = some (.slice (some ad) l.length c) ∧ w'.cell? ⟨g, 5, none⟩ = some (.int .i64 nx) ∧ w'.cell? (ad.add (nx * 5)) = some (.int .i64 t)) (ds := []) #[false, false, false, false, false, false, false, false, false, false, false, false, false] (by kernel_rfl) rfl rfl ⟨c0, c5, hc0⟩ (fun hHeld => ?_)
  refine pure_ (i := 0) (N := some 6) (v := ?_) (a' := ?_) #[true, false, false, false, false, false, false, false, false, false, false, false, false] rfl rfl (by kernel_rfl) (fun _ _ _ h => h) (Or.inl ⟨by rfl, ?_⟩) ?_ ?_
  rotate_left
  · intro w'
    go_simp
    with_reducible rfl
  rotate_left
  · simp only [Act.put, List.setIfInBounds_toArray, List.set_cons_zero, List.set_cons_succ, i64_w, i32_w]
    rfl
  refine pure_ (i := 1) (N := some 7) (v := ?_) (a' := ?_) #[true, true, false, false, false, false, false, false, false, false, false, false, false] rfl rfl (by kernel_rfl) (fun _ _ _ h => h) (Or.inl ⟨by rfl, ?_⟩) ?_ ?_
  rotate_left
  · intro w'
    go_simp
    with_reducible rfl
  rotate_left
  · simp only [Act.put, List.setIfInBounds_toArray, List.set_cons_zero, List.set_cons_succ, i64_w, i32_w]
    rfl
  refine pure_ (i := 2) (N := some 8) (v := ?_) (a' := ?_) #[true, true, true, false, false, false, false, false, false, false, false, false, false] rfl rfl (by kernel_rfl) (fun _ _ _ h => h) (Or.inl ⟨by rfl, ?_⟩) ?_ ?_
  rotate_left
  · intro w'
    go_simp
    with_reducible rfl
  rotate_left
  · simp only [Act.put, List.setIfInBounds_toArray, List.set_cons_zero, List.set_cons_succ, i64_w, i32_w]
    rfl
  refine pure_ (i := 3) (N := some 9) (v := ?_) (a' := ?_) #[true, true, true, true, false, false, false, false, false, false, false, false, false] rfl rfl (by kernel_rfl) (fun _ _ _ h => h) (Or.inl ⟨by rfl, ?_⟩) ?_ ?_
  rotate_left
  · intro w'
    go_simp
    with_reducible rfl
  rotate_left
  · simp only [Act.put, List.setIfInBounds_toArray, List.set_cons_zero, List.set_cons_succ, i64_w, i32_w]
    rfl
  refine pure_ (i := 5) (N := some 11) (v := ?_) (a' := ?_) #[true, true, true, true, false, true, false, false, false, false, false, false, false] rfl rfl (by kernel_rfl) (fun _ _ _ h => h) (Or.inl ⟨by rfl, ?_⟩) ?_ ?_
  rotate_left
  · intro w'
    go_simp
    with_reducible rfl
  rotate_left
  · simp only [Act.put, List.setIfInBounds_toArray, List.set_cons_zero, List.set_cons_succ, i64_w, i32_w]
    rfl
  refine pure_ (i := 6) (N := some 12) (v := ?_) (a' := ?_) #[true, true, true, true, false, true, true, false, false, false, false, false, false] rfl rfl (by kernel_rfl) (fun _ _ _ h => h) (Or.inl ⟨by rfl, ?_⟩) ?_ ?_
  rotate_left
  · intro w'
    go_simp
    with_reducible rfl
  rotate_left
  · simp only [Act.put, List.setIfInBounds_toArray, List.set_cons_zero, List.set_cons_succ, i64_w, i32_w]
    rfl
  refine pure_ (i := 7) (N := some 13) (v := ?_) (a' := ?_) #[true, true, true, true, false, true, true, true, false, false, false, false, false] rfl rfl (by kernel_rfl) (fun _ _ _ h => h) (Or.inl ⟨by rfl, ?_⟩) ?_ ?_
  rotate_left
  · intro w'
    go_simp
    with_reducible rfl
  rotate_left
  · simp only [Act.put, List.setIfInBounds_toArray, List.set_cons_zero, List.set_cons_succ, i64_w, i32_w]
    rfl
  refine take_ (i := 4) (N := some 10) (v := ?_) (a' := ?_) #[true, true, true, true, true, true, true, true, false, false, false, false, false] rfl rfl (by kernel_rfl) (fun _ _ _ h => h) (Or.inl ⟨by rfl, ?_⟩) hHeld ?_ ?_
  rotate_left
  · rintro w' ⟨s0, s1, s2⟩
    go_simp
    with_reducible rfl
  rotate_left
  · simp only [Act.put, List.setIfInBounds_toArray, List.set_cons_zero, List.set_cons_succ, i64_w, i32_w]
    rfl
  refine take_ (i := 8) (N := some 14) (v := ?_) (a' := ?_) #[true, true, true, true, true, true, true, true, true, false, false, false, false] rfl rfl (by kernel_rfl) (fun _ _ _ h => h) (Or.inl ⟨by rfl, ?_⟩) hHeld ?_ ?_
  rotate_left
  · rintro w' ⟨s0, s1, s2⟩
    go_simp
    with_reducible rfl
  rotate_left
  · simp only [Act.put, List.setIfInBounds_toArray, List.set_cons_zero, List.set_cons_succ, i64_w, i32_w]
    rfl
  refine pure_ (i := 9) (N := some 15) (v := ?_) (a' := ?_) #[true, true, true, true, true, true, true, true, true, true, false, false, false] rfl rfl (by kernel_rfl) (fun _ _ _ h => h) (Or.inl ⟨by rfl, ?_⟩) ?_ ?_
  rotate_left
  · intro w'
    go_simp
    with_reducible rfl
  rotate_left
  · simp only [Act.put, List.setIfInBounds_toArray, List.set_cons_zero, List.set_cons_succ, i64_w, i32_w]
    rfl
  refine pure_ (i := 10) (N := some 16) (v := ?_) (a' := ?_) #[true, true, true, true, true, true, true, true, true, true, true, false, false] rfl rfl (by kernel_rfl) (fun _ _ _ h => h) (Or.inl ⟨by rfl, ?_⟩) ?_ ?_
  rotate_left
  · intro w'
    go_simp
    with_reducible rfl
  rotate_left
  · simp only [Act.put, List.setIfInBounds_toArray, List.set_cons_zero, List.set_cons_succ, i64_w, i32_w]
    rfl
  refine take_ (i := 11) (N := some 17) (v := ?_) (a' := ?_) #[true, true, true, true, true, true, true, true, true, true, true, true, false] rfl rfl (by kernel_rfl) (fun _ _ _ h => h) (Or.inl ⟨by rfl, ?_⟩) hHeld ?_ ?_
  rotate_left
  · rintro w' ⟨s0, s1, s2⟩
    go_simp
    with_reducible rfl
  rotate_left
  · simp only [Act.put, List.setIfInBounds_toArray, List.set_cons_zero, List.set_cons_succ, i64_w, i32_w]
    rfl
  refine one_ (i := 12) (N := some 18) #[true, true, true, true, true, true, true, true, true, true, true, true, true] rfl rfl (by kernel_rfl) (by decide) (fun K hK => ?_)
  refine goes_ Try.func33 (by kernel_rfl) rfl #[.pointer (some ⟨g, 0, none⟩), .int .i64 t] (by rfl) rfl rfl (by simp only [List.map_toArray, List.map_cons, List.map_nil]; rfl) ?_
  with_reducible refine (HAN.out).mono ?_
  rintro e w3 ⟨⟨v3, rfl⟩, hp, ho⟩
  refine ⟨_, rfl, ?_⟩
  have HK3 := Aside0.mk (show w3.heap[g]? = some (.cells #[.slice (some ad) l.length c, .int .i64 t, .int .i64 p, .int .i64 q, .int .i64 (0 : Nat), .int .i64 nx, .bool pz] 57 (0, 0)) from hp)
  have HR3 := Aside0.mk (ho.R HR2d.out hok)
  have HO3 := Aside0.mk (HO2.out.trans ho)
  clear hp ho
  have d0 := (blk_cell HK3.out 0).trans (rfl : _ = some (Value.slice (some ad) l.length c))
  have d5 := (blk_cell HK3.out 5).trans (rfl : _ = some (Value.int .i64 nx))
  obtain ⟨ad3, ead3, d1, _⟩ := HC.out _ (Kd.R_reads' HR3.out).2.2
  rw [HTT.out] at d1
  obtain rfl := Option.some.inj ead3
  refine hK.out _ _ ⟨d0, d5, d1⟩ (fun hHeld => ?_)
  clear hK K
  refine norm_ (a' := ?_) ?_ ?_
  rotate_left
  · show Act.put _ (some 18) _ = _
    simp only [Act.put, List.setIfInBounds_toArray, List.set_cons_zero, List.set_cons_succ, i64_w, i32_w]
    rfl
  refine done_ (by kernel_rfl) ?_
  clear c0 c5 hc0 d0 d5 d1
  go_wp2_with fail
  refine (HDUE.out w3 HK3.out (Kd.R_reads' HR3.out).2.2).mono ?_
  rintro e w5 ⟨v, w4, rfl, hv, hb, rfl⟩
  have HV := Aside0.mk hv
  have HB4 := Aside0.mk hb
  clear hv hb HDUE
  go_wp2
  go_ret
  have hg1 : g < w3.heap.size := blk_lt HK3.out
  have hkb := (KeepBut.refl w4 g none).set_ 5 (.int .i64 (toN t p q 0 nx l : Int))
  have ho2 : Only g w w4 := HO3.out.trans (Only.of_below HB4.out (Nat.le_of_lt hg1))
  refine ⟨v, rfl, Kd.R_lower (Kd.R_mono (ok' := fun _ => True) (Kd.R_keep (Kd.R_bound HV.out) hkb (fun k hk => by have := hk.2.1; omega)) (fun k hk => trivial)) HO3.out.1.size, blk_put (blk_below HK3.out HB4.out) 5 _ rfl, Kd.R_keep (Kd.R_below HR3.out HB4.out) hkb hok, ho2.set_ 5 _⟩
/-! The list's law: what is not told yet is later than now. -/
theorem countT_lt {l : List S54} (hr : Rising l) {i : Nat} (hi : i < l.length) {t : Int} (h : (l[i]).f0 ≤ t) : i < countT t l := by
  unfold countT
  have e : l.take (i + 1) ++ l.drop (i + 1) = l := List.take_append_drop _ _
  have h1 : (l.take (i + 1)).countP (fun x => decide (x.f0 ≤ t)) = i + 1 := by
    rw [List.countP_eq_length.2, List.length_take]
    · omega
    · intro x hx
      obtain ⟨j, hj, rfl⟩ := List.getElem_of_mem hx
      rw [List.length_take] at hj
      rw [List.getElem_take]
      refine decide_eq_true ?_
      have := hr j i (by omega) hi (by omega)
      omega
  have h2 : l.countP (fun x => decide (x.f0 ≤ t)) = (l.take (i + 1)).countP (fun x => decide (x.f0 ≤ t)) + (l.drop (i + 1)).countP (fun x => decide (x.f0 ≤ t)) := by
    rw [← List.countP_append, e]
  first
    | exact (by rw [h2, h1]; omega)
    | (show i < List.countP _ l; omega)
theorem next_later {l : List S54} (hr : Rising l) {nx : Nat} (hnx : nx < l.length) {t : Int} (h : countT t l ≤ nx) : t < (l[nx]).f0 := by
  by_cases hh : (l[nx]).f0 ≤ t
  · have := countT_lt hr hnx hh
    omega
  · omega
end Go.Proofs.Ytmongghhagbokaa.PlStep
