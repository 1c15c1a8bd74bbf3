/- What the laws PlayOnce and PlayRuns hold of a player between two deeds, and its functions as contracts on that. -/
import Derived.Test.YtmongghhagbokaaPlStep
namespace Go.Proofs.Ytmongghhagbokaa.PlOnceC
open Go.RowKit Go.Proofs.Ytmongghhagbokaa.Kit Go.Proofs.Ytmongghhagbokaa.Plain Go.Proofs.Ytmongghhagbokaa.Mine Go.Proofs.Ytmongghhagbokaa.Event Go.Proofs.Ytmongghhagbokaa.EventRef Go.Proofs.Ytmongghhagbokaa.EventList Go.Proofs.Ytmongghhagbokaa.EventListR Go.Proofs.Ytmongghhagbokaa.EvUntil Go.Proofs.Ytmongghhagbokaa.PlScale Go.Proofs.Ytmongghhagbokaa.PlNow Go.Proofs.Ytmongghhagbokaa.PlDue Go.Proofs.Ytmongghhagbokaa.PlPause Go.Proofs.Ytmongghhagbokaa.PlWide Go.Proofs.Ytmongghhagbokaa.PlStep Go.Proofs.YtmongghhagbokaaW.PrintWords Go.Proofs.YtmongghhagbokaaW.PrintLast Go.Proofs.YtmongghhagbokaaW.PrintMore
open Go.Proofs.Ytmongghhagbokaa.PPlayRights (S54 z54 k54 k54_open k54_mk k54_mkM rd_T54 at_T54 info54)
set_option linter.unusedVariables false
set_option linter.unusedSimpArgs false
/-- A player's state between two deeds; `nt` events stand in what was told. -/
structure SO (w w4 W : World) (g : Nat) (A : Option Addr) (c : Nat) (l : List S54) (sv v : Value) (st p q wl nx nt : Nat) (pz : Bool) : Prop where
  wide : Wide st p q wl
  nxl : nx ≤ l.length
  ntx : nt ≤ nx
  due : countT (nowN st p q wl : Int) l ≤ nx
  pc : PC W g (.slice A l.length c) st p q wl nx pz
  ev : Kd.R k54 54 W w.heap.size (fun k => k < w4.heap.size ∧ k ≠ g) (.slice A l.length c) l
  told : Kd.R k54 54 W w4.heap.size (fun _ => True) v (l.take nt)
  src : Kd.R k54 54 W w.heap.size (fun k => k < w4.heap.size ∧ k ≠ g) sv l
  glt : g < w4.heap.size
  wg : w.heap.size ≤ g
  below : Below w.heap.size w W
  size : w4.heap.size ≤ W.heap.size
theorem SO.step {w w4 W W' : World} {g : Nat} {A : Option Addr} {c : Nat} {l : List S54} {sv v : Value} {st p q wl nx nt : Nat} {pz : Bool} (h : SO w w4 W g A c l sv v st p q wl nx nt pz) (ho : Only g W W') {st' p' q' wl' nx' : Nat} {pz' : Bool}
    (hpc : PC W' g (.slice A l.length c) st' p' q' wl' nx' pz') (hw : Wide st' p' q' wl') (hn : nx' ≤ l.length) (hx : nx ≤ nx') (hd : countT (nowN st' p' q' wl' : Int) l ≤ nx') : SO w w4 W' g A c l sv v st' p' q' wl' nx' nt pz' :=
  ⟨hw, hn, Nat.le_trans h.ntx hx, hd, hpc, ho.R h.ev (fun _ h => h.2), ho.Rbase h.told h.glt, ho.R h.src (fun _ h => h.2), h.glt, h.wg, h.below.trans (ho.below h.wg), Nat.le_trans h.size ho.1.size⟩
theorem SO.on {w w4 W W' : World} {g : Nat} {A : Option Addr} {c : Nat} {l : List S54} {sv v : Value} {st p q wl nx nt : Nat} {pz : Bool} (h : SO w w4 W g A c l sv v st p q wl nx nt pz) (hb : Below W.heap.size W W') : SO w w4 W' g A c l sv v st p q wl nx nt pz :=
  h.step (Only.of_below hb (Nat.le_trans (Nat.le_of_lt h.glt) h.size)) (blk_below h.pc hb) h.wide h.nxl (Nat.le_refl _) h.due
/-- What was told grows behind the player's own blocks. -/
theorem SO.grow {w w4 W W' : World} {g : Nat} {A : Option Addr} {c : Nat} {l : List S54} {sv v v' : Value} {st p q wl nx nt nt' : Nat} {pz : Bool} (h : SO w w4 W g A c l sv v st p q wl nx nt pz) (hb : Below w4.heap.size W W') (hv : Kd.R k54 54 W' w4.heap.size (fun _ => True) v' (l.take nt')) (hn : nt' ≤ nx) : SO w w4 W' g A c l sv v' st p q wl nx nt' pz :=
  ⟨h.wide, h.nxl, hn, h.due, (hb.block g h.glt).trans h.pc, Kd.R_step h.ev (fun j hj _ => hb.block j hj.1), hv, Kd.R_step h.src (fun j hj _ => hb.block j hj.1), h.glt, h.wg, h.below.trans (hb.mono (Nat.le_trans h.wg (Nat.le_of_lt h.glt))), Nat.le_trans h.size hb.size⟩
/-- The same, whatever its beginning, speed and wall time; its time. -/
def SE (w w4 W : World) (g : Nat) (A : Option Addr) (c : Nat) (l : List S54) (sv v : Value) (nx nt now : Nat) : Prop :=
  ∃ (st p q wl : Nat) (pz : Bool), SO w w4 W g A c l sv v st p q wl nx nt pz ∧ now = nowN st p q wl
section
variable {w w4 W W' : World} {g : Nat} {A : Option Addr} {c : Nat} {l : List S54} {sv v : Value} {nx nt now : Nat}
theorem SE.on (h : SE w w4 W g A c l sv v nx nt now) (hb : Below W.heap.size W W') : SE w w4 W' g A c l sv v nx nt now := by
  obtain ⟨st, p, q, wl, pz, h, e⟩ := h
  exact ⟨st, p, q, wl, pz, h.on hb, e⟩
theorem SE.grow {v' : Value} {nt' : Nat} (h : SE w w4 W g A c l sv v nx nt now) (hb : Below w4.heap.size W W') (hv : Kd.R k54 54 W' w4.heap.size (fun _ => True) v' (l.take nt')) (hn : nt' ≤ nx) : SE w w4 W' g A c l sv v' nx nt' now := by
  obtain ⟨st, p, q, wl, pz, h, e⟩ := h
  exact ⟨st, p, q, wl, pz, h.grow hb hv hn, e⟩
theorem SE.size (h : SE w w4 W g A c l sv v nx nt now) : w4.heap.size ≤ W.heap.size := by
  obtain ⟨st, p, q, wl, pz, h, e⟩ := h
  exact h.size
theorem SE.below (h : SE w w4 W g A c l sv v nx nt now) : Below w.heap.size w W := by
  obtain ⟨st, p, q, wl, pz, h, e⟩ := h
  exact h.below
theorem SE.told (h : SE w w4 W g A c l sv v nx nt now) : Kd.R k54 54 W w4.heap.size (fun _ => True) v (l.take nt) := by
  obtain ⟨st, p, q, wl, pz, h, e⟩ := h
  exact h.told
theorem SE.src (h : SE w w4 W g A c l sv v nx nt now) : Kd.R k54 54 W w.heap.size (fun k => k < w4.heap.size ∧ k ≠ g) sv l := by
  obtain ⟨st, p, q, wl, pz, h, e⟩ := h
  exact h.src
theorem SE.nxl (h : SE w w4 W g A c l sv v nx nt now) : nx ≤ l.length := by
  obtain ⟨st, p, q, wl, pz, h, e⟩ := h
  exact h.nxl
theorem SE.now_le (h : SE w w4 W g A c l sv v nx nt now) : now ≤ 4611686018427387904 := by
  obtain ⟨st, p, q, wl, pz, h, rfl⟩ := h
  exact Nat.min_le_right _ _
theorem now_zero {st p q : Nat} (h : st < 4611686018427387904) : nowN st p q 0 = st := by
  unfold nowN scl
  rw [Nat.zero_mul, Nat.zero_div]
  omega
theorem now_c' (h : SE w w4 W g A c l sv v nx nt now) :
    Calls Try.prog 13 #[.pointer (some ⟨g, 0, none⟩)] W fun e w' => e = .returned (.int .i64 (now : Int)) ∧ SE w w4 w' g A c l sv v nx nt now := by
  obtain ⟨st, p, q, wl, pz, h, rfl⟩ := h
  refine (wnow_c g _ st p q wl nx pz W h.pc h.wide).mono ?_
  rintro e w1 ⟨rfl, hb⟩
  exact ⟨rfl, st, p, q, wl, pz, h.on hb, rfl⟩
theorem left_c' (hl : l.length ≤ 60) (h : SE w w4 W g A c l sv v nx nt now) :
    Calls Try.prog 14 #[.pointer (some ⟨g, 0, none⟩)] W fun e w' => e = .returned (.int .i64 ((l.length - nx : Nat) : Int)) ∧ SE w w4 w' g A c l sv v nx nt now := by
  obtain ⟨st, p, q, wl, pz, h, rfl⟩ := h
  refine (left_c g A l.length c st p q wl nx pz W h.pc h.nxl (by omega)).mono ?_
  rintro e w1 ⟨rfl, hb⟩
  exact ⟨rfl, st, p, q, wl, pz, h.on hb, rfl⟩
theorem tick_c' (hr : listR 0 l = true) (hl : l.length ≤ 60) (n : Int) (h : SE w w4 W g A c l sv v nx nt now) :
    Calls Try.prog 11 #[.pointer (some ⟨g, 0, none⟩), .int .i64 n] W fun e w' => ∃ (A2 : Option Addr) (c2 nx' now' : Nat), e = .returned (.slice A2 ((l.take nx').drop nx).length c2) ∧ Kd.C k54 w' A2 ((l.take nx').drop nx).length ((l.take nx').drop nx) ∧ nx ≤ nx' ∧ now ≤ now' ∧ SE w w4 w' g A c l sv v nx' nt now' := by
  obtain ⟨st, p, q, wl, pz, h, rfl⟩ := h
  refine (wtick_c g A c l n st p q wl nx pz W w.heap.size _ (fun _ h => h.2) h.pc h.ev (listR_rising l 0 hr) (by omega) h.wide h.nxl).mono ?_
  rintro e w1 ⟨u, rfl, hu, hp, hev, ho⟩
  obtain ⟨A2, c2, rfl⟩ := Kd.R_slice hu
  obtain ⟨wl', hwl'⟩ : ∃ wl', wl' = wlT pz n wl := ⟨_, rfl⟩
  obtain ⟨nx', hnx'⟩ : ∃ nx', nx' = toN st p q wl' nx l := ⟨_, rfl⟩
  rw [← hwl', ← hnx'] at hp hu
  rw [← hwl', ← hnx']
  have h1 : nx ≤ nx' := by rw [hnx']; exact Nat.le_max_right _ _
  have h2 : countT (nowN st p q wl' : Int) l ≤ nx' := by rw [hnx']; exact Nat.le_max_left _ _
  have h3 : nx' ≤ l.length := by rw [hnx']; exact Nat.max_le.2 ⟨countT_le _ _, h.nxl⟩
  have hw := h.wide
  exact ⟨A2, c2, nx', nowN st p q wl', rfl, (Kd.R_reads' hu).2.2, h1, now_mono (by rw [hwl']; exact wlT_ge _ _ _), st, p, q, wl', pz, h.step ho hp ⟨hw.1, hw.2.1, hw.2.2.1, hw.2.2.2.1, hw.2.2.2.2.1, by rw [hwl']; exact wlT_le hw.2.2.2.2.2⟩ h3 h1 h2, rfl⟩
theorem step_c' (hr : listR 0 l = true) (hl : l.length ≤ 60) (h : SE w w4 W g A c l sv v nx nt now) :
    Calls Try.prog 20 #[.pointer (some ⟨g, 0, none⟩)] W fun e w' => ∃ (A2 : Option Addr) (c2 nx' now' : Nat), e = .returned (.slice A2 ((l.take nx').drop nx).length c2) ∧ Kd.C k54 w' A2 ((l.take nx').drop nx).length ((l.take nx').drop nx) ∧ nx ≤ nx' ∧ (nx < l.length → nx < nx') ∧ now ≤ now' ∧ SE w w4 w' g A c l sv v nx' nt now' := by
  obtain ⟨st, p, q, wl, pz, h, rfl⟩ := h
  by_cases hx : nx < l.length
  · have hri := listR_rising l 0 hr
    have ht := right_time (listR_all l 0 hr (l[nx]) (List.getElem_mem hx))
    obtain ⟨t, e⟩ : ∃ t : Nat, (l[nx]).f0 = (t : Int) := ⟨((l[nx]).f0).toNat, by omega⟩
    have ht2 : t < 4611686018427387904 := by omega
    refine (step_c g A c l st p q wl nx t pz W w.heap.size _ (fun _ h => h.2) h.pc h.ev hri (by omega) h.wide hx e ht2).mono ?_
    rintro e1 w1 ⟨u, rfl, hu, hp, hev, ho⟩
    obtain ⟨A2, c2, rfl⟩ := Kd.R_slice hu
    obtain ⟨nx', hnx'⟩ : ∃ nx', nx' = toN t p q 0 nx l := ⟨_, rfl⟩
    rw [← hnx'] at hp hu
    rw [← hnx']
    have h1 : nx ≤ nx' := by rw [hnx']; exact Nat.le_max_right _ _
    have h2 : countT (nowN t p q 0 : Int) l ≤ nx' := by rw [hnx']; exact Nat.le_max_left _ _
    have h3 : nx' ≤ l.length := by rw [hnx']; exact Nat.max_le.2 ⟨countT_le _ _, h.nxl⟩
    have h4 := countT_lt hri hx (t := (t : Int)) (by omega)
    have h5 := next_later hri hx h.due
    have hz := now_zero (p := p) (q := q) ht2
    rw [hz] at h2
    have hw := h.wide
    exact ⟨A2, c2, nx', nowN t p q 0, rfl, (Kd.R_reads' hu).2.2, h1, fun _ => by omega, by rw [hz]; omega, t, p, q, 0, pz, h.step ho hp ⟨ht2, hw.2.1, hw.2.2.1, hw.2.2.2.1, hw.2.2.2.2.1, Nat.zero_le _⟩ h3 h1 (by rw [hz]; exact h2), rfl⟩
  · have hn : nx = l.length := Nat.le_antisymm h.nxl (by omega)
    subst hn
    refine (Go.Proofs.Ytmongghhagbokaa.PlStep.step_end g A c l st p q wl pz W h.pc (by omega)).mono ?_
    rintro e1 w1 ⟨rfl, hb⟩
    have hnil : (l.take l.length).drop l.length = [] := by rw [List.take_length, List.drop_length]
    refine ⟨none, 0, l.length, nowN st p q wl, by rw [hnil]; rfl, by rw [hnil]; exact Kd.C_nil _ _, Nat.le_refl _, fun h => h, Nat.le_refl _, st, p, q, wl, pz, h.on hb, rfl⟩
theorem pause_c' (on : Bool) (h : SE w w4 W g A c l sv v nx nt now) :
    Calls Try.prog 16 #[.pointer (some ⟨g, 0, none⟩), .bool on] W fun e w' => (∃ u, e = .returned u) ∧ SE w w4 w' g A c l sv v nx nt now := by
  obtain ⟨st, p, q, wl, pz, h, rfl⟩ := h
  refine (wpause_c g A c l st p q wl nx pz on W w.heap.size _ (fun _ h => h.2) h.pc h.ev).mono ?_
  rintro e w1 ⟨hu, hp, hev, ho⟩
  exact ⟨hu, st, p, q, wl, on, h.step ho hp h.wide h.nxl (Nat.le_refl _) h.due, rfl⟩
theorem speed_c' (a b : Int) (h : SE w w4 W g A c l sv v nx nt now) :
    Calls Try.prog 21 #[.pointer (some ⟨g, 0, none⟩), .int .i64 a, .int .i64 b] W fun e w' => ∃ (u : Value) (now' : Nat), e = .returned u ∧ (now ≤ now' ∨ now = 4611686018427387904) ∧ SE w w4 w' g A c l sv v nx nt now' := by
  obtain ⟨st, p, q, wl, pz, h, rfl⟩ := h
  cases hs : speedB a b with
  | false =>
    refine (wspeed_bad g (.slice A l.length c) a b W hs).mono ?_
    rintro e w1 ⟨rfl, hb⟩
    exact ⟨_, _, rfl, .inl (Nat.le_refl _), st, p, q, wl, pz, h.on hb, rfl⟩
  | true =>
    have hab := of_decide_eq_true hs
    obtain ⟨a', rfl⟩ : ∃ n : Nat, a = n := ⟨a.toNat, by omega⟩
    obtain ⟨b', rfl⟩ : ∃ n : Nat, b = n := ⟨b.toNat, by omega⟩
    obtain ⟨t, ht⟩ : ∃ t, t = min (nowN st p q wl) 4611686018427387903 := ⟨_, rfl⟩
    refine (wspeed_ok g (.slice A l.length c) st p q wl nx a' b' t pz W h.pc h.wide hs ht).mono ?_
    rintro e w1 ⟨rfl, hp, ho⟩
    have ht2 : t < 4611686018427387904 := by omega
    have hle : nowN st p q wl ≤ 4611686018427387904 := Nat.min_le_right _ _
    have hz := now_zero (p := a') (q := b') ht2
    refine ⟨_, nowN t a' b' 0, rfl, by rw [hz]; omega, t, a', b', 0, pz, h.step ho hp ⟨ht2, by omega, by omega, by omega, by omega, Nat.zero_le _⟩ h.nxl (Nat.le_refl _) ?_, rfl⟩
    rw [hz]
    exact Nat.le_trans (countT_mono (Int.ofNat_le.2 (by omega)) l) h.due
end
end Go.Proofs.Ytmongghhagbokaa.PlOnceC
