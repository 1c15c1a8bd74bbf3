/- What the law PlayRuns holds of the player and the reference's player, and their functions as contracts on that. -/
import Derived.Test.YtmongghhagbokaaPlRefT
namespace Go.Proofs.Ytmongghhagbokaa.PlRunsC
open Go.RowKit Go.Proofs.Ytmongghhagbokaa.Kit Go.Proofs.Ytmongghhagbokaa.Plain Go.Proofs.Ytmongghhagbokaa.Mine Go.Proofs.Ytmongghhagbokaa.Event Go.Proofs.Ytmongghhagbokaa.EventRef Go.Proofs.Ytmongghhagbokaa.EventList Go.Proofs.Ytmongghhagbokaa.EventListR Go.Proofs.Ytmongghhagbokaa.EvUntil Go.Proofs.Ytmongghhagbokaa.PlScale Go.Proofs.Ytmongghhagbokaa.PlNow Go.Proofs.Ytmongghhagbokaa.PlDue Go.Proofs.Ytmongghhagbokaa.PlPause Go.Proofs.Ytmongghhagbokaa.PlWide Go.Proofs.Ytmongghhagbokaa.PlStep Go.Proofs.Ytmongghhagbokaa.PlRef Go.Proofs.Ytmongghhagbokaa.PlRefT Go.Proofs.YtmongghhagbokaaW.PrintWords Go.Proofs.YtmongghhagbokaaW.PrintLast Go.Proofs.YtmongghhagbokaaW.PrintMore
open Go.Proofs.Ytmongghhagbokaa.PPlayRights (S54 z54 k54 k54_open k54_mk k54_mkM rd_T54 at_T54 info54)
set_option linter.unusedVariables false
set_option linter.unusedSimpArgs false
theorem now_zero {st p q : Nat} (h : st < 4611686018427387904) : nowN st p q 0 = st := by
  unfold nowN scl
  rw [Nat.zero_mul, Nat.zero_div]
  omega
/-- A player's numbers. -/
structure PS where
  st : Nat
  p : Nat
  q : Nat
  wl : Nat
  nx : Nat
  pz : Bool
def PS.now (a : PS) : Nat := nowN a.st a.p a.q a.wl
def PS.ok (l : List S54) (a : PS) : Prop := Wide a.st a.p a.q a.wl ∧ a.nx ≤ l.length
def tickP (l : List S54) (n : Int) (a : PS) : PS := { a with wl := wlT a.pz n a.wl, nx := toN a.st a.p a.q (wlT a.pz n a.wl) a.nx l }
def stepP (l : List S54) (a : PS) : PS := if h : a.nx < l.length then { a with st := (l[a.nx]).f0.toNat, wl := 0, nx := toN (l[a.nx]).f0.toNat a.p a.q 0 a.nx l } else a
def pauseP (on : Bool) (a : PS) : PS := { a with pz := on }
def speedP (x y : Int) (a : PS) : PS := if speedB x y then { a with st := min a.now 4611686018427387903, p := x.toNat, q := y.toNat, wl := 0 } else a
structure S2 (w W : World) (g h : Nat) (A : Option Addr) (c : Nat) (A2 : Option Addr) (c2 : Nat) (l : List S54) (a b : PS) : Prop where
  oka : a.ok l
  okb : b.ok l
  pc : PC W g (.slice A l.length c) a.st a.p a.q a.wl a.nx a.pz
  qc : QC W h (.slice A2 l.length c2) b.st b.p b.q b.wl b.nx b.pz
  ev : Kd.R k54 54 W w.heap.size (fun k => k ≠ g ∧ k ≠ h) (.slice A l.length c) l
  src : Kd.R k54 54 W w.heap.size (fun k => k ≠ g ∧ k ≠ h) (.slice A2 l.length c2) l
  gh : g ≠ h
  wg : w.heap.size ≤ g
  wh : w.heap.size ≤ h
  below : Below w.heap.size w W
section
variable {w W W' : World} {g h : Nat} {A : Option Addr} {c : Nat} {A2 : Option Addr} {c2 : Nat} {l : List S54} {a b : PS}
theorem S2.on (s : S2 w W g h A c A2 c2 l a b) (hb : Below W.heap.size W W') : S2 w W' g h A c A2 c2 l a b :=
  ⟨s.oka, s.okb, blk_below s.pc hb, blk_below s.qc hb, Kd.R_below s.ev hb, Kd.R_below s.src hb, s.gh, s.wg, s.wh, below_kept s.below hb⟩
theorem S2.onp (s : S2 w W g h A c A2 c2 l a b) (ho : Only g W W') {a' : PS} (hp : PC W' g (.slice A l.length c) a'.st a'.p a'.q a'.wl a'.nx a'.pz) (ha : a'.ok l) : S2 w W' g h A c A2 c2 l a' b :=
  ⟨ha, s.okb, hp, ho.blk s.qc (Ne.symm s.gh), ho.R s.ev (fun _ k => k.1), ho.R s.src (fun _ k => k.1), s.gh, s.wg, s.wh, s.below.trans (ho.below s.wg)⟩
theorem S2.onq (s : S2 w W g h A c A2 c2 l a b) (ho : Only h W W') {b' : PS} (hq : QC W' h (.slice A2 l.length c2) b'.st b'.p b'.q b'.wl b'.nx b'.pz) (hb : b'.ok l) : S2 w W' g h A c A2 c2 l a b' :=
  ⟨s.oka, hb, ho.blk s.pc s.gh, hq, ho.R s.ev (fun _ k => k.2), ho.R s.src (fun _ k => k.2), s.gh, s.wg, s.wh, s.below.trans (ho.below s.wh)⟩
theorem to_le {st p q wl nx : Nat} (h : nx ≤ l.length) : toN st p q wl nx l ≤ l.length := Nat.max_le.2 ⟨countT_le _ _, h⟩
theorem ok_tick (n : Int) (h : a.ok l) : (tickP l n a).ok l := ⟨⟨h.1.1, h.1.2.1, h.1.2.2.1, h.1.2.2.2.1, h.1.2.2.2.2.1, wlT_le h.1.2.2.2.2.2⟩, to_le h.2⟩
theorem ok_step (hr : listR 0 l = true) (h : a.ok l) : (stepP l a).ok l := by
  unfold stepP
  split
  · rename_i hx
    have ht := right_time (listR_all l 0 hr (l[a.nx]) (List.getElem_mem hx))
    exact ⟨⟨by show (l[a.nx]).f0.toNat < _; omega, h.1.2.1, h.1.2.2.1, h.1.2.2.2.1, h.1.2.2.2.2.1, Nat.zero_le _⟩, to_le h.2⟩
  · exact h
theorem ok_speed (x y : Int) (h : a.ok l) : (speedP x y a).ok l := by
  unfold speedP
  split
  · rename_i hs
    have hab := of_decide_eq_true hs
    exact ⟨⟨by show min _ _ < _; omega, by show 1 ≤ x.toNat; omega, by show x.toNat ≤ 1000; omega, by show 1 ≤ y.toNat; omega, by show y.toNat ≤ 1000; omega, Nat.zero_le _⟩, h.2⟩
  · exact h
/-! The player's functions. -/
theorem tick_p (hr : listR 0 l = true) (hl : l.length ≤ 60) (n : Int) (s : S2 w W g h A c A2 c2 l a b) :
    Calls Try.prog 11 #[.pointer (some ⟨g, 0, none⟩), .int .i64 n] W fun e w' => ∃ v, e = .returned v ∧ Kd.R k54 54 w' W.heap.size (fun _ => True) v ((l.take (tickP l n a).nx).drop a.nx) ∧ Only g W w' ∧ S2 w w' g h A c A2 c2 l (tickP l n a) b := by
  refine (wtick_c g A c l n a.st a.p a.q a.wl a.nx a.pz W w.heap.size _ (fun _ k => k.1) s.pc s.ev (listR_rising l 0 hr) (by omega) s.oka.1 s.oka.2).mono ?_
  rintro e w1 ⟨v, rfl, hv, hp, _, ho⟩
  exact ⟨v, rfl, hv, ho, s.onp ho hp (ok_tick n s.oka)⟩
theorem step_p (hr : listR 0 l = true) (hl : l.length ≤ 60) (s : S2 w W g h A c A2 c2 l a b) :
    Calls Try.prog 20 #[.pointer (some ⟨g, 0, none⟩)] W fun e w' => ∃ v, e = .returned v ∧ Kd.R k54 54 w' W.heap.size (fun _ => True) v ((l.take (stepP l a).nx).drop a.nx) ∧ Only g W w' ∧ S2 w w' g h A c A2 c2 l (stepP l a) b := by
  have hoks := ok_step hr s.oka
  by_cases hx : a.nx < l.length
  · have e : stepP l a = { a with st := (l[a.nx]).f0.toNat, wl := 0, nx := toN (l[a.nx]).f0.toNat a.p a.q 0 a.nx l } := by rw [stepP, dif_pos hx]
    rw [e] at hoks ⊢
    have ht := right_time (listR_all l 0 hr (l[a.nx]) (List.getElem_mem hx))
    refine (step_c g A c l a.st a.p a.q a.wl a.nx (l[a.nx]).f0.toNat a.pz W w.heap.size _ (fun _ k => k.1) s.pc s.ev (listR_rising l 0 hr) (by omega) s.oka.1 hx (by omega) (by omega)).mono ?_
    rintro e1 w1 ⟨v, rfl, hv, hp, _, ho⟩
    exact ⟨v, rfl, hv, ho, s.onp ho hp hoks⟩
  · have e : stepP l a = a := by rw [stepP, dif_neg hx]
    rw [e]
    have hn : a.nx = l.length := Nat.le_antisymm s.oka.2 (by omega)
    refine (Go.Proofs.Ytmongghhagbokaa.PlStep.step_end g A c l a.st a.p a.q a.wl a.pz W (by have := s.pc; rw [hn] at this; exact this) (by omega)).mono ?_
    rintro e1 w1 ⟨rfl, hb⟩
    exact ⟨_, rfl, by rw [show (l.take a.nx).drop a.nx = [] from by rw [List.drop_eq_nil_iff, List.length_take]; omega]; exact Kd.R_nil _ _ _ _ _, Only.of_below hb (Nat.le_of_lt (blk_lt s.pc)), s.on hb⟩
theorem pause_p (on : Bool) (s : S2 w W g h A c A2 c2 l a b) :
    Calls Try.prog 16 #[.pointer (some ⟨g, 0, none⟩), .bool on] W fun e w' => (∃ u, e = .returned u) ∧ Only g W w' ∧ S2 w w' g h A c A2 c2 l (pauseP on a) b := by
  refine (wpause_c g A c l a.st a.p a.q a.wl a.nx a.pz on W w.heap.size _ (fun _ k => k.1) s.pc s.ev).mono ?_
  rintro e w1 ⟨hu, hp, _, ho⟩
  exact ⟨hu, ho, s.onp ho hp s.oka⟩
theorem speed_p (x y : Int) (s : S2 w W g h A c A2 c2 l a b) :
    Calls Try.prog 21 #[.pointer (some ⟨g, 0, none⟩), .int .i64 x, .int .i64 y] W fun e w' => e = .returned (.int .i64 (if speedB x y then 0 else 3)) ∧ S2 w w' g h A c A2 c2 l (speedP x y a) b := by
  have hoks := ok_speed x y s.oka
  cases hs : speedB x y with
  | false =>
    have e : speedP x y a = a := by rw [speedP, if_neg (by rw [hs]; decide)]
    rw [e]
    refine (wspeed_bad g (.slice A l.length c) x y W hs).mono ?_
    rintro e w1 ⟨rfl, hb⟩
    exact ⟨rfl, s.on hb⟩
  | true =>
    have hab := of_decide_eq_true hs
    have e : speedP x y a = { a with st := min a.now 4611686018427387903, p := x.toNat, q := y.toNat, wl := 0 } := by rw [speedP, if_pos hs]
    rw [e] at hoks ⊢
    have hxx : (x.toNat : Int) = x := by omega
    have hyy : (y.toNat : Int) = y := by omega
    have hc := wspeed_ok g (.slice A l.length c) a.st a.p a.q a.wl a.nx x.toNat y.toNat (min a.now 4611686018427387903) a.pz W s.pc s.oka.1 (by rw [hxx, hyy]; exact hs) rfl
    rw [hxx, hyy] at hc
    refine hc.mono ?_
    rintro e w1 ⟨rfl, hp, ho⟩
    exact ⟨rfl, s.onp ho (a' := { a with st := min a.now 4611686018427387903, p := x.toNat, q := y.toNat, wl := 0 }) hp hoks⟩
theorem now_p (s : S2 w W g h A c A2 c2 l a b) :
    Calls Try.prog 13 #[.pointer (some ⟨g, 0, none⟩)] W fun e w' => e = .returned (.int .i64 (a.now : Int)) ∧ S2 w w' g h A c A2 c2 l a b := by
  refine (wnow_c g _ a.st a.p a.q a.wl a.nx a.pz W s.pc s.oka.1).mono ?_
  rintro e w1 ⟨rfl, hb⟩
  exact ⟨rfl, s.on hb⟩
theorem left_p (hl : l.length ≤ 60) (s : S2 w W g h A c A2 c2 l a b) :
    Calls Try.prog 14 #[.pointer (some ⟨g, 0, none⟩)] W fun e w' => e = .returned (.int .i64 ((l.length - a.nx : Nat) : Int)) ∧ S2 w w' g h A c A2 c2 l a b := by
  refine (left_c g A l.length c a.st a.p a.q a.wl a.nx a.pz W s.pc s.oka.2 (by omega)).mono ?_
  rintro e w1 ⟨rfl, hb⟩
  exact ⟨rfl, s.on hb⟩
theorem paused_p (s : S2 w W g h A c A2 c2 l a b) :
    Calls Try.prog 19 #[.pointer (some ⟨g, 0, none⟩)] W fun e w' => e = .returned (.bool a.pz) ∧ S2 w w' g h A c A2 c2 l a b := by
  refine (paused_c g _ a.st a.p a.q a.wl a.nx a.pz W s.pc).mono ?_
  rintro e w1 ⟨rfl, hb⟩
  exact ⟨rfl, s.on hb⟩
/-! The reference's. -/
theorem tick_q (hr : listR 0 l = true) (hl : l.length ≤ 60) (n : Int) (s : S2 w W g h A c A2 c2 l a b) :
    Calls Try.prog 23 #[.pointer (some ⟨h, 0, none⟩), .int .i64 n] W fun e w' => ∃ v, e = .returned v ∧ Kd.R k54 54 w' W.heap.size (fun _ => True) v ((l.take (tickP l n b).nx).drop b.nx) ∧ Only h W w' ∧ S2 w w' g h A c A2 c2 l a (tickP l n b) := by
  refine (rtick_c h A2 c2 l n b.st b.p b.q b.wl b.nx b.pz W w.heap.size _ (fun _ k => k.2) s.qc s.src (listR_rising l 0 hr) (by omega) s.okb.1 s.okb.2).mono ?_
  rintro e w1 ⟨v, rfl, hv, hp, _, ho⟩
  exact ⟨v, rfl, hv, ho, s.onq ho hp (ok_tick n s.okb)⟩
theorem step_q (hr : listR 0 l = true) (hl : l.length ≤ 60) (s : S2 w W g h A c A2 c2 l a b) :
    Calls Try.prog 24 #[.pointer (some ⟨h, 0, none⟩)] W fun e w' => ∃ v, e = .returned v ∧ Kd.R k54 54 w' W.heap.size (fun _ => True) v ((l.take (stepP l b).nx).drop b.nx) ∧ Only h W w' ∧ S2 w w' g h A c A2 c2 l a (stepP l b) := by
  have hoks := ok_step hr s.okb
  by_cases hx : b.nx < l.length
  · have e : stepP l b = { b with st := (l[b.nx]).f0.toNat, wl := 0, nx := toN (l[b.nx]).f0.toNat b.p b.q 0 b.nx l } := by rw [stepP, dif_pos hx]
    rw [e] at hoks ⊢
    have ht := right_time (listR_all l 0 hr (l[b.nx]) (List.getElem_mem hx))
    refine (rstep_c h A2 c2 l b.st b.p b.q b.wl b.nx (l[b.nx]).f0.toNat b.pz W w.heap.size _ (fun _ k => k.2) s.qc s.src (listR_rising l 0 hr) (by omega) s.okb.1 hx (by omega) (by omega)).mono ?_
    rintro e1 w1 ⟨v, rfl, hv, hp, _, ho⟩
    exact ⟨v, rfl, hv, ho, s.onq ho hp hoks⟩
  · have e : stepP l b = b := by rw [stepP, dif_neg hx]
    rw [e]
    have hn : b.nx = l.length := Nat.le_antisymm s.okb.2 (by omega)
    refine (rstep_end h A2 c2 l b.st b.p b.q b.wl b.pz W (by have := s.qc; rw [hn] at this; exact this) (by omega)).mono ?_
    rintro e1 w1 ⟨rfl, hb⟩
    exact ⟨_, rfl, by rw [show (l.take b.nx).drop b.nx = [] from by rw [List.drop_eq_nil_iff, List.length_take]; omega]; exact Kd.R_nil _ _ _ _ _, Only.of_below hb (Nat.le_of_lt (blk_lt s.qc)), s.on hb⟩
theorem speed_q (x y : Int) (s : S2 w W g h A c A2 c2 l a b) :
    Calls Try.prog 25 #[.pointer (some ⟨h, 0, none⟩), .int .i64 x, .int .i64 y] W fun e w' => e = .returned (.bool (speedB x y)) ∧ Only h W w' ∧ S2 w w' g h A c A2 c2 l a (speedP x y b) := by
  have hoks := ok_speed x y s.okb
  cases hs : speedB x y with
  | false =>
    rw [speedP, if_neg (by rw [hs]; decide)]
    refine (rspeed_bad h x y W hs).mono ?_
    rintro e w1 ⟨rfl, hb⟩
    exact ⟨rfl, Only.of_below hb (Nat.le_of_lt (blk_lt s.qc)), s.on hb⟩
  | true =>
    have hab := of_decide_eq_true hs
    rw [speedP, if_pos hs] at hoks ⊢
    have hxx : (x.toNat : Int) = x := by omega
    have hyy : (y.toNat : Int) = y := by omega
    have hc := rspeed_ok h (.slice A2 l.length c2) b.st b.p b.q b.wl b.nx x.toNat y.toNat (min b.now 4611686018427387903) b.pz W s.qc s.okb.1 (by rw [hxx, hyy]; exact hs) rfl
    rw [hxx, hyy] at hc
    refine hc.mono ?_
    rintro e w1 ⟨rfl, hp, ho⟩
    exact ⟨rfl, ho, s.onq ho (b' := { b with st := min b.now 4611686018427387903, p := x.toNat, q := y.toNat, wl := 0 }) hp hoks⟩
theorem now_q (s : S2 w W g h A c A2 c2 l a b) :
    Calls Try.prog 26 #[.pointer (some ⟨h, 0, none⟩)] W fun e w' => e = .returned (.int .i64 (b.now : Int)) ∧ S2 w w' g h A c A2 c2 l a b := by
  refine (rnow_c h _ b.st b.p b.q b.wl b.nx b.pz W s.qc s.okb.1).mono ?_
  rintro e w1 ⟨rfl, hb⟩
  exact ⟨rfl, s.on hb⟩
end
end Go.Proofs.Ytmongghhagbokaa.PlRunsC
