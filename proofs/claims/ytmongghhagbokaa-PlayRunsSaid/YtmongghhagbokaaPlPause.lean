/- play.Player's Pause, and Tick of a paused one, as contracts; a wall time's beginnings. -/
import Derived.Test.YtmongghhagbokaaPlFit
import Derived.Test.YtmongghhagbokaaEvSame
namespace Go.Proofs.Ytmongghhagbokaa.PlPause
open Go.RowKit Go.Proofs.Ytmongghhagbokaa.Kit Go.Proofs.Ytmongghhagbokaa.Plain Go.Proofs.Ytmongghhagbokaa.Mine Go.Proofs.Ytmongghhagbokaa.Event Go.Proofs.Ytmongghhagbokaa.EventRef Go.Proofs.Ytmongghhagbokaa.EventList Go.Proofs.Ytmongghhagbokaa.EvUntil Go.Proofs.Ytmongghhagbokaa.PlScale Go.Proofs.Ytmongghhagbokaa.PlNow Go.Proofs.Ytmongghhagbokaa.PlDue Go.Proofs.YtmongghhagbokaaW.PrintWords Go.Proofs.YtmongghhagbokaaW.PrintLast Go.Proofs.YtmongghhagbokaaW.PrintMore
open Go.Proofs.Ytmongghhagbokaa.PPlayRights (S54 z54 k54 k54_open k54_mk k54_mkM rd_T54 at_T54 info54)
set_option linter.unusedVariables false
set_option linter.unusedSimpArgs false
set_option maxHeartbeats 800000 in
set_option maxRecDepth 100000 in
theorem pause_c (g : Nat) (A : Option Addr) (c : Nat) (l : List S54) (st p q wl nx : Nat) (pz on : Bool) (w : World) (base : Nat) (hk : PC w g (.slice A l.length c) st p q wl nx pz) (hR : Kd.R k54 54 w base (fun k => k ≠ g) (.slice A l.length c) l) :
    Calls Try.prog 16 #[.pointer (some ⟨g, 0, none⟩), .bool on] w fun e w' => (∃ v, e = .returned v) ∧ PC w' g (.slice A l.length c) st p q wl nx on ∧ Kd.R k54 54 w' base (fun k => k ≠ g) (.slice A l.length c) l ∧ ∀ B, B ≤ g → Below B w w' := by
  have hu := Try.underlying57
  have HK := Aside0.mk (show w.heap[g]? = some (.cells #[.slice A l.length c, .int .i64 st, .int .i64 p, .int .i64 q, .int .i64 wl, .int .i64 nx, .bool pz] 57 (0, 0)) from hk)
  have HR := Aside0.mk hR
  have c6 : w.cell? ⟨g, 6, none⟩ = some (.bool pz) := (blk_cell hk 6).trans rfl
  have f6 := blk_frozen HK.out 6
  clear hk hR
  go_enter Try.func16, Try.ntmps16
  go_wp2
  have hkb := (KeepBut.refl w g none).set_ 6 (.bool on)
  have h2 : PC (w.setCell ⟨g, 6, none⟩ (.bool on)) g (.slice A l.length c) st p q wl nx on := blk_put HK.out 6 _ rfl
  refine ⟨rfl, .tuple #[], ?_, ⟨_, rfl⟩, h2, Kd.R_keep HR.out hkb (fun k hk => hk), fun B h => (Below.refl B w).setCell h _⟩
  first
    | rfl
    | simp [results, Try.results16, go_sem]
set_option maxHeartbeats 1600000 in
set_option maxRecDepth 100000 in
theorem tickp_c (g : Nat) (A : Option Addr) (c : Nat) (l : List S54) (n : Int) (st p q wl nx : Nat) (w : World) (base : Nat) (hk : PC w g (.slice A l.length c) st p q wl nx true) (hR : Kd.R k54 54 w base (fun k => k ≠ g) (.slice A l.length c) l) (hr : Rising l) (hl : l.length ≤ 1000) (hf : Fine st p q wl) (hnx : nx ≤ l.length) :
    Calls Try.prog 11 #[.pointer (some ⟨g, 0, none⟩), .int .i64 n] w fun e w' => ∃ (v : Value), e = .returned v ∧ Kd.R k54 54 w' 0 (fun k => k ≠ g) v ((l.take (toN st p q wl nx l)).drop nx) ∧ PC w' g (.slice A l.length c) st p q wl (toN st p q wl nx l) true ∧ Kd.R k54 54 w' base (fun k => k ≠ g) (.slice A l.length c) l ∧ ∀ B, B ≤ g → Below B w w' := by
  have hu := Try.underlying57
  have HDUE := Aside0.mk (due_c g A c l st p q wl nx true w hk (Kd.R_reads' hR).2.2 (Kd.R_reads' hR).2.1 hr hl hf hnx)
  have HK := Aside0.mk (show w.heap[g]? = some (.cells #[.slice A l.length c, .int .i64 st, .int .i64 p, .int .i64 q, .int .i64 wl, .int .i64 nx, .bool true] 57 (0, 0)) from hk)
  have HR := Aside0.mk hR
  have c6 : w.cell? ⟨g, 6, none⟩ = some (.bool true) := (blk_cell hk 6).trans rfl
  clear hk hR hr hl hf hnx
  go_enter Try.func11, Try.ntmps11
  go_wp2_with fail
  refine HDUE.out.mono ?_
  rintro e w5 ⟨v, w2, rfl, hv, hb, rfl⟩
  have HV := Aside0.mk hv
  have HB2 := Aside0.mk hb
  clear hv hb HDUE c6
  go_wp2
  go_ret
  have hg1 : g < w.heap.size := blk_lt HK.out
  have hkb := (KeepBut.refl w2 g none).set_ 5 (.int .i64 (toN st p q wl nx l : Int))
  refine ⟨v, rfl, Kd.R_lower (Kd.R_keep (Kd.R_mono (ok' := fun k => k ≠ g) (Kd.R_bound HV.out) (fun k hk => by have := hk.2.1; omega)) hkb (fun k hk => hk)) (Nat.zero_le _), blk_put (blk_below HK.out HB2.out) 5 _ rfl, Kd.R_keep (Kd.R_below HR.out HB2.out) hkb (fun k hk => hk), fun B h => ?_⟩
  exact (below_then (Below.refl B w) (by omega) HB2.out).setCell h _
/-- The later it is, the more are told. -/
theorem countT_mono {a b : Int} (h : a ≤ b) (l : List S54) : countT a l ≤ countT b l := by
  unfold countT
  exact List.countP_mono_left (fun x _ hx => by simp only [decide_eq_true_eq] at hx ⊢; omega)
theorem scl_mono {n m p q : Nat} (h : n ≤ m) : scl n p q ≤ scl m p q := by
  unfold scl
  have : n * p / q ≤ m * p / q := Nat.div_le_div_right (Nat.mul_le_mul_right p h)
  omega
theorem now_mono {st p q n m : Nat} (h : n ≤ m) : nowN st p q n ≤ nowN st p q m := by
  unfold nowN
  have := scl_mono (p := p) (q := q) h
  omega
theorem to_mono {st p q n m : Nat} {l : List S54} (h : n ≤ m) : toN st p q m (countT (nowN st p q n : Int) l) l = countT (nowN st p q m : Int) l := by
  unfold toN
  have := countT_mono (a := (nowN st p q n : Int)) (b := (nowN st p q m : Int)) (by have := now_mono (st := st) (p := p) (q := q) h; omega) l
  omega
/-- A small wall time, scaled. -/
theorem now_small {st p q n : Nat} (h1 : st < 65536) (hp : p ≤ 1000) (hn : n ≤ 2000000000) : nowN st p q n = st + n * p / q := by
  unfold nowN scl
  have h3 : n * p ≤ 2000000000 * 1000 := Nat.mul_le_mul hn hp
  have h4 : n * p / q ≤ n * p := Nat.div_le_self _ _
  omega
theorem fine_small {st p q n : Nat} (h1 : st < 65536) (hp : 1 ≤ p) (hp2 : p ≤ 1000) (hq : 1 ≤ q) (hq2 : q ≤ 1000) (hn : n ≤ 2000000000) : Fine st p q n := by
  have h3 : n * p ≤ 2000000000 * 1000 := Nat.mul_le_mul hn hp2
  exact ⟨by omega, hp, hp2, hq, hq2, by omega, by omega⟩
theorem dN_small {k n : Nat} (hk : k ≤ 2000000000) (hn : n ≤ 2000000000) : dN (k : Int) n = k := by unfold dN; omega
end Go.Proofs.Ytmongghhagbokaa.PlPause
