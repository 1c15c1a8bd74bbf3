/- The reference's places: what they are, their kind, and three boxes that are laid in any order. -/
import Derived.Test.YtnidcnmeonjjbaaLayRefC
import Derived.Test.YtnidcnmeonjjbaaLayTilePure
namespace Go.Proofs.Ytnidcnmeonjjbaa.LayPl
open Go.RowKit Go.Proofs.Ytnidcnmeonjjbaa.Kit Go.Proofs.Ytnidcnmeonjjbaa.Plain Go.Proofs.Ytnidcnmeonjjbaa.Mine Go.Proofs.Ytnidcnmeonjjbaa.LayPure Go.Proofs.Ytnidcnmeonjjbaa.LaySmall Go.Proofs.Ytnidcnmeonjjbaa.LayPlace Go.Proofs.YtnidcnmeonjjbaaW.PrintWords Go.Proofs.YtnidcnmeonjjbaaW.PrintLast Go.Proofs.YtnidcnmeonjjbaaW.PrintMore
set_option linter.unusedVariables false
set_option linter.unusedSimpArgs false
/-- A place: a pane's box, or a line's. -/
structure PV where
  p : Int
  l : Bool
  b : BX
def placesT : T → BX → List PV
  | .leaf p, b => [⟨p, false, b⟩]
  | .part f l r, b => placesT l (firstB f b) ++ ⟨0, true, lineB f b⟩ :: placesT r (secondB f b)
theorem places_len : ∀ (t : T) (b : BX), (placesT t b).length + 1 = 2 * t.leaves.length
  | .leaf _, _ => rfl
  | .part f l r, b => by
    show (placesT l (firstB f b) ++ ⟨0, true, lineB f b⟩ :: placesT r (secondB f b)).length + 1 = 2 * (l.leaves ++ r.leaves).length
    rw [List.length_append, List.length_cons, List.length_append]
    have := places_len l (firstB f b)
    have := places_len r (secondB f b)
    omega
theorem places_lines : ∀ (t : T) (b : BX), ((placesT t b).filter (fun x => x.l)).map (fun x => x.b) = linesT t b
  | .leaf _, _ => rfl
  | .part f l r, b => by
    show ((placesT l (firstB f b) ++ ⟨0, true, lineB f b⟩ :: placesT r (secondB f b)).filter (fun x => x.l)).map (fun x => x.b) = linesT l (firstB f b) ++ lineB f b :: linesT r (secondB f b)
    rw [List.filter_append, List.map_append, places_lines l, List.filter_cons, if_pos rfl, List.map_cons, places_lines r]
theorem places_boxes : ∀ (t : T) (b : BX), ((placesT t b).filter (fun x => !x.l)).map (fun x => (x.p, x.b)) = boxesT t b
  | .leaf _, _ => rfl
  | .part f l r, b => by
    show ((placesT l (firstB f b) ++ ⟨0, true, lineB f b⟩ :: placesT r (secondB f b)).filter (fun x => !x.l)).map (fun x => (x.p, x.b)) = boxesT l (firstB f b) ++ boxesT r (secondB f b)
    rw [List.filter_append, List.map_append, places_boxes l, List.filter_cons, if_neg (show ¬ ((!true) = true) from by decide), places_boxes r]
def kP : Kd PV := Kd.iso (Kd.pair (Kd.int .i64) (Kd.pair Kd.bool (Kd.pair (Kd.int .i64) (Kd.pair (Kd.int .i64) (Kd.pair (Kd.int .i64) (Kd.int .i64)))))) (fun x : PV => (x.p, x.l, (x.b.x : Int), (x.b.y : Int), (x.b.w : Int), (x.b.h : Int)))
def zP : PV := ⟨0, false, BX.zero⟩
theorem info_P : (Try.prog.info? 52).map (fun i => (i.zero, i.size, i.bytes)) = some (some (.agg #[.int .i64 0, .bool false, .int .i64 0, .int .i64 0, .int .i64 0, .int .i64 0]), 6, 48) := by kernel_rfl
theorem kP_open {w : World} {x : PV} {cs : List Value} (h : kP.K w x cs) : cs = [.int .i64 x.p, .bool x.l, .int .i64 x.b.x, .int .i64 x.b.y, .int .i64 x.b.w, .int .i64 x.b.h] := by
  obtain ⟨_, _, rfl, rfl, ⟨_, _, rfl, rfl, ⟨_, _, rfl, rfl, ⟨_, _, rfl, rfl, ⟨_, _, rfl, rfl, rfl⟩⟩⟩⟩⟩ := h
  exact rfl
theorem kP_mkM (w : World) (base : Nat) (ok : Nat → Prop) (x : PV) : kP.M w base ok x [.int .i64 x.p, .bool x.l, .int .i64 x.b.x, .int .i64 x.b.y, .int .i64 x.b.w, .int .i64 x.b.h] :=
  ⟨[.int .i64 x.p], _, rfl, rfl, ⟨[.bool x.l], _, rfl, rfl, ⟨[.int .i64 x.b.x], _, rfl, rfl, ⟨[.int .i64 x.b.y], _, rfl, rfl, ⟨[.int .i64 x.b.w], [.int .i64 x.b.h], rfl, rfl, rfl⟩⟩⟩⟩⟩
theorem at_P {w : World} {A : Option Addr} {n : Nat} {xs : List PV} (h : Kd.C kP w A n xs) (i : Nat) (hi : i < xs.length) : ∃ (ad : Addr), A = some ad ∧ w.cell? (ad.add (i * 6)) = some (.int .i64 xs[i].p) ∧ w.cell? ⟨(ad.add (i * 6)).block, (ad.add (i * 6)).off + 1, none⟩ = some (.bool xs[i].l) ∧ w.cell? ⟨(ad.add (i * 6)).block, (ad.add (i * 6)).off + 2, none⟩ = some (.int .i64 xs[i].b.x) ∧ w.cell? ⟨(ad.add (i * 6)).block, (ad.add (i * 6)).off + 3, none⟩ = some (.int .i64 xs[i].b.y) ∧ w.cell? ⟨(ad.add (i * 6)).block, (ad.add (i * 6)).off + 4, none⟩ = some (.int .i64 xs[i].b.w) ∧ w.cell? ⟨(ad.add (i * 6)).block, (ad.add (i * 6)).off + 5, none⟩ = some (.int .i64 xs[i].b.h) := by
  have hn : xs.length = n := h.1
  obtain ⟨ad, c, e, _, hK, hc0⟩ := Kd.C_get h zP (i : Int) (by omega) (by omega)
  rw [Int.toNat_natCast, List.getD_eq_getElem?_getD, List.getElem?_eq_getElem hi] at hK
  rw [Int.toNat_natCast] at hc0
  have hc : ∀ j u, c[j]? = some u → w.cell? (ad.add (i * 6 + j)) = some u := hc0
  obtain rfl := kP_open hK
  exact ⟨ad, e, hc 0 _ rfl, by rw [← add_field _ _ 1 (by omega)]; exact hc 1 _ rfl, by rw [← add_field _ _ 2 (by omega)]; exact hc 2 _ rfl, by rw [← add_field _ _ 3 (by omega)]; exact hc 3 _ rfl, by rw [← add_field _ _ 4 (by omega)]; exact hc 4 _ rfl, by rw [← add_field _ _ 5 (by omega)]; exact hc 5 _ rfl⟩
/-- A literal of places. -/
theorem lit_P (W : World) (base : Nat) (ok : Nat → Prop) (xs : List PV) (inner : List Value) (hr : Reps (kP.M W base (fun _ => False)) 6 xs inner) (hb : base ≤ W.heap.size) (hok : ok W.heap.size) (hm : xs.length ≤ 9223372036854775807) :
    Kd.R kP 52 (W.alloc (.cells inner.toArray 52)) base ok (.slice (some ⟨W.heap.size, 0, none⟩) xs.length xs.length) xs := by
  refine ⟨fun k hk => ?_, inner, ?_, ?_⟩
  · have : W.heap.size = k := by simpa [Value.ownBlock] using hk
    rw [← this]; exact hok
  · have h2 := World.ownsRow_lit (base := base) (e := 52) (size := 6) W inner.toArray xs.length hb (by simpa [maxLen] using hm) (by simpa using hr.1)
    rw [show kP.sz = 6 from rfl]
    simpa using h2
  · exact hr.imp_ (fun p c hp => by obtain rfl := kP_open (kP.K_of_M hp); exact kP_mkM _ _ _ p)
/-! Three boxes that are laid, and filled. -/
def bxc (b : BX) : Array Value := #[.int .i64 b.x, .int .i64 b.y, .int .i64 b.w, .int .i64 b.h]
def BB (W : World) (g : Nat) (b : BX) : Prop := W.heap[g]? = some (.cells (bxc b) 50 (0, 0))
/-- One of the three: not laid; laid; filled. -/
def One (W0 W : World) (b : BX) : Option (Nat × Bool) → Prop
  | none => True
  | some (g, x) => W0.heap.size ≤ g ∧ BB W g (if x then b else BX.zero)
structure AL (W0 W : World) (b : BX) (s : Nat → Option (Nat × Bool)) : Prop where
  below : Below W0.heap.size W0 W
  one : ∀ i, One W0 W b (s i)
  ne : ∀ i j g x h y, i ≠ j → s i = some (g, x) → s j = some (h, y) → g ≠ h
theorem al_start (W : World) (b : BX) : AL W W b (fun _ => none) := ⟨Below.refl _ _, fun _ => trivial, fun _ _ _ _ _ _ _ h => nomatch h⟩
def put (s : Nat → Option (Nat × Bool)) (i : Nat) (v : Nat × Bool) : Nat → Option (Nat × Bool) := fun j => if j = i then some v else s j
theorem one_lt {W0 W : World} {b : BX} {g : Nat} {x : Bool} (h : One W0 W b (some (g, x))) : g < W.heap.size := blk_lt h.2
theorem AL.lay {W0 W W1 : World} {b : BX} {s : Nat → Option (Nat × Bool)} (h : AL W0 W b s) (i : Nat) {g : Nat} (hg : g = W.heap.size) (h1 : W1.heap[g]? = some (.cells #[.int .i64 0, .int .i64 0, .int .i64 0, .int .i64 0] 50 (0, 0))) (hb : Below W.heap.size W W1) : AL W0 W1 b (put s i (g, false)) := by
  refine ⟨below_then h.below h.below.size hb, fun j => ?_, fun j k g1 x1 g2 x2 hjk e1 e2 => ?_⟩
  · unfold put
    split
    · exact ⟨by rw [hg]; exact h.below.size, h1⟩
    · have := h.one j
      cases e : s j with
      | none => trivial
      | some v =>
        obtain ⟨g', x⟩ := v
        rw [e] at this
        exact ⟨this.1, blk_below this.2 hb⟩
  · unfold put at e1 e2
    split at e1
    · split at e2
      · omega
      · cases e1
        have := h.one k
        rw [e2] at this
        have := one_lt this
        omega
    · split at e2
      · cases e2
        have := h.one j
        rw [e1] at this
        have := one_lt this
        omega
      · exact h.ne j k g1 x1 g2 x2 hjk e1 e2
theorem AL.fill {W0 W : World} {b : BX} {s : Nat → Option (Nat × Bool)} (h : AL W0 W b s) (i : Nat) {g : Nat} (hg : s i = some (g, false)) :
    AL W0 ((((W.setCell ⟨g, 0, none⟩ (.int .i64 b.x)).setCell ⟨g, 1, none⟩ (.int .i64 b.y)).setCell ⟨g, 2, none⟩ (.int .i64 b.w)).setCell ⟨g, 3, none⟩ (.int .i64 b.h)) b (put s i (g, true)) := by
  have hgi := h.one i
  rw [hg] at hgi
  have h0 : W.heap[g]? = some (.cells #[.int .i64 0, .int .i64 0, .int .i64 0, .int .i64 0] 50 (0, 0)) := hgi.2
  refine ⟨(((h.below.setCell hgi.1 _).setCell hgi.1 _).setCell hgi.1 _).setCell hgi.1 _, fun j => ?_, fun j k g1 x1 g2 x2 hjk e1 e2 => ?_⟩
  · unfold put
    split
    · exact ⟨hgi.1, blk_put (blk_put (blk_put (blk_put h0 0 _ rfl) 1 _ rfl) 2 _ rfl) 3 _ rfl⟩
    · rename_i hji
      have hj := h.one j
      cases e : s j with
      | none => trivial
      | some v =>
        obtain ⟨g', x⟩ := v
        rw [e] at hj
        have hne := h.ne j i g' x g false hji e hg
        exact ⟨hj.1, blk_far (blk_far (blk_far (blk_far hj.2 hne _) hne _) hne _) hne _⟩
  · have key : ∀ j g1 x1, put s i (g, true) j = some (g1, x1) → ∃ y, s j = some (g1, y) := by
      intro j g1 x1 e
      unfold put at e
      split at e
      · rename_i hji
        cases e
        exact ⟨false, by rw [hji]; exact hg⟩
      · exact ⟨x1, e⟩
    obtain ⟨y1, e1⟩ := key j g1 x1 e1
    obtain ⟨y2, e2⟩ := key k g2 x2 e2
    exact h.ne j k g1 y1 g2 y2 hjk e1 e2
theorem AL.thaw {W0 W : World} {b : BX} {s : Nat → Option (Nat × Bool)} (h : AL W0 W b s) (i : Nat) {g : Nat} (hg : s i = some (g, false)) :
    (W.cell? ⟨g, 0, none⟩ = some (.int .i64 0) ∧ W.cell? ⟨g, 1, none⟩ = some (.int .i64 0) ∧ W.cell? ⟨g, 2, none⟩ = some (.int .i64 0) ∧ W.cell? ⟨g, 3, none⟩ = some (.int .i64 0)) ∧ W.frozen? ⟨g, 0, none⟩ = false ∧ W.frozen? ⟨g, 1, none⟩ = false ∧ W.frozen? ⟨g, 2, none⟩ = false ∧ W.frozen? ⟨g, 3, none⟩ = false := by
  have hgi := h.one i
  rw [hg] at hgi
  have h0 : W.heap[g]? = some (.cells #[.int .i64 0, .int .i64 0, .int .i64 0, .int .i64 0] 50 (0, 0)) := hgi.2
  exact ⟨⟨(blk_cell h0 0).trans rfl, (blk_cell h0 1).trans rfl, (blk_cell h0 2).trans rfl, (blk_cell h0 3).trans rfl⟩, blk_frozen h0 0, blk_frozen h0 1, blk_frozen h0 2, blk_frozen h0 3⟩
/-- All three are filled. -/
structure Three (W0 W : World) (b : BX) (s : Nat × Nat × Nat) : Prop where
  below : Below W0.heap.size W0 W
  fa : BB W s.1 b
  fb : BB W s.2.1 b
  fc : BB W s.2.2 b
  la : W0.heap.size ≤ s.1
  lb : W0.heap.size ≤ s.2.1
  lc : W0.heap.size ≤ s.2.2
  ab : s.1 ≠ s.2.1
  ac : s.1 ≠ s.2.2
  bc : s.2.1 ≠ s.2.2
theorem AL.three {W0 W : World} {b : BX} {s : Nat → Option (Nat × Bool)} (h : AL W0 W b s) {x y z : Nat} (h1 : s 8 = some (x, true)) (h2 : s 9 = some (y, true)) (h3 : s 10 = some (z, true)) : Three W0 W b (x, y, z) := by
  have k1 := h.one 8
  have k2 := h.one 9
  have k3 := h.one 10
  rw [h1] at k1
  rw [h2] at k2
  rw [h3] at k3
  exact ⟨h.below, k1.2, k2.2, k3.2, k1.1, k2.1, k3.1, h.ne 8 9 _ _ _ _ (by decide) h1 h2, h.ne 8 10 _ _ _ _ (by decide) h1 h3, h.ne 9 10 _ _ _ _ (by decide) h2 h3⟩
/-- All three are laid. -/
def Two (W0 W : World) (b : BX) (s : Nat × Nat × Nat) : Prop := ∃ st, AL W0 W b st ∧ st 8 = some (s.1, false) ∧ st 9 = some (s.2.1, false) ∧ st 10 = some (s.2.2, false)
end Go.Proofs.Ytnidcnmeonjjbaa.LayPl
