/- Where panes and lines stand: node.place and Boxes, as contracts. -/
import Derived.Test.YtnidcnmeonjjbaaLaySmall
namespace Go.Proofs.Ytnidcnmeonjjbaa.LayPlace
open Go.RowKit Go.Proofs.Ytnidcnmeonjjbaa.Kit Go.Proofs.Ytnidcnmeonjjbaa.Plain Go.Proofs.Ytnidcnmeonjjbaa.Mine Go.Proofs.Ytnidcnmeonjjbaa.LayPure Go.Proofs.Ytnidcnmeonjjbaa.LayNode Go.Proofs.Ytnidcnmeonjjbaa.LayDeed Go.Proofs.Ytnidcnmeonjjbaa.LayFloat Go.Proofs.Ytnidcnmeonjjbaa.LaySmall Go.Proofs.YtnidcnmeonjjbaaW.PrintWords Go.Proofs.YtnidcnmeonjjbaaW.PrintLast Go.Proofs.YtnidcnmeonjjbaaW.PrintMore
set_option linter.unusedVariables false
set_option linter.unusedSimpArgs false
/-- A call through a function value that a slot holds. -/
theorem goesv_ {P : Program} {ops : Array Oper} {Q : Exit → Act → World → Prop} {oi : Oper} {N : Option Tmp} {a : Act} {w : World} {K : Act → World → Prop} {f : FuncId} {fn : Func} {xs : Array Operand} {ts : Array TypeId} (x : Operand) (hx : a.eval x = .func (.func f) #[] #[]) (hf : P.funcs[f]? = some fn) (hname : (fn.name == "runtime.NumGoroutine") = false) (hb : fn.body.isSome = true) (args : Array Value)
    (hw : Region.wanted oi (yielded ops a.tmps) = true) (hN : oi.dst = N) (hop : oi.op = .call { callee := .value x, args := xs, argTypes := ts }) (hargs : xs.map a.eval = args)
    (h : Calls P f args w fun e w' => ∃ v, e = .returned v ∧ K (a.put N v) w') : if Region.wanted oi (yielded ops a.tmps) = true then Oper.wp P oi a w K Q else K (a.put N undef) w := by
  refine call_ f args hw hN ?_ h
  have he := enters_ hf hname hb args w
  unfold execOp
  simp [hop, resolve, Deferred.ofValue, invoke, hx, hargs, he]
/-! The parts of a box. -/
def firstB (f : Bool) (b : BX) : BX := if f then ⟨b.x, b.y, b.w, (b.h - 1) / 2⟩ else ⟨b.x, b.y, (b.w - 1) / 2, b.h⟩
def lineB (f : Bool) (b : BX) : BX := if f then ⟨b.x, b.y + (b.h - 1) / 2, b.w, min b.h 1⟩ else ⟨b.x + (b.w - 1) / 2, b.y, min b.w 1, b.h⟩
def secondB (f : Bool) (b : BX) : BX := if f then ⟨b.x, b.y + ((b.h - 1) / 2 + min b.h 1), b.w, b.h - (b.h - 1) / 2 - min b.h 1⟩ else ⟨b.x + ((b.w - 1) / 2 + min b.w 1), b.y, b.w - (b.w - 1) / 2 - min b.w 1, b.h⟩
def boxesT : T → BX → List (Int × BX)
  | .leaf p, b => [(p, b)]
  | .part f l r, b => boxesT l (firstB f b) ++ boxesT r (secondB f b)
def linesT : T → BX → List BX
  | .leaf _, _ => []
  | .part f l r, b => linesT l (firstB f b) ++ lineB f b :: linesT r (secondB f b)
def fits (b : BX) : Prop := b.x + b.w ≤ 60 ∧ b.y + b.h ≤ 60
theorem fits_first {f : Bool} {b : BX} (h : fits b) : fits (firstB f b) := by
  obtain ⟨x, y, w, u⟩ := b
  unfold fits firstB at *
  cases f <;> simp at * <;> omega
theorem fits_line {f : Bool} {b : BX} (h : fits b) : fits (lineB f b) := by
  obtain ⟨x, y, w, u⟩ := b
  unfold fits lineB at *
  cases f <;> simp at * <;> omega
theorem fits_second {f : Bool} {b : BX} (h : fits b) : fits (secondB f b) := by
  obtain ⟨x, y, w, u⟩ := b
  unfold fits secondB at *
  cases f <;> simp at * <;> omega
theorem keys_boxes : ∀ (t : T) (b : BX), (boxesT t b).map Prod.fst = t.leaves
  | .leaf p, b => rfl
  | .part f l r, b => by
    show (boxesT l (firstB f b) ++ boxesT r (secondB f b)).map Prod.fst = l.leaves ++ r.leaves
    rw [List.map_append, keys_boxes l, keys_boxes r]
theorem boxes_len (t : T) (b : BX) : (boxesT t b).length = t.leaves.length := by rw [← keys_boxes t b, List.length_map]
theorem lines_len : ∀ (t : T) (b : BX), (linesT t b).length + 1 = t.leaves.length
  | .leaf p, b => rfl
  | .part f l r, b => by
    show (linesT l (firstB f b) ++ lineB f b :: linesT r (secondB f b)).length + 1 = (l.leaves ++ r.leaves).length
    rw [List.length_append, List.length_cons, List.length_append, ← lines_len l (firstB f b), ← lines_len r (secondB f b)]
    omega
theorem ne_ML {w : World} {M L : Nat} {l : List (Int × BX)} {o : Array Value} {e : Nat} {fr : Nat × Nat} (h : MP w M l) (hL : w.heap[L]? = some (.cells o e fr)) : M ≠ L := by
  rintro rfl
  obtain ⟨D, n, ⟨es, clock, hb, _⟩, _⟩ := h
  rw [hL] at hb
  cases hb
/-- What is placed so far. -/
structure PL (w0 W : World) (M L : Nat) (l : List (Int × BX)) (ls : List BX) : Prop where
  row : ∃ v, W.heap[L]? = some (.cells #[v] 44 (0, 0)) ∧ Kd.R kB 50 W w0.heap.size (fun k => k ≠ L ∧ k ≠ M) v ls
  mp : MP W M l
  below : Below w0.heap.size w0 W
  hM : w0.heap.size ≤ M
  hL : w0.heap.size ≤ L
theorem PL.on {w0 W W' : World} {M L : Nat} {l : List (Int × BX)} {ls : List BX} (h : PL w0 W M L l ls) (hb : Below W.heap.size W W') : PL w0 W' M L l ls := by
  obtain ⟨v, h1, h2⟩ := h.row
  exact ⟨⟨v, blk_below h1 hb, Kd.R_below h2 hb⟩, h.mp.below hb, below_then h.below h.below.size hb, h.hM, h.hL⟩
section
set_option maxHeartbeats 3200000
set_option maxRecDepth 100000
theorem place_c (w0 : World) (M L : Nat) : ∀ (t : BT), Lies w0 t → ∀ (b : BX) (W : World) (l : List (Int × BX)) (ls : List BX), PL w0 W M L l ls → fits b → (∀ p ∈ t.plain.leaves, (Lit.int .i64 p).wf = true) → (l.map Prod.fst ++ t.plain.leaves).Nodup → l.length + ls.length + 2 * t.plain.leaves.length < 1000000 →
    Calls Try.prog 26 #[.pointer (some ⟨t.root, 0, none⟩), cx b.x b.y, cx b.w b.h, .map (some M), .pointer (some ⟨L, 0, none⟩)] W fun e w' => e = .returned (.tuple #[]) ∧ PL w0 w' M L (l ++ boxesT t.plain b) (ls ++ linesT t.plain b)
  | .leaf g p, ht, b, W, l, ls, hp, hf, hw, hn, hlen => by
    have hu := Try.underlying63
    have hk : NB W g p false none none := (hp.below.block g (blk_lt ht)).trans ht
    have HK := Aside0.mk hk
    have c2 : W.cell? ⟨g, 2, none⟩ = some (.pointer none) := (blk_cell hk 2).trans rfl
    have c0 : W.drew.cell? ⟨g, 0, none⟩ = some (.int .i64 p) := (blk_cell (blk_drew hk) 0).trans rfl
    have HP := Aside0.mk hp
    have HBX := Aside0.mk (fun W => box_c b.x b.y b.w b.h W (by have := hf.1; omega) (by have := hf.2; omega) (by have := hf.1; omega) (by have := hf.2; omega))
    have HPUT := Aside0.mk (fun W (h : MP W M l) => h.put p b (by
      have h2 := (List.nodup_append.1 hn).2.2
      intro hm
      exact h2 p hm p (by simp [BT.plain, T.leaves]) rfl) (hw p (by simp [BT.plain, T.leaves])) (by omega))
    rw [show (BT.leaf g p).root = g from rfl, show boxesT (BT.leaf g p).plain b = [(p, b)] from rfl, show linesT (BT.leaf g p).plain b = [] from rfl]
    unfold cx
    unfold cx at HBX
    obtain ⟨x, hx⟩ : ∃ x, x = b.x := ⟨_, rfl⟩
    obtain ⟨y, hy⟩ : ∃ y, y = b.y := ⟨_, rfl⟩
    obtain ⟨u, hu2⟩ : ∃ u, u = b.w := ⟨_, rfl⟩
    obtain ⟨v, hv⟩ : ∃ v, v = b.h := ⟨_, rfl⟩
    have hval : b.val = .agg #[.int .i64 x, .int .i64 y, .int .i64 u, .int .i64 v] := by rw [hx, hy, hu2, hv]; rfl
    rw [hval] at HPUT
    rw [← hx, ← hy, ← hu2, ← hv] at HBX ⊢
    clear hk ht hp hf hw hn hlen hx hy hu2 hv hval
    go_enter Try.func26, Try.ntmps26
    go_upto_region 1 with fail
    refine start_ (n := 9) (S := fun w' => w'.cell? ⟨g, 0, none⟩ = some (.int .i64 p)) (ds := [8]) #[false, false, false, false, false, false, false, false, false] (by kernel_rfl) rfl rfl (c0) (fun hHeld => ?_)
    refine pure_ (i := 0) (N := some 20) (v := ?_) (a' := ?_) #[true, false, false, false, false, false, false, false, false] rfl rfl (by kernel_rfl) (fun _ _ _ h => h) (Or.inl ⟨by rfl, ?_⟩) ?_ ?_
    rotate_left
    · intro w'
      go_simp
      with_reducible rfl
    rotate_left
    · simp only [Act.put, List.setIfInBounds_toArray, List.set_cons_zero, List.set_cons_succ, i64_w, i32_w]
      rfl
    refine pure_ (i := 1) (N := some 21) (v := ?_) (a' := ?_) #[true, true, false, false, false, false, false, false, false] rfl rfl (by kernel_rfl) (fun _ _ _ h => h) (Or.inl ⟨by rfl, ?_⟩) ?_ ?_
    rotate_left
    · intro w'
      go_simp
      with_reducible rfl
    rotate_left
    · simp only [Act.put, List.setIfInBounds_toArray, List.set_cons_zero, List.set_cons_succ, i64_w, i32_w]
      rfl
    refine pure_ (i := 2) (N := some 22) (v := ?_) (a' := ?_) #[true, true, true, false, false, false, false, false, false] rfl rfl (by kernel_rfl) (fun _ _ _ h => h) (Or.inl ⟨by rfl, ?_⟩) ?_ ?_
    rotate_left
    · intro w'
      go_simp
      with_reducible rfl
    rotate_left
    · simp only [Act.put, List.setIfInBounds_toArray, List.set_cons_zero, List.set_cons_succ, i64_w, i32_w]
      rfl
    refine pure_ (i := 3) (N := some 23) (v := ?_) (a' := ?_) #[true, true, true, true, false, false, false, false, false] rfl rfl (by kernel_rfl) (fun _ _ _ h => h) (Or.inl ⟨by rfl, ?_⟩) ?_ ?_
    rotate_left
    · intro w'
      go_simp
      with_reducible rfl
    rotate_left
    · simp only [Act.put, List.setIfInBounds_toArray, List.set_cons_zero, List.set_cons_succ, i64_w, i32_w]
      rfl
    refine pure_ (i := 5) (N := some 25) (v := ?_) (a' := ?_) #[true, true, true, true, false, true, false, false, false] rfl rfl (by kernel_rfl) (fun _ _ _ h => h) (Or.inl ⟨by rfl, ?_⟩) ?_ ?_
    rotate_left
    · intro w'
      go_simp
      with_reducible rfl
    rotate_left
    · simp only [Act.put, List.setIfInBounds_toArray, List.set_cons_zero, List.set_cons_succ, i64_w, i32_w]
      rfl
    refine pure_ (i := 6) (N := some 26) (v := ?_) (a' := ?_) #[true, true, true, true, false, true, true, false, false] rfl rfl (by kernel_rfl) (fun _ _ _ h => h) (Or.inl ⟨by rfl, ?_⟩) ?_ ?_
    rotate_left
    · intro w'
      go_simp
      with_reducible rfl
    rotate_left
    · simp only [Act.put, List.setIfInBounds_toArray, List.set_cons_zero, List.set_cons_succ, i64_w, i32_w]
      rfl
    refine take_ (i := 4) (N := some 24) (v := ?_) (a' := ?_) #[true, true, true, true, true, true, true, false, false] rfl rfl (by kernel_rfl) (fun _ _ _ h => h) (Or.inl ⟨by rfl, ?_⟩) hHeld ?_ ?_
    rotate_left
    · intro w' s0
      go_simp
      with_reducible rfl
    rotate_left
    · simp only [Act.put, List.setIfInBounds_toArray, List.set_cons_zero, List.set_cons_succ, i64_w, i32_w]
      rfl
    refine one_ (i := 7) (N := some 27) #[true, true, true, true, true, true, true, true, false] rfl rfl (by kernel_rfl) (by decide) (fun K hK => ?_)
    refine goes_ Try.func29 (by kernel_rfl) rfl #[.complex .f64 (fl x) (fl y), .complex .f64 (fl u) (fl v)] (by rfl) rfl rfl (by simp only [List.map_toArray, List.map_cons, List.map_nil]; rfl) ?_
    with_reducible refine (HBX.out _).mono ?_
    rintro e w3 ⟨rfl, hb3⟩
    refine ⟨_, rfl, ?_⟩
    have HP3 := Aside0.mk ((HP.out.on (below_drew (Below.refl _ _))).on hb3)
    have d0 := (blk_cell (blk_below (blk_drew HK.out) hb3) 0).trans (rfl : _ = some (Value.int .i64 p))
    clear hb3
    obtain ⟨w4, hrun, hm, hg⟩ := HPUT.out w3 HP3.out.mp
    have HM4 := Aside0.mk hm
    have HG4 := Aside0.mk hg
    clear hm hg
    refine hK.out _ _ (d0) (fun hHeld => ?_)
    clear hK K
    refine norm_ (a' := ?_) ?_ ?_
    rotate_left
    · show Act.put _ (some 27) _ = _
      simp only [Act.put, List.setIfInBounds_toArray, List.set_cons_zero, List.set_cons_succ, i64_w, i32_w]
      rfl
    refine last_ (i := 8) (N := none) #[true, true, true, true, true, true, true, true, true] rfl rfl (by kernel_rfl) (by decide) (fun K hK => ?_)
    refine skip_ (w1 := w4) (by rfl) rfl ?_ ?_
    · go_simp
    refine hK.out _ _ ?_
    clear hK K
    refine done_ (by kernel_rfl) ?_
    go_wp2_with fail
    go_returns
    refine ⟨rfl, ?_⟩
    rw [List.append_nil]
    obtain ⟨v, h1, h2⟩ := HP3.out.row
    have hML : L ≠ M := by
      intro e
      have h3 := HP3.out.mp
      obtain ⟨D, n, ⟨es, clock, hb, _⟩, _⟩ := h3
      rw [← e, h1] at hb
      cases hb
    have hgr := HG4.out
    exact ⟨⟨v, blk_grown h1 hgr (fun e => hML (Option.some.inj e)), Kd.R_grown h2 hgr (fun k hk e => hk.2 (Option.some.inj e))⟩, HM4.out, HP3.out.below.grown hgr HP3.out.below.size (fun k hk => by cases hk; exact HP3.out.hM), HP3.out.hM, HP3.out.hL⟩
  | .part g false a c, ht, b, W, l, ls, hp, hf, hw, hn, hlen => by
    have hu := Try.underlying63
    have hk : NB W g 0 false (some ⟨a.root, 0, none⟩) (some ⟨c.root, 0, none⟩) := (hp.below.block g (blk_lt ht.1)).trans ht.1
    have HKB := Aside0.mk (fun W2 (h : Below w0.heap.size w0 W2) => (((h.block g (blk_lt ht.1)).trans ht.1 : NB W2 g 0 false (some ⟨a.root, 0, none⟩) (some ⟨c.root, 0, none⟩))))
    have hnl := List.nodup_append.1 hn
    have hlv : (BT.part g false a c).plain.leaves = a.plain.leaves ++ c.plain.leaves := rfl
    rw [hlv] at hn hlen hw
    have hla := boxes_len a.plain (firstB false b)
    have hlla := lines_len a.plain (firstB false b)
    rw [List.length_append] at hlen
    have HA := Aside0.mk (fun W2 h2 => place_c w0 M L a ht.2.1 (firstB false b) W2 l ls h2 (fits_first hf) (fun p h => hw p (List.mem_append_left _ h)) (by rw [← List.append_assoc] at hn; exact (List.nodup_append.1 hn).1) (by omega))
    have HC := Aside0.mk (fun W2 h2 => place_c w0 M L c ht.2.2 (secondB false b) W2 (l ++ boxesT a.plain (firstB false b)) (ls ++ linesT a.plain (firstB false b) ++ [lineB false b]) h2 (fits_second hf) (fun p h => hw p (List.mem_append_right _ h)) (by rw [List.map_append, keys_boxes, List.append_assoc]; exact hn) (by simp only [List.length_append, List.length_singleton]; omega))
    have HLN := Aside0.mk (show (ls ++ linesT a.plain (firstB false b)).length < 1000000 by rw [List.length_append]; omega)
    have HP := Aside0.mk hp
    have hfl := fits_line (f := false) hf
    have hff := fits_first (f := false) hf
    have hfs := fits_second (f := false) hf
    rw [show (BT.part g false a c).root = g from rfl, show boxesT (BT.part g false a c).plain b = boxesT a.plain (firstB false b) ++ boxesT c.plain (secondB false b) from rfl, show linesT (BT.part g false a c).plain b = linesT a.plain (firstB false b) ++ lineB false b :: linesT c.plain (secondB false b) from rfl]
    have e1 : firstB false b = ⟨b.x, b.y, (b.w - 1) / 2, b.h⟩ := rfl
    have e2 : lineB false b = ⟨b.x + (b.w - 1) / 2, b.y, min b.w 1, b.h⟩ := rfl
    have e3 : secondB false b = ⟨b.x + ((b.w - 1) / 2 + min b.w 1), b.y, b.w - (b.w - 1) / 2 - min b.w 1, b.h⟩ := rfl
    rw [e1] at HA HC HLN hff ⊢
    rw [e2] at HC hfl ⊢
    rw [e3] at HC hfs ⊢
    clear e1 e2 e3
    obtain ⟨x, y, w, h⟩ := b
    dsimp only at HA HC HLN hff hfl hfs ⊢
    have hww : w ≤ 60 := by have := hf.1; dsimp only at this; omega
    have hhh : h ≤ 60 := by have := hf.2; dsimp only at this; omega
    have hxx : x ≤ 60 := by have := hf.1; dsimp only at this; omega
    have hyy : y ≤ 60 := by have := hf.2; dsimp only at this; omega
    have hxw : x + w ≤ 60 := hf.1
    have hyh : y + h ≤ 60 := hf.2
    obtain ⟨n1, hn1⟩ : ∃ n1, n1 = (w - 1) / 2 := ⟨_, rfl⟩
    obtain ⟨n2, hn2⟩ : ∃ n2, n2 = min w 1 := ⟨_, rfl⟩
    rw [← hn1] at HA HC HLN hff hfl hfs ⊢
    rw [← hn2] at HC hfl hfs ⊢
    obtain ⟨n3, hn3⟩ : ∃ n3, n3 = n1 + n2 := ⟨_, rfl⟩
    rw [← hn3] at HC hfs ⊢
    obtain ⟨n4, hn4⟩ : ∃ n4, n4 = x + n1 := ⟨_, rfl⟩
    rw [← hn4] at HC hfl ⊢
    obtain ⟨n5, hn5⟩ : ∃ n5, n5 = x + n3 := ⟨_, rfl⟩
    rw [← hn5] at HC hfs ⊢
    obtain ⟨n6, hn6⟩ : ∃ n6, n6 = w - n1 := ⟨_, rfl⟩
    rw [← hn6] at HC hfs ⊢
    obtain ⟨n7, hn7⟩ : ∃ n7, n7 = n6 - n2 := ⟨_, rfl⟩
    rw [← hn7] at HC hfs ⊢
    have HH := Aside0.mk (fun W => half_c w W (by omega))
    have HT1 := Aside0.mk (fun W => same_c w h W)
    have HT2 := Aside0.mk (fun W => same_c x y W)
    have HT3 := Aside0.mk (fun W => same_c n1 h W)
    have HT4 := Aside0.mk (fun W => same_c n4 y W)
    have HT5 := Aside0.mk (fun W => same_c n2 h W)
    have HT6 := Aside0.mk (fun W => same_c n5 y W)
    have HT7 := Aside0.mk (fun W => same_c n7 h W)
    have HBX := Aside0.mk (fun W => box_c n4 y n2 h W (by omega) (by omega) (by omega) (by omega))
    have r1 := fun W ts t => run_min W ts t w (by omega)
    have r2 := fun W t => run_cadd W t x y n1 0 (by omega) (by omega)
    have r3 := fun W t => run_add W t n1 n2 (by omega)
    have r4 := fun W t => run_cadd W t x y n3 0 (by omega) (by omega)
    have r5 := fun W t => run_sub W t w n1 (by omega) (by omega)
    have r6 := fun W t => run_sub W t n6 n2 (by omega) (by omega)
    rw [← hn1] at HH
    rw [← hn2] at r1
    rw [← hn4, Nat.add_zero, fl_zero] at r2
    rw [← hn3] at r3
    rw [← hn5, Nat.add_zero, fl_zero] at r4
    rw [← hn6] at r5
    rw [← hn7] at r6
    unfold cx at HT1 HT2 HT3 HT4 HT5 HT6 HT7 HBX HA HC ⊢
    clear hww hhh hxx hyy hxw hyh hn1 hn2 hn3 hn4 hn5 hn6 hn7 hfl hff hfs hf hn hnl hlv hla hlla hlen hw ht hp
    have c2 : W.cell? ⟨g, 2, none⟩ = some (.pointer (some ⟨a.root, 0, none⟩)) := (blk_cell hk 2).trans rfl
    have c1 : W.cell? ⟨g, 1, none⟩ = some (.bool false) := (blk_cell hk 1).trans rfl
    clear hk
    obtain ⟨ra, hra⟩ : ∃ ra, ra = a.root := ⟨_, rfl⟩
    obtain ⟨rc, hrc⟩ : ∃ rc, rc = c.root := ⟨_, rfl⟩
    rw [← hra] at c2 HKB HA
    rw [← hrc] at HKB HC
    clear hra hrc
    go_enter Try.func26, Try.ntmps26
    go_wp2_with fail
    refine (HT1.out W).mono ?_
    rintro e W1 ⟨rfl, hb⟩
    have HP1 := Aside0.mk (HP.out.on hb)
    clear hb c1 c2
    go_wp2_with fail
    refine (HH.out W1).mono ?_
    rintro e W2 ⟨rfl, hb⟩
    have HP2 := Aside0.mk (HP1.out.on hb)
    clear hb
    go_wp2_with fail
    refine (HT2.out W2).mono ?_
    rintro e W3 ⟨rfl, hb⟩
    have HP3 := Aside0.mk (HP2.out.on hb)
    clear hb
    go_upto_region 8 with fail
    have c2 := (blk_cell (blk_drew (HKB.out W3 HP3.out.below)) 2).trans (rfl : _ = some (Value.pointer (some ⟨ra, 0, none⟩)))
    refine start_ (n := 14) (S := fun w' => w'.cell? ⟨g, 2, none⟩ = some (.pointer (some ⟨ra, 0, none⟩))) (ds := [13]) #[false, false, false, false, false, false, false, false, false, false, false, false, false, false] (by kernel_rfl) rfl rfl (c2) (fun hHeld => ?_)
    refine pure_ (i := 0) (N := some 44) (v := ?_) (a' := ?_) #[true, false, false, false, false, false, false, false, false, false, false, false, false, false] rfl rfl (by kernel_rfl) (fun _ _ _ h => h) (Or.inl ⟨by rfl, ?_⟩) ?_ ?_
    rotate_left
    · intro w'
      go_simp
      with_reducible rfl
    rotate_left
    · simp only [Act.put, List.setIfInBounds_toArray, List.set_cons_zero, List.set_cons_succ, i64_w, i32_w]
      rfl
    refine pure_ (i := 1) (N := some 45) (v := ?_) (a' := ?_) #[true, true, false, false, false, false, false, false, false, false, false, false, false, false] rfl rfl (by kernel_rfl) (fun _ _ _ h => h) (Or.inl ⟨by rfl, ?_⟩) ?_ ?_
    rotate_left
    · intro w'
      go_simp
      with_reducible rfl
    rotate_left
    · simp only [Act.put, List.setIfInBounds_toArray, List.set_cons_zero, List.set_cons_succ, i64_w, i32_w]
      rfl
    refine pure_ (i := 2) (N := some 46) (v := ?_) (a' := ?_) #[true, true, true, false, false, false, false, false, false, false, false, false, false, false] rfl rfl (by kernel_rfl) (fun _ _ _ h => h) (Or.inl ⟨by rfl, ?_⟩) ?_ ?_
    rotate_left
    · intro w'
      go_simp
      with_reducible rfl
    rotate_left
    · simp only [Act.put, List.setIfInBounds_toArray, List.set_cons_zero, List.set_cons_succ, i64_w, i32_w]
      rfl
    refine pure_ (i := 4) (N := some 48) (v := ?_) (a' := ?_) #[true, true, true, false, true, false, false, false, false, false, false, false, false, false] rfl rfl (by kernel_rfl) (fun _ _ _ h => h) (Or.inl ⟨by rfl, ?_⟩) ?_ ?_
    rotate_left
    · intro w'
      go_simp
      with_reducible rfl
    rotate_left
    · simp only [Act.put, List.setIfInBounds_toArray, List.set_cons_zero, List.set_cons_succ, i64_w, i32_w]
      rfl
    refine pure_ (i := 5) (N := some 49) (v := ?_) (a' := ?_) #[true, true, true, false, true, true, false, false, false, false, false, false, false, false] rfl rfl (by kernel_rfl) (fun _ _ _ h => h) (Or.inl ⟨by rfl, ?_⟩) ?_ ?_
    rotate_left
    · intro w'
      go_simp
      with_reducible rfl
    rotate_left
    · simp only [Act.put, List.setIfInBounds_toArray, List.set_cons_zero, List.set_cons_succ, i64_w, i32_w]
      rfl
    refine pure_ (i := 6) (N := some 50) (v := ?_) (a' := ?_) #[true, true, true, false, true, true, true, false, false, false, false, false, false, false] rfl rfl (by kernel_rfl) (fun _ _ _ h => h) (Or.inl ⟨by rfl, ?_⟩) ?_ ?_
    rotate_left
    · intro w'
      go_simp
      with_reducible rfl
    rotate_left
    · simp only [Act.put, List.setIfInBounds_toArray, List.set_cons_zero, List.set_cons_succ, i64_w, i32_w]
      rfl
    refine pure_ (i := 7) (N := some 51) (v := ?_) (a' := ?_) #[true, true, true, false, true, true, true, true, false, false, false, false, false, false] rfl rfl (by kernel_rfl) (fun _ _ _ h => h) (Or.inl ⟨by rfl, ?_⟩) ?_ ?_
    rotate_left
    · intro w'
      go_simp
      with_reducible rfl
    rotate_left
    · simp only [Act.put, List.setIfInBounds_toArray, List.set_cons_zero, List.set_cons_succ, i64_w, i32_w]
      rfl
    refine pure_ (i := 8) (N := some 52) (v := ?_) (a' := ?_) #[true, true, true, false, true, true, true, true, true, false, false, false, false, false] rfl rfl (by kernel_rfl) (fun _ _ _ h => h) (Or.inl ⟨by rfl, ?_⟩) ?_ ?_
    rotate_left
    · intro w'
      go_simp
      with_reducible rfl
    rotate_left
    · simp only [Act.put, List.setIfInBounds_toArray, List.set_cons_zero, List.set_cons_succ, i64_w, i32_w]
      rfl
    refine pure_ (i := 9) (N := some 53) (v := ?_) (a' := ?_) #[true, true, true, false, true, true, true, true, true, true, false, false, false, false] rfl rfl (by kernel_rfl) (fun _ _ _ h => h) (Or.inl ⟨by rfl, ?_⟩) ?_ ?_
    rotate_left
    · intro w'
      go_simp
      with_reducible rfl
    rotate_left
    · simp only [Act.put, List.setIfInBounds_toArray, List.set_cons_zero, List.set_cons_succ, i64_w, i32_w]
      rfl
    refine pure_ (i := 11) (N := some 55) (v := ?_) (a' := ?_) #[true, true, true, false, true, true, true, true, true, true, false, true, false, false] rfl rfl (by kernel_rfl) (fun _ _ _ h => h) (Or.inl ⟨by rfl, ?_⟩) ?_ ?_
    rotate_left
    · intro w'
      go_simp
      with_reducible rfl
    rotate_left
    · simp only [Act.put, List.setIfInBounds_toArray, List.set_cons_zero, List.set_cons_succ, i64_w, i32_w]
      rfl
    refine pure_ (i := 12) (N := some 56) (v := ?_) (a' := ?_) #[true, true, true, false, true, true, true, true, true, true, false, true, true, false] rfl rfl (by kernel_rfl) (fun _ _ _ h => h) (Or.inl ⟨by rfl, ?_⟩) ?_ ?_
    rotate_left
    · intro w'
      go_simp
      with_reducible rfl
    rotate_left
    · simp only [Act.put, List.setIfInBounds_toArray, List.set_cons_zero, List.set_cons_succ, i64_w, i32_w]
      rfl
    refine take_ (i := 3) (N := some 47) (v := ?_) (a' := ?_) #[true, true, true, true, true, true, true, true, true, true, false, true, true, false] rfl rfl (by kernel_rfl) (fun _ _ _ h => h) (Or.inl ⟨by rfl, ?_⟩) hHeld ?_ ?_
    rotate_left
    · intro w' s0
      go_simp
      with_reducible rfl
    rotate_left
    · simp only [Act.put, List.setIfInBounds_toArray, List.set_cons_zero, List.set_cons_succ, i64_w, i32_w]
      rfl
    refine one_ (i := 10) (N := some 54) #[true, true, true, true, true, true, true, true, true, true, true, true, true, false] rfl rfl (by kernel_rfl) (by decide) (fun K hK => ?_)
    refine goesv_ (.tmp 49) rfl Try.func30 (by kernel_rfl) rfl #[.complex .f64 (fl n1) (fl h)] (by rfl) rfl rfl (by simp only [List.map_toArray, List.map_cons, List.map_nil]; rfl) ?_
    with_reducible refine (HT3.out _).mono ?_
    rintro e w4 ⟨rfl, hb4⟩
    refine ⟨_, rfl, ?_⟩
    have HP4 := Aside0.mk ((HP3.out.on (below_drew (Below.refl _ _))).on hb4)
    clear hb4
    have d2 := (blk_cell (HKB.out w4 HP4.out.below) 2).trans (rfl : _ = some (Value.pointer (some ⟨ra, 0, none⟩)))
    refine hK.out _ _ (d2) (fun hHeld => ?_)
    clear hK K
    refine norm_ (a' := ?_) ?_ ?_
    rotate_left
    · show Act.put _ (some 54) _ = _
      simp only [Act.put, List.setIfInBounds_toArray, List.set_cons_zero, List.set_cons_succ, i64_w, i32_w]
      rfl
    refine last_ (i := 13) (N := some 57) #[true, true, true, true, true, true, true, true, true, true, true, true, true, true] rfl rfl (by kernel_rfl) (by decide) (fun K hK => ?_)
    refine goes_ Try.func26 (by kernel_rfl) rfl #[.pointer (some ⟨ra, 0, none⟩), .complex .f64 (fl x) (fl y), .complex .f64 (fl n1) (fl h), .map (some M), .pointer (some ⟨L, 0, none⟩)] (by rfl) rfl rfl (by simp only [List.map_toArray, List.map_cons, List.map_nil]; rfl) ?_
    with_reducible refine (HA.out _ HP4.out).mono ?_
    rintro e w5 ⟨rfl, hp5⟩
    refine ⟨_, rfl, ?_⟩
    have HP5 := Aside0.mk hp5
    clear hp5
    refine hK.out _ _ ?_
    clear hK K
    refine norm_ (a' := ?_) ?_ ?_
    rotate_left
    · show Act.put _ (some 57) _ = _
      simp only [Act.put, List.setIfInBounds_toArray, List.set_cons_zero, List.set_cons_succ, i64_w, i32_w]
      rfl
    refine done_ (by kernel_rfl) ?_
    clear c2 d2
    go_upto_region 9 with fail
    obtain ⟨va, hva, hra⟩ := HP5.out.row
    have HVA := Aside0.mk hva
    have v0 := (blk_cell (blk_drew hva) 0).trans (rfl : _ = some va)
    have HV6 := Aside0.mk (blk_drew hva)
    have HP6 := Aside0.mk (HP5.out.on (below_drew (Below.refl _ _)))
    have HR6 := Aside0.mk (Kd.R_drew hra)
    clear hva hra
    refine start_ (n := 21) (S := fun w' => w'.cell? ⟨L, 0, none⟩ = some va) (ds := [20]) #[false, false, false, false, false, false, false, false, false, false, false, false, false, false, false, false, false, false, false, false, false] (by kernel_rfl) rfl rfl (v0) (fun hHeld => ?_)
    refine pure_ (i := 0) (N := some 58) (v := ?_) (a' := ?_) #[true, false, false, false, false, false, false, false, false, false, false, false, false, false, false, false, false, false, false, false, false] rfl rfl (by kernel_rfl) (fun _ _ _ h => h) (Or.inl ⟨by rfl, ?_⟩) ?_ ?_
    rotate_left
    · intro w'
      go_simp
      with_reducible rfl
    rotate_left
    · simp only [Act.put, List.setIfInBounds_toArray, List.set_cons_zero, List.set_cons_succ, i64_w, i32_w]
      rfl
    refine pure_ (i := 1) (N := some 59) (v := ?_) (a' := ?_) #[true, true, false, false, false, false, false, false, false, false, false, false, false, false, false, false, false, false, false, false, false] rfl rfl (by kernel_rfl) (fun _ _ _ h => h) (Or.inl ⟨by rfl, ?_⟩) ?_ ?_
    rotate_left
    · intro w'
      go_simp
      with_reducible rfl
    rotate_left
    · simp only [Act.put, List.setIfInBounds_toArray, List.set_cons_zero, List.set_cons_succ, i64_w, i32_w]
      rfl
    refine pure_ (i := 2) (N := some 60) (v := ?_) (a' := ?_) #[true, true, true, false, false, false, false, false, false, false, false, false, false, false, false, false, false, false, false, false, false] rfl rfl (by kernel_rfl) (fun _ _ _ h => h) (Or.inl ⟨by rfl, ?_⟩) ?_ ?_
    rotate_left
    · intro w'
      go_simp
      with_reducible rfl
    rotate_left
    · simp only [Act.put, List.setIfInBounds_toArray, List.set_cons_zero, List.set_cons_succ, i64_w, i32_w]
      rfl
    refine pure_ (i := 4) (N := some 62) (v := ?_) (a' := ?_) #[true, true, true, false, true, false, false, false, false, false, false, false, false, false, false, false, false, false, false, false, false] rfl rfl (by kernel_rfl) (fun _ _ _ h => h) (Or.inl ⟨by rfl, ?_⟩) ?_ ?_
    rotate_left
    · intro w'
      go_simp
      with_reducible rfl
    rotate_left
    · simp only [Act.put, List.setIfInBounds_toArray, List.set_cons_zero, List.set_cons_succ, i64_w, i32_w]
      rfl
    refine pure_ (i := 5) (N := some 63) (v := ?_) (a' := ?_) #[true, true, true, false, true, true, false, false, false, false, false, false, false, false, false, false, false, false, false, false, false] rfl rfl (by kernel_rfl) (fun _ _ _ h => h) (Or.inl ⟨by rfl, ?_⟩) ?_ ?_
    rotate_left
    · intro w'
      go_simp
      with_reducible rfl
    rotate_left
    · simp only [Act.put, List.setIfInBounds_toArray, List.set_cons_zero, List.set_cons_succ, i64_w, i32_w]
      rfl
    refine pure_ (i := 6) (N := some 64) (v := ?_) (a' := ?_) #[true, true, true, false, true, true, true, false, false, false, false, false, false, false, false, false, false, false, false, false, false] rfl rfl (by kernel_rfl) (fun _ _ _ h => h) (Or.inl ⟨by rfl, ?_⟩) ?_ ?_
    rotate_left
    · intro w'
      go_simp
      with_reducible rfl
    rotate_left
    · simp only [Act.put, List.setIfInBounds_toArray, List.set_cons_zero, List.set_cons_succ, i64_w, i32_w]
      rfl
    refine pure_ (i := 7) (N := some 65) (v := ?_) (a' := ?_) #[true, true, true, false, true, true, true, true, false, false, false, false, false, false, false, false, false, false, false, false, false] rfl rfl (by kernel_rfl) (fun _ _ _ h => h) (Or.inl ⟨by rfl, ?_⟩) ?_ ?_
    rotate_left
    · intro w'
      go_simp
      with_reducible rfl
    rotate_left
    · simp only [Act.put, List.setIfInBounds_toArray, List.set_cons_zero, List.set_cons_succ, i64_w, i32_w]
      rfl
    refine pure_ (i := 8) (N := some 66) (v := ?_) (a' := ?_) #[true, true, true, false, true, true, true, true, true, false, false, false, false, false, false, false, false, false, false, false, false] rfl rfl (by kernel_rfl) (fun _ _ _ h => h) (Or.inl ⟨by rfl, ?_⟩) ?_ ?_
    rotate_left
    · intro w'
      go_simp
      with_reducible rfl
    rotate_left
    · simp only [Act.put, List.setIfInBounds_toArray, List.set_cons_zero, List.set_cons_succ, i64_w, i32_w]
      rfl
    refine pure_ (i := 10) (N := some 68) (v := ?_) (a' := ?_) #[true, true, true, false, true, true, true, true, true, false, true, false, false, false, false, false, false, false, false, false, false] rfl rfl (by kernel_rfl) (fun _ _ _ h => h) (Or.inl ⟨by rfl, ?_⟩) ?_ ?_
    rotate_left
    · intro w'
      go_simp
      with_reducible rfl
    rotate_left
    · simp only [Act.put, List.setIfInBounds_toArray, List.set_cons_zero, List.set_cons_succ, i64_w, i32_w]
      rfl
    refine pure_ (i := 11) (N := some 69) (v := ?_) (a' := ?_) #[true, true, true, false, true, true, true, true, true, false, true, true, false, false, false, false, false, false, false, false, false] rfl rfl (by kernel_rfl) (fun _ _ _ h => h) (Or.inl ⟨by rfl, ?_⟩) ?_ ?_
    rotate_left
    · intro w'
      go_simp
      with_reducible rfl
    rotate_left
    · simp only [Act.put, List.setIfInBounds_toArray, List.set_cons_zero, List.set_cons_succ, i64_w, i32_w]
      rfl
    refine pure_ (i := 12) (N := some 70) (v := ?_) (a' := ?_) #[true, true, true, false, true, true, true, true, true, false, true, true, true, false, false, false, false, false, false, false, false] rfl rfl (by kernel_rfl) (fun _ _ _ h => h) (Or.inl ⟨by rfl, ?_⟩) ?_ ?_
    rotate_left
    · intro w'
      go_simp
      with_reducible rfl
    rotate_left
    · simp only [Act.put, List.setIfInBounds_toArray, List.set_cons_zero, List.set_cons_succ, i64_w, i32_w]
      rfl
    refine pure_ (i := 13) (N := some 71) (v := ?_) (a' := ?_) #[true, true, true, false, true, true, true, true, true, false, true, true, true, true, false, false, false, false, false, false, false] rfl rfl (by kernel_rfl) (fun _ _ _ h => h) (Or.inl ⟨by rfl, ?_⟩) ?_ ?_
    rotate_left
    · intro w'
      go_simp
      with_reducible rfl
    rotate_left
    · simp only [Act.put, List.setIfInBounds_toArray, List.set_cons_zero, List.set_cons_succ, i64_w, i32_w]
      rfl
    refine pure_ (i := 14) (N := some 72) (v := ?_) (a' := ?_) #[true, true, true, false, true, true, true, true, true, false, true, true, true, true, true, false, false, false, false, false, false] rfl rfl (by kernel_rfl) (fun _ _ _ h => h) (Or.inl ⟨by rfl, ?_⟩) ?_ ?_
    rotate_left
    · intro w'
      go_simp
      with_reducible rfl
    rotate_left
    · simp only [Act.put, List.setIfInBounds_toArray, List.set_cons_zero, List.set_cons_succ, i64_w, i32_w]
      rfl
    refine take_ (i := 3) (N := some 61) (v := ?_) (a' := ?_) #[true, true, true, true, true, true, true, true, true, false, true, true, true, true, true, false, false, false, false, false, false] rfl rfl (by kernel_rfl) (fun _ _ _ h => h) (Or.inl ⟨by rfl, ?_⟩) hHeld ?_ ?_
    rotate_left
    · intro w' s0
      go_simp
      with_reducible rfl
    rotate_left
    · simp only [Act.put, List.setIfInBounds_toArray, List.set_cons_zero, List.set_cons_succ, i64_w, i32_w]
      rfl
    refine one_ (i := 9) (N := some 67) #[true, true, true, true, true, true, true, true, true, true, true, true, true, true, true, false, false, false, false, false, false] rfl rfl (by kernel_rfl) (by decide) (fun K hK => ?_)
    refine goesv_ (.tmp 62) rfl Try.func30 (by kernel_rfl) rfl #[.complex .f64 (fl n4) (fl y)] (by rfl) rfl rfl (by simp only [List.map_toArray, List.map_cons, List.map_nil]; rfl) ?_
    with_reducible refine (HT4.out _).mono ?_
    rintro e w7 ⟨rfl, hb7⟩
    refine ⟨_, rfl, ?_⟩
    have HP7 := Aside0.mk (HP6.out.on hb7)
    have HV7 := Aside0.mk (blk_below HV6.out hb7)
    have HR7 := Aside0.mk (Kd.R_below HR6.out hb7)
    have v7 := (blk_cell HV7.out 0).trans (rfl : _ = some va)
    clear hb7
    refine hK.out _ _ (v7) (fun hHeld => ?_)
    clear hK K
    refine norm_ (a' := ?_) ?_ ?_
    rotate_left
    · show Act.put _ (some 67) _ = _
      simp only [Act.put, List.setIfInBounds_toArray, List.set_cons_zero, List.set_cons_succ, i64_w, i32_w]
      rfl
    refine one_ (i := 15) (N := some 73) #[true, true, true, true, true, true, true, true, true, true, true, true, true, true, true, true, false, false, false, false, false] rfl rfl (by kernel_rfl) (by decide) (fun K hK => ?_)
    refine goesv_ (.tmp 68) rfl Try.func30 (by kernel_rfl) rfl #[.complex .f64 (fl n2) (fl h)] (by rfl) rfl rfl (by simp only [List.map_toArray, List.map_cons, List.map_nil]; rfl) ?_
    with_reducible refine (HT5.out _).mono ?_
    rintro e w8 ⟨rfl, hb8⟩
    refine ⟨_, rfl, ?_⟩
    have HP8 := Aside0.mk (HP7.out.on hb8)
    have HV8 := Aside0.mk (blk_below HV7.out hb8)
    have HR8 := Aside0.mk (Kd.R_below HR7.out hb8)
    have v8 := (blk_cell HV8.out 0).trans (rfl : _ = some va)
    clear hb8
    refine hK.out _ _ (v8) (fun hHeld => ?_)
    clear hK K
    refine norm_ (a' := ?_) ?_ ?_
    rotate_left
    · show Act.put _ (some 73) _ = _
      simp only [Act.put, List.setIfInBounds_toArray, List.set_cons_zero, List.set_cons_succ, i64_w, i32_w]
      rfl
    refine one_ (i := 16) (N := some 74) #[true, true, true, true, true, true, true, true, true, true, true, true, true, true, true, true, true, false, false, false, false] rfl rfl (by kernel_rfl) (by decide) (fun K hK => ?_)
    refine goes_ Try.func29 (by kernel_rfl) rfl #[.complex .f64 (fl n4) (fl y), .complex .f64 (fl n2) (fl h)] (by rfl) rfl rfl (by simp only [List.map_toArray, List.map_cons, List.map_nil]; rfl) ?_
    with_reducible refine (HBX.out _).mono ?_
    rintro e w9 ⟨rfl, hb9⟩
    refine ⟨_, rfl, ?_⟩
    have HP9 := Aside0.mk (HP8.out.on hb9)
    have HV9 := Aside0.mk (blk_below HV8.out hb9)
    have HR9 := Aside0.mk (Kd.R_below HR8.out hb9)
    have v9 := (blk_cell HV9.out 0).trans (rfl : _ = some va)
    clear hb9
    refine hK.out _ _ (v9) (fun hHeld => ?_)
    clear hK K
    refine norm_ (a' := ?_) ?_ ?_
    rotate_left
    · show Act.put _ (some 74) _ = _
      simp only [Act.put, List.setIfInBounds_toArray, List.set_cons_zero, List.set_cons_succ, i64_w, i32_w]
      rfl
    refine one_ (i := 17) (N := some 75) #[true, true, true, true, true, true, true, true, true, true, true, true, true, true, true, true, true, true, false, false, false] rfl rfl (by kernel_rfl) (by decide) (fun K hK => ?_)
    refine value_ (w1 := ?_) (v := ?_) (by rfl) rfl ?_ ?_
    rotate_left 2
    · go_simp
      constructor
      · rfl
      · rfl
    refine hK.out _ _ (((blk_cell (blk_alloc HV9.out _) 0).trans rfl)) (fun hHeld => ?_)
    clear hK K
    refine norm_ (a' := ?_) ?_ ?_
    rotate_left
    · show Act.put _ (some 75) _ = _
      simp only [Act.put, List.setIfInBounds_toArray, List.set_cons_zero, List.set_cons_succ, i64_w, i32_w]
      rfl
    refine one_ (i := 18) (N := some 76) #[true, true, true, true, true, true, true, true, true, true, true, true, true, true, true, true, true, true, true, false, false] rfl rfl (by kernel_rfl) (by decide) (fun K hK => ?_)
    refine Kd.R_append_step kB (w0 := w0) w0.heap.size (by rfl) (.tmp 61) (.tmp 75) 44 50 (.agg #[.int .i64 0, .int .i64 0, .int .i64 0, .int .i64 0]) 32 rfl Try.underlying44 info_box rfl (by decide) (by omega) va (ls ++ linesT a.plain (⟨x, y, n1, h⟩ : BX)) (⟨n4, y, n2, h⟩ : BX) [.int .i64 n4, .int .i64 y, .int .i64 n2, .int .i64 h] (fun k => k ≠ L ∧ k ≠ M) (fun _ => False) rfl rfl ?aP (fun _ hk => hk.elim) ?aF HR9.out HP9.out.below HP9.out.below.size ?aL ?_; (case aP => exact kB_mkM _ _ _ (⟨n4, y, n2, h⟩ : BX)); (case aF => exact fun k hk => by have h1 := blk_lt HV9.out; have h2 := HP9.out.mp.lt; omega); (case aL => have := HLN.out; omega)
    intro v10 w10 ho hb hg hat
    obtain ⟨A10, cp10, he⟩ := Kd.R_slice ho
    obtain ⟨n10, hn⟩ : ∃ n, n = (ls ++ linesT a.plain (⟨x, y, n1, h⟩ : BX) ++ [(⟨n4, y, n2, h⟩ : BX)]).length := ⟨_, rfl⟩
    rw [← hn] at he
    subst he
    clear hn
    have HO10 := Aside0.mk ho
    have HB10 := Aside0.mk hb
    have HV10 := Aside0.mk (blk_grown HV9.out hg (fun h => (HR9.out.1 L h.symm).1 rfl))
    have HM10 := Aside0.mk (HP9.out.mp.kept hg (fun h => (HR9.out.1 M h.symm).2 rfl))
    have v10' := (blk_cell HV10.out 0).trans (rfl : _ = some va)
    have f10 := blk_frozen HV10.out 0
    clear ho hb hg hat
    refine hK.out _ _ (v10') (fun hHeld => ?_)
    clear hK K
    refine norm_ (a' := ?_) ?_ ?_
    rotate_left
    · show Act.put _ (some 76) _ = _
      simp only [Act.put, List.setIfInBounds_toArray, List.set_cons_zero, List.set_cons_succ, i64_w, i32_w]
      rfl
    refine pure_ (i := 19) (N := some 77) (v := ?_) (a' := ?_) #[true, true, true, true, true, true, true, true, true, true, true, true, true, true, true, true, true, true, true, true, false] rfl rfl (by kernel_rfl) (fun _ _ _ h => h) (Or.inl ⟨by rfl, ?_⟩) ?_ ?_
    rotate_left
    · intro w'
      go_simp
      with_reducible rfl
    rotate_left
    · simp only [Act.put, List.setIfInBounds_toArray, List.set_cons_zero, List.set_cons_succ, i64_w, i32_w]
      rfl
    refine last_ (i := 20) (N := none) #[true, true, true, true, true, true, true, true, true, true, true, true, true, true, true, true, true, true, true, true, true] rfl rfl (by kernel_rfl) (by decide) (fun K hK => ?_)
    refine skip_ (w1 := ?_) (by rfl) rfl ?_ ?_
    rotate_left
    · go_simp
      rfl
    refine hK.out _ _ ?_
    clear hK K
    refine done_ (by kernel_rfl) ?_
    obtain ⟨w11, hw11⟩ : ∃ w11, w11 = w10.setCell ⟨L, 0, none⟩ (.slice A10 n10 cp10) := ⟨_, rfl⟩
    have HP11 := Aside0.mk (show PL w0 w11 M L (l ++ boxesT a.plain (⟨x, y, n1, h⟩ : BX)) (ls ++ linesT a.plain (⟨x, y, n1, h⟩ : BX) ++ [(⟨n4, y, n2, h⟩ : BX)]) from by
      rw [hw11]
      exact ⟨⟨_, blk_put HV10.out 0 _ rfl, Kd.R_far (p := ⟨L, 0, none⟩) HO10.out (fun k hk => hk.1) _⟩, HM10.out.move (Below.heap_setCell _ _ _ M (fun e => ne_ML HM10.out HV10.out e)), HB10.out.setCell HP9.out.hL _, HP9.out.hM, HP9.out.hL⟩)
    rw [← hw11]
    clear hw11 v0 v7 v8 v9 v10' f10
    go_upto_region 10 with fail
    have c3 := (blk_cell (blk_drew (HKB.out w11 HP11.out.below)) 3).trans (rfl : _ = some (Value.pointer (some ⟨rc, 0, none⟩)))
    refine start_ (n := 26) (S := fun w' => w'.cell? ⟨g, 3, none⟩ = some (.pointer (some ⟨rc, 0, none⟩))) (ds := [25]) #[false, false, false, false, false, false, false, false, false, false, false, false, false, false, false, false, false, false, false, false, false, false, false, false, false, false] (by kernel_rfl) rfl rfl (c3) (fun hHeld => ?_)
    refine pure_ (i := 0) (N := some 78) (v := ?_) (a' := ?_) #[true, false, false, false, false, false, false, false, false, false, false, false, false, false, false, false, false, false, false, false, false, false, false, false, false, false] rfl rfl (by kernel_rfl) (fun _ _ _ h => h) (Or.inl ⟨by rfl, ?_⟩) ?_ ?_
    rotate_left
    · intro w'
      go_simp
      with_reducible rfl
    rotate_left
    · simp only [Act.put, List.setIfInBounds_toArray, List.set_cons_zero, List.set_cons_succ, i64_w, i32_w]
      rfl
    refine pure_ (i := 1) (N := some 79) (v := ?_) (a' := ?_) #[true, true, false, false, false, false, false, false, false, false, false, false, false, false, false, false, false, false, false, false, false, false, false, false, false, false] rfl rfl (by kernel_rfl) (fun _ _ _ h => h) (Or.inl ⟨by rfl, ?_⟩) ?_ ?_
    rotate_left
    · intro w'
      go_simp
      with_reducible rfl
    rotate_left
    · simp only [Act.put, List.setIfInBounds_toArray, List.set_cons_zero, List.set_cons_succ, i64_w, i32_w]
      rfl
    refine pure_ (i := 2) (N := some 80) (v := ?_) (a' := ?_) #[true, true, true, false, false, false, false, false, false, false, false, false, false, false, false, false, false, false, false, false, false, false, false, false, false, false] rfl rfl (by kernel_rfl) (fun _ _ _ h => h) (Or.inl ⟨by rfl, ?_⟩) ?_ ?_
    rotate_left
    · intro w'
      go_simp
      with_reducible rfl
    rotate_left
    · simp only [Act.put, List.setIfInBounds_toArray, List.set_cons_zero, List.set_cons_succ, i64_w, i32_w]
      rfl
    refine pure_ (i := 4) (N := some 82) (v := ?_) (a' := ?_) #[true, true, true, false, true, false, false, false, false, false, false, false, false, false, false, false, false, false, false, false, false, false, false, false, false, false] rfl rfl (by kernel_rfl) (fun _ _ _ h => h) (Or.inl ⟨by rfl, ?_⟩) ?_ ?_
    rotate_left
    · intro w'
      go_simp
      with_reducible rfl
    rotate_left
    · simp only [Act.put, List.setIfInBounds_toArray, List.set_cons_zero, List.set_cons_succ, i64_w, i32_w]
      rfl
    refine pure_ (i := 5) (N := some 83) (v := ?_) (a' := ?_) #[true, true, true, false, true, true, false, false, false, false, false, false, false, false, false, false, false, false, false, false, false, false, false, false, false, false] rfl rfl (by kernel_rfl) (fun _ _ _ h => h) (Or.inl ⟨by rfl, ?_⟩) ?_ ?_
    rotate_left
    · intro w'
      go_simp
      with_reducible rfl
    rotate_left
    · simp only [Act.put, List.setIfInBounds_toArray, List.set_cons_zero, List.set_cons_succ, i64_w, i32_w]
      rfl
    refine pure_ (i := 6) (N := some 84) (v := ?_) (a' := ?_) #[true, true, true, false, true, true, true, false, false, false, false, false, false, false, false, false, false, false, false, false, false, false, false, false, false, false] rfl rfl (by kernel_rfl) (fun _ _ _ h => h) (Or.inl ⟨by rfl, ?_⟩) ?_ ?_
    rotate_left
    · intro w'
      go_simp
      with_reducible rfl
    rotate_left
    · simp only [Act.put, List.setIfInBounds_toArray, List.set_cons_zero, List.set_cons_succ, i64_w, i32_w]
      rfl
    refine pure_ (i := 7) (N := some 85) (v := ?_) (a' := ?_) #[true, true, true, false, true, true, true, true, false, false, false, false, false, false, false, false, false, false, false, false, false, false, false, false, false, false] rfl rfl (by kernel_rfl) (fun _ _ _ h => h) (Or.inl ⟨by rfl, ?_⟩) ?_ ?_
    rotate_left
    · intro w'
      go_simp
      with_reducible rfl
    rotate_left
    · simp only [Act.put, List.setIfInBounds_toArray, List.set_cons_zero, List.set_cons_succ, i64_w, i32_w]
      rfl
    refine pure_ (i := 8) (N := some 86) (v := ?_) (a' := ?_) #[true, true, true, false, true, true, true, true, true, false, false, false, false, false, false, false, false, false, false, false, false, false, false, false, false, false] rfl rfl (by kernel_rfl) (fun _ _ _ h => h) (Or.inl ⟨by rfl, ?_⟩) ?_ ?_
    rotate_left
    · intro w'
      go_simp
      with_reducible rfl
    rotate_left
    · simp only [Act.put, List.setIfInBounds_toArray, List.set_cons_zero, List.set_cons_succ, i64_w, i32_w]
      rfl
    refine pure_ (i := 9) (N := some 87) (v := ?_) (a' := ?_) #[true, true, true, false, true, true, true, true, true, true, false, false, false, false, false, false, false, false, false, false, false, false, false, false, false, false] rfl rfl (by kernel_rfl) (fun _ _ _ h => h) (Or.inl ⟨by rfl, ?_⟩) ?_ ?_
    rotate_left
    · intro w'
      go_simp
      with_reducible rfl
    rotate_left
    · simp only [Act.put, List.setIfInBounds_toArray, List.set_cons_zero, List.set_cons_succ, i64_w, i32_w]
      rfl
    refine pure_ (i := 10) (N := some 88) (v := ?_) (a' := ?_) #[true, true, true, false, true, true, true, true, true, true, true, false, false, false, false, false, false, false, false, false, false, false, false, false, false, false] rfl rfl (by kernel_rfl) (fun _ _ _ h => h) (Or.inl ⟨by rfl, ?_⟩) ?_ ?_
    rotate_left
    · intro w'
      go_simp
      with_reducible rfl
    rotate_left
    · simp only [Act.put, List.setIfInBounds_toArray, List.set_cons_zero, List.set_cons_succ, i64_w, i32_w]
      rfl
    refine pure_ (i := 12) (N := some 90) (v := ?_) (a' := ?_) #[true, true, true, false, true, true, true, true, true, true, true, false, true, false, false, false, false, false, false, false, false, false, false, false, false, false] rfl rfl (by kernel_rfl) (fun _ _ _ h => h) (Or.inl ⟨by rfl, ?_⟩) ?_ ?_
    rotate_left
    · intro w'
      go_simp
      with_reducible rfl
    rotate_left
    · simp only [Act.put, List.setIfInBounds_toArray, List.set_cons_zero, List.set_cons_succ, i64_w, i32_w]
      rfl
    refine pure_ (i := 13) (N := some 91) (v := ?_) (a' := ?_) #[true, true, true, false, true, true, true, true, true, true, true, false, true, true, false, false, false, false, false, false, false, false, false, false, false, false] rfl rfl (by kernel_rfl) (fun _ _ _ h => h) (Or.inl ⟨by rfl, ?_⟩) ?_ ?_
    rotate_left
    · intro w'
      go_simp
      with_reducible rfl
    rotate_left
    · simp only [Act.put, List.setIfInBounds_toArray, List.set_cons_zero, List.set_cons_succ, i64_w, i32_w]
      rfl
    refine pure_ (i := 14) (N := some 92) (v := ?_) (a' := ?_) #[true, true, true, false, true, true, true, true, true, true, true, false, true, true, true, false, false, false, false, false, false, false, false, false, false, false] rfl rfl (by kernel_rfl) (fun _ _ _ h => h) (Or.inl ⟨by rfl, ?_⟩) ?_ ?_
    rotate_left
    · intro w'
      go_simp
      with_reducible rfl
    rotate_left
    · simp only [Act.put, List.setIfInBounds_toArray, List.set_cons_zero, List.set_cons_succ, i64_w, i32_w]
      rfl
    refine pure_ (i := 15) (N := some 93) (v := ?_) (a' := ?_) #[true, true, true, false, true, true, true, true, true, true, true, false, true, true, true, true, false, false, false, false, false, false, false, false, false, false] rfl rfl (by kernel_rfl) (fun _ _ _ h => h) (Or.inl ⟨by rfl, ?_⟩) ?_ ?_
    rotate_left
    · intro w'
      go_simp
      with_reducible rfl
    rotate_left
    · simp only [Act.put, List.setIfInBounds_toArray, List.set_cons_zero, List.set_cons_succ, i64_w, i32_w]
      rfl
    refine pure_ (i := 16) (N := some 94) (v := ?_) (a' := ?_) #[true, true, true, false, true, true, true, true, true, true, true, false, true, true, true, true, true, false, false, false, false, false, false, false, false, false] rfl rfl (by kernel_rfl) (fun _ _ _ h => h) (Or.inl ⟨by rfl, ?_⟩) ?_ ?_
    rotate_left
    · intro w'
      go_simp
      with_reducible rfl
    rotate_left
    · simp only [Act.put, List.setIfInBounds_toArray, List.set_cons_zero, List.set_cons_succ, i64_w, i32_w]
      rfl
    refine pure_ (i := 17) (N := some 95) (v := ?_) (a' := ?_) #[true, true, true, false, true, true, true, true, true, true, true, false, true, true, true, true, true, true, false, false, false, false, false, false, false, false] rfl rfl (by kernel_rfl) (fun _ _ _ h => h) (Or.inl ⟨by rfl, ?_⟩) ?_ ?_
    rotate_left
    · intro w'
      go_simp
      with_reducible rfl
    rotate_left
    · simp only [Act.put, List.setIfInBounds_toArray, List.set_cons_zero, List.set_cons_succ, i64_w, i32_w]
      rfl
    refine pure_ (i := 18) (N := some 96) (v := ?_) (a' := ?_) #[true, true, true, false, true, true, true, true, true, true, true, false, true, true, true, true, true, true, true, false, false, false, false, false, false, false] rfl rfl (by kernel_rfl) (fun _ _ _ h => h) (Or.inl ⟨by rfl, ?_⟩) ?_ ?_
    rotate_left
    · intro w'
      go_simp
      with_reducible rfl
    rotate_left
    · simp only [Act.put, List.setIfInBounds_toArray, List.set_cons_zero, List.set_cons_succ, i64_w, i32_w]
      rfl
    refine pure_ (i := 19) (N := some 97) (v := ?_) (a' := ?_) #[true, true, true, false, true, true, true, true, true, true, true, false, true, true, true, true, true, true, true, true, false, false, false, false, false, false] rfl rfl (by kernel_rfl) (fun _ _ _ h => h) (Or.inl ⟨by rfl, ?_⟩) ?_ ?_
    rotate_left
    · intro w'
      go_simp
      with_reducible rfl
    rotate_left
    · simp only [Act.put, List.setIfInBounds_toArray, List.set_cons_zero, List.set_cons_succ, i64_w, i32_w]
      rfl
    refine pure_ (i := 20) (N := some 98) (v := ?_) (a' := ?_) #[true, true, true, false, true, true, true, true, true, true, true, false, true, true, true, true, true, true, true, true, true, false, false, false, false, false] rfl rfl (by kernel_rfl) (fun _ _ _ h => h) (Or.inl ⟨by rfl, ?_⟩) ?_ ?_
    rotate_left
    · intro w'
      go_simp
      with_reducible rfl
    rotate_left
    · simp only [Act.put, List.setIfInBounds_toArray, List.set_cons_zero, List.set_cons_succ, i64_w, i32_w]
      rfl
    refine pure_ (i := 21) (N := some 99) (v := ?_) (a' := ?_) #[true, true, true, false, true, true, true, true, true, true, true, false, true, true, true, true, true, true, true, true, true, true, false, false, false, false] rfl rfl (by kernel_rfl) (fun _ _ _ h => h) (Or.inl ⟨by rfl, ?_⟩) ?_ ?_
    rotate_left
    · intro w'
      go_simp
      with_reducible rfl
    rotate_left
    · simp only [Act.put, List.setIfInBounds_toArray, List.set_cons_zero, List.set_cons_succ, i64_w, i32_w]
      rfl
    refine pure_ (i := 23) (N := some 101) (v := ?_) (a' := ?_) #[true, true, true, false, true, true, true, true, true, true, true, false, true, true, true, true, true, true, true, true, true, true, false, true, false, false] rfl rfl (by kernel_rfl) (fun _ _ _ h => h) (Or.inl ⟨by rfl, ?_⟩) ?_ ?_
    rotate_left
    · intro w'
      go_simp
      with_reducible rfl
    rotate_left
    · simp only [Act.put, List.setIfInBounds_toArray, List.set_cons_zero, List.set_cons_succ, i64_w, i32_w]
      rfl
    refine pure_ (i := 24) (N := some 102) (v := ?_) (a' := ?_) #[true, true, true, false, true, true, true, true, true, true, true, false, true, true, true, true, true, true, true, true, true, true, false, true, true, false] rfl rfl (by kernel_rfl) (fun _ _ _ h => h) (Or.inl ⟨by rfl, ?_⟩) ?_ ?_
    rotate_left
    · intro w'
      go_simp
      with_reducible rfl
    rotate_left
    · simp only [Act.put, List.setIfInBounds_toArray, List.set_cons_zero, List.set_cons_succ, i64_w, i32_w]
      rfl
    refine take_ (i := 3) (N := some 81) (v := ?_) (a' := ?_) #[true, true, true, true, true, true, true, true, true, true, true, false, true, true, true, true, true, true, true, true, true, true, false, true, true, false] rfl rfl (by kernel_rfl) (fun _ _ _ h => h) (Or.inl ⟨by rfl, ?_⟩) hHeld ?_ ?_
    rotate_left
    · intro w' s0
      go_simp
      with_reducible rfl
    rotate_left
    · simp only [Act.put, List.setIfInBounds_toArray, List.set_cons_zero, List.set_cons_succ, i64_w, i32_w]
      rfl
    refine one_ (i := 11) (N := some 89) #[true, true, true, true, true, true, true, true, true, true, true, true, true, true, true, true, true, true, true, true, true, true, false, true, true, false] rfl rfl (by kernel_rfl) (by decide) (fun K hK => ?_)
    refine goesv_ (.tmp 82) rfl Try.func30 (by kernel_rfl) rfl #[.complex .f64 (fl n5) (fl y)] (by rfl) rfl rfl (by simp only [List.map_toArray, List.map_cons, List.map_nil]; rfl) ?_
    with_reducible refine (HT6.out _).mono ?_
    rintro e w12 ⟨rfl, hb12⟩
    refine ⟨_, rfl, ?_⟩
    have HP12 := Aside0.mk ((HP11.out.on (below_drew (Below.refl _ _))).on hb12)
    clear hb12
    have d12 := (blk_cell (HKB.out w12 HP12.out.below) 3).trans (rfl : _ = some (Value.pointer (some ⟨rc, 0, none⟩)))
    refine hK.out _ _ (d12) (fun hHeld => ?_)
    clear hK K
    refine norm_ (a' := ?_) ?_ ?_
    rotate_left
    · show Act.put _ (some 89) _ = _
      simp only [Act.put, List.setIfInBounds_toArray, List.set_cons_zero, List.set_cons_succ, i64_w, i32_w]
      rfl
    refine one_ (i := 22) (N := some 100) #[true, true, true, true, true, true, true, true, true, true, true, true, true, true, true, true, true, true, true, true, true, true, true, true, true, false] rfl rfl (by kernel_rfl) (by decide) (fun K hK => ?_)
    refine goesv_ (.tmp 90) rfl Try.func30 (by kernel_rfl) rfl #[.complex .f64 (fl n7) (fl h)] (by rfl) rfl rfl (by simp only [List.map_toArray, List.map_cons, List.map_nil]; rfl) ?_
    with_reducible refine (HT7.out _).mono ?_
    rintro e w13 ⟨rfl, hb13⟩
    refine ⟨_, rfl, ?_⟩
    have HP13 := Aside0.mk (HP12.out.on hb13)
    clear hb13
    have d13 := (blk_cell (HKB.out w13 HP13.out.below) 3).trans (rfl : _ = some (Value.pointer (some ⟨rc, 0, none⟩)))
    refine hK.out _ _ (d13) (fun hHeld => ?_)
    clear hK K
    refine norm_ (a' := ?_) ?_ ?_
    rotate_left
    · show Act.put _ (some 100) _ = _
      simp only [Act.put, List.setIfInBounds_toArray, List.set_cons_zero, List.set_cons_succ, i64_w, i32_w]
      rfl
    refine last_ (i := 25) (N := some 103) #[true, true, true, true, true, true, true, true, true, true, true, true, true, true, true, true, true, true, true, true, true, true, true, true, true, true] rfl rfl (by kernel_rfl) (by decide) (fun K hK => ?_)
    refine goes_ Try.func26 (by kernel_rfl) rfl #[.pointer (some ⟨rc, 0, none⟩), .complex .f64 (fl n5) (fl y), .complex .f64 (fl n7) (fl h), .map (some M), .pointer (some ⟨L, 0, none⟩)] (by rfl) rfl rfl (by simp only [List.map_toArray, List.map_cons, List.map_nil]; rfl) ?_
    with_reducible refine (HC.out _ HP13.out).mono ?_
    rintro e w14 ⟨rfl, hp14⟩
    refine ⟨_, rfl, ?_⟩
    have HP14 := Aside0.mk hp14
    clear hp14
    refine hK.out _ _ ?_
    clear hK K
    refine norm_ (a' := ?_) ?_ ?_
    rotate_left
    · show Act.put _ (some 103) _ = _
      simp only [Act.put, List.setIfInBounds_toArray, List.set_cons_zero, List.set_cons_succ, i64_w, i32_w]
      rfl
    refine done_ (by kernel_rfl) ?_
    go_wp2_with fail
    refine ⟨rfl, .tuple #[], ?_, rfl, ?_⟩
    · first
        | rfl
        | simp [results, Try.results26, go_sem]
    · have hq := HP14.out
      rw [List.append_assoc (ls ++ linesT a.plain (⟨x, y, n1, h⟩ : BX)), List.append_assoc ls, List.append_assoc l] at hq
      exact hq
  | .part g true a c, ht, b, W, l, ls, hp, hf, hw, hn, hlen => by
    have hu := Try.underlying63
    have hk : NB W g 0 true (some ⟨a.root, 0, none⟩) (some ⟨c.root, 0, none⟩) := (hp.below.block g (blk_lt ht.1)).trans ht.1
    have HKB := Aside0.mk (fun W2 (h : Below w0.heap.size w0 W2) => (((h.block g (blk_lt ht.1)).trans ht.1 : NB W2 g 0 true (some ⟨a.root, 0, none⟩) (some ⟨c.root, 0, none⟩))))
    have hnl := List.nodup_append.1 hn
    have hlv : (BT.part g true a c).plain.leaves = a.plain.leaves ++ c.plain.leaves := rfl
    rw [hlv] at hn hlen hw
    have hla := boxes_len a.plain (firstB true b)
    have hlla := lines_len a.plain (firstB true b)
    rw [List.length_append] at hlen
    have HA := Aside0.mk (fun W2 h2 => place_c w0 M L a ht.2.1 (firstB true b) W2 l ls h2 (fits_first hf) (fun p h => hw p (List.mem_append_left _ h)) (by rw [← List.append_assoc] at hn; exact (List.nodup_append.1 hn).1) (by omega))
    have HC := Aside0.mk (fun W2 h2 => place_c w0 M L c ht.2.2 (secondB true b) W2 (l ++ boxesT a.plain (firstB true b)) (ls ++ linesT a.plain (firstB true b) ++ [lineB true b]) h2 (fits_second hf) (fun p h => hw p (List.mem_append_right _ h)) (by rw [List.map_append, keys_boxes, List.append_assoc]; exact hn) (by simp only [List.length_append, List.length_singleton]; omega))
    have HLN := Aside0.mk (show (ls ++ linesT a.plain (firstB true b)).length < 1000000 by rw [List.length_append]; omega)
    have HP := Aside0.mk hp
    have hfl := fits_line (f := true) hf
    have hff := fits_first (f := true) hf
    have hfs := fits_second (f := true) hf
    rw [show (BT.part g true a c).root = g from rfl, show boxesT (BT.part g true a c).plain b = boxesT a.plain (firstB true b) ++ boxesT c.plain (secondB true b) from rfl, show linesT (BT.part g true a c).plain b = linesT a.plain (firstB true b) ++ lineB true b :: linesT c.plain (secondB true b) from rfl]
    have e1 : firstB true b = ⟨b.x, b.y, b.w, (b.h - 1) / 2⟩ := rfl
    have e2 : lineB true b = ⟨b.x, b.y + (b.h - 1) / 2, b.w, min b.h 1⟩ := rfl
    have e3 : secondB true b = ⟨b.x, b.y + ((b.h - 1) / 2 + min b.h 1), b.w, b.h - (b.h - 1) / 2 - min b.h 1⟩ := rfl
    rw [e1] at HA HC HLN hff ⊢
    rw [e2] at HC hfl ⊢
    rw [e3] at HC hfs ⊢
    clear e1 e2 e3
    obtain ⟨x, y, w, h⟩ := b
    dsimp only at HA HC HLN hff hfl hfs ⊢
    have hww : w ≤ 60 := by have := hf.1; dsimp only at this; omega
    have hhh : h ≤ 60 := by have := hf.2; dsimp only at this; omega
    have hxx : x ≤ 60 := by have := hf.1; dsimp only at this; omega
    have hyy : y ≤ 60 := by have := hf.2; dsimp only at this; omega
    have hxw : x + w ≤ 60 := hf.1
    have hyh : y + h ≤ 60 := hf.2
    obtain ⟨n1, hn1⟩ : ∃ n1, n1 = (h - 1) / 2 := ⟨_, rfl⟩
    obtain ⟨n2, hn2⟩ : ∃ n2, n2 = min h 1 := ⟨_, rfl⟩
    rw [← hn1] at HA HC HLN hff hfl hfs ⊢
    rw [← hn2] at HC hfl hfs ⊢
    obtain ⟨n3, hn3⟩ : ∃ n3, n3 = n1 + n2 := ⟨_, rfl⟩
    rw [← hn3] at HC hfs ⊢
    obtain ⟨n4, hn4⟩ : ∃ n4, n4 = y + n1 := ⟨_, rfl⟩
    rw [← hn4] at HC hfl ⊢
    obtain ⟨n5, hn5⟩ : ∃ n5, n5 = y + n3 := ⟨_, rfl⟩
    rw [← hn5] at HC hfs ⊢
    obtain ⟨n6, hn6⟩ : ∃ n6, n6 = h - n1 := ⟨_, rfl⟩
    rw [← hn6] at HC hfs ⊢
    obtain ⟨n7, hn7⟩ : ∃ n7, n7 = n6 - n2 := ⟨_, rfl⟩
    rw [← hn7] at HC hfs ⊢
    have HH := Aside0.mk (fun W => half_c h W (by omega))
    have HT1 := Aside0.mk (fun W => turned_c w h W)
    have HT2 := Aside0.mk (fun W => turned_c x y W)
    have HT3 := Aside0.mk (fun W => turned_c n1 w W)
    have HT4 := Aside0.mk (fun W => turned_c n4 x W)
    have HT5 := Aside0.mk (fun W => turned_c n2 w W)
    have HT6 := Aside0.mk (fun W => turned_c n5 x W)
    have HT7 := Aside0.mk (fun W => turned_c n7 w W)
    have HBX := Aside0.mk (fun W => box_c x n4 w n2 W (by omega) (by omega) (by omega) (by omega))
    have r1 := fun W ts t => run_min W ts t h (by omega)
    have r2 := fun W t => run_cadd W t y x n1 0 (by omega) (by omega)
    have r3 := fun W t => run_add W t n1 n2 (by omega)
    have r4 := fun W t => run_cadd W t y x n3 0 (by omega) (by omega)
    have r5 := fun W t => run_sub W t h n1 (by omega) (by omega)
    have r6 := fun W t => run_sub W t n6 n2 (by omega) (by omega)
    rw [← hn1] at HH
    rw [← hn2] at r1
    rw [← hn4, Nat.add_zero, fl_zero] at r2
    rw [← hn3] at r3
    rw [← hn5, Nat.add_zero, fl_zero] at r4
    rw [← hn6] at r5
    rw [← hn7] at r6
    unfold cx at HT1 HT2 HT3 HT4 HT5 HT6 HT7 HBX HA HC ⊢
    clear hww hhh hxx hyy hxw hyh hn1 hn2 hn3 hn4 hn5 hn6 hn7 hfl hff hfs hf hn hnl hlv hla hlla hlen hw ht hp
    have c2 : W.cell? ⟨g, 2, none⟩ = some (.pointer (some ⟨a.root, 0, none⟩)) := (blk_cell hk 2).trans rfl
    have c1 : W.cell? ⟨g, 1, none⟩ = some (.bool true) := (blk_cell hk 1).trans rfl
    clear hk
    obtain ⟨ra, hra⟩ : ∃ ra, ra = a.root := ⟨_, rfl⟩
    obtain ⟨rc, hrc⟩ : ∃ rc, rc = c.root := ⟨_, rfl⟩
    rw [← hra] at c2 HKB HA
    rw [← hrc] at HKB HC
    clear hra hrc
    go_enter Try.func26, Try.ntmps26
    go_wp2_with fail
    refine (HT1.out W).mono ?_
    rintro e W1 ⟨rfl, hb⟩
    have HP1 := Aside0.mk (HP.out.on hb)
    clear hb c1 c2
    go_wp2_with fail
    refine (HH.out W1).mono ?_
    rintro e W2 ⟨rfl, hb⟩
    have HP2 := Aside0.mk (HP1.out.on hb)
    clear hb
    go_wp2_with fail
    refine (HT2.out W2).mono ?_
    rintro e W3 ⟨rfl, hb⟩
    have HP3 := Aside0.mk (HP2.out.on hb)
    clear hb
    go_upto_region 8 with fail
    have c2 := (blk_cell (blk_drew (HKB.out W3 HP3.out.below)) 2).trans (rfl : _ = some (Value.pointer (some ⟨ra, 0, none⟩)))
    refine start_ (n := 14) (S := fun w' => w'.cell? ⟨g, 2, none⟩ = some (.pointer (some ⟨ra, 0, none⟩))) (ds := [13]) #[false, false, false, false, false, false, false, false, false, false, false, false, false, false] (by kernel_rfl) rfl rfl (c2) (fun hHeld => ?_)
    refine pure_ (i := 0) (N := some 44) (v := ?_) (a' := ?_) #[true, false, false, false, false, false, false, false, false, false, false, false, false, false] rfl rfl (by kernel_rfl) (fun _ _ _ h => h) (Or.inl ⟨by rfl, ?_⟩) ?_ ?_
    rotate_left
    · intro w'
      go_simp
      with_reducible rfl
    rotate_left
    · simp only [Act.put, List.setIfInBounds_toArray, List.set_cons_zero, List.set_cons_succ, i64_w, i32_w]
      rfl
    refine pure_ (i := 1) (N := some 45) (v := ?_) (a' := ?_) #[true, true, false, false, false, false, false, false, false, false, false, false, false, false] rfl rfl (by kernel_rfl) (fun _ _ _ h => h) (Or.inl ⟨by rfl, ?_⟩) ?_ ?_
    rotate_left
    · intro w'
      go_simp
      with_reducible rfl
    rotate_left
    · simp only [Act.put, List.setIfInBounds_toArray, List.set_cons_zero, List.set_cons_succ, i64_w, i32_w]
      rfl
    refine pure_ (i := 2) (N := some 46) (v := ?_) (a' := ?_) #[true, true, true, false, false, false, false, false, false, false, false, false, false, false] rfl rfl (by kernel_rfl) (fun _ _ _ h => h) (Or.inl ⟨by rfl, ?_⟩) ?_ ?_
    rotate_left
    · intro w'
      go_simp
      with_reducible rfl
    rotate_left
    · simp only [Act.put, List.setIfInBounds_toArray, List.set_cons_zero, List.set_cons_succ, i64_w, i32_w]
      rfl
    refine pure_ (i := 4) (N := some 48) (v := ?_) (a' := ?_) #[true, true, true, false, true, false, false, false, false, false, false, false, false, false] rfl rfl (by kernel_rfl) (fun _ _ _ h => h) (Or.inl ⟨by rfl, ?_⟩) ?_ ?_
    rotate_left
    · intro w'
      go_simp
      with_reducible rfl
    rotate_left
    · simp only [Act.put, List.setIfInBounds_toArray, List.set_cons_zero, List.set_cons_succ, i64_w, i32_w]
      rfl
    refine pure_ (i := 5) (N := some 49) (v := ?_) (a' := ?_) #[true, true, true, false, true, true, false, false, false, false, false, false, false, false] rfl rfl (by kernel_rfl) (fun _ _ _ h => h) (Or.inl ⟨by rfl, ?_⟩) ?_ ?_
    rotate_left
    · intro w'
      go_simp
      with_reducible rfl
    rotate_left
    · simp only [Act.put, List.setIfInBounds_toArray, List.set_cons_zero, List.set_cons_succ, i64_w, i32_w]
      rfl
    refine pure_ (i := 6) (N := some 50) (v := ?_) (a' := ?_) #[true, true, true, false, true, true, true, false, false, false, false, false, false, false] rfl rfl (by kernel_rfl) (fun _ _ _ h => h) (Or.inl ⟨by rfl, ?_⟩) ?_ ?_
    rotate_left
    · intro w'
      go_simp
      with_reducible rfl
    rotate_left
    · simp only [Act.put, List.setIfInBounds_toArray, List.set_cons_zero, List.set_cons_succ, i64_w, i32_w]
      rfl
    refine pure_ (i := 7) (N := some 51) (v := ?_) (a' := ?_) #[true, true, true, false, true, true, true, true, false, false, false, false, false, false] rfl rfl (by kernel_rfl) (fun _ _ _ h => h) (Or.inl ⟨by rfl, ?_⟩) ?_ ?_
    rotate_left
    · intro w'
      go_simp
      with_reducible rfl
    rotate_left
    · simp only [Act.put, List.setIfInBounds_toArray, List.set_cons_zero, List.set_cons_succ, i64_w, i32_w]
      rfl
    refine pure_ (i := 8) (N := some 52) (v := ?_) (a' := ?_) #[true, true, true, false, true, true, true, true, true, false, false, false, false, false] rfl rfl (by kernel_rfl) (fun _ _ _ h => h) (Or.inl ⟨by rfl, ?_⟩) ?_ ?_
    rotate_left
    · intro w'
      go_simp
      with_reducible rfl
    rotate_left
    · simp only [Act.put, List.setIfInBounds_toArray, List.set_cons_zero, List.set_cons_succ, i64_w, i32_w]
      rfl
    refine pure_ (i := 9) (N := some 53) (v := ?_) (a' := ?_) #[true, true, true, false, true, true, true, true, true, true, false, false, false, false] rfl rfl (by kernel_rfl) (fun _ _ _ h => h) (Or.inl ⟨by rfl, ?_⟩) ?_ ?_
    rotate_left
    · intro w'
      go_simp
      with_reducible rfl
    rotate_left
    · simp only [Act.put, List.setIfInBounds_toArray, List.set_cons_zero, List.set_cons_succ, i64_w, i32_w]
      rfl
    refine pure_ (i := 11) (N := some 55) (v := ?_) (a' := ?_) #[true, true, true, false, true, true, true, true, true, true, false, true, false, false] rfl rfl (by kernel_rfl) (fun _ _ _ h => h) (Or.inl ⟨by rfl, ?_⟩) ?_ ?_
    rotate_left
    · intro w'
      go_simp
      with_reducible rfl
    rotate_left
    · simp only [Act.put, List.setIfInBounds_toArray, List.set_cons_zero, List.set_cons_succ, i64_w, i32_w]
      rfl
    refine pure_ (i := 12) (N := some 56) (v := ?_) (a' := ?_) #[true, true, true, false, true, true, true, true, true, true, false, true, true, false] rfl rfl (by kernel_rfl) (fun _ _ _ h => h) (Or.inl ⟨by rfl, ?_⟩) ?_ ?_
    rotate_left
    · intro w'
      go_simp
      with_reducible rfl
    rotate_left
    · simp only [Act.put, List.setIfInBounds_toArray, List.set_cons_zero, List.set_cons_succ, i64_w, i32_w]
      rfl
    refine take_ (i := 3) (N := some 47) (v := ?_) (a' := ?_) #[true, true, true, true, true, true, true, true, true, true, false, true, true, false] rfl rfl (by kernel_rfl) (fun _ _ _ h => h) (Or.inl ⟨by rfl, ?_⟩) hHeld ?_ ?_
    rotate_left
    · intro w' s0
      go_simp
      with_reducible rfl
    rotate_left
    · simp only [Act.put, List.setIfInBounds_toArray, List.set_cons_zero, List.set_cons_succ, i64_w, i32_w]
      rfl
    refine one_ (i := 10) (N := some 54) #[true, true, true, true, true, true, true, true, true, true, true, true, true, false] rfl rfl (by kernel_rfl) (by decide) (fun K hK => ?_)
    refine goesv_ (.tmp 49) rfl Try.func31 (by kernel_rfl) rfl #[.complex .f64 (fl n1) (fl w)] (by rfl) rfl rfl (by simp only [List.map_toArray, List.map_cons, List.map_nil]; rfl) ?_
    with_reducible refine (HT3.out _).mono ?_
    rintro e w4 ⟨rfl, hb4⟩
    refine ⟨_, rfl, ?_⟩
    have HP4 := Aside0.mk ((HP3.out.on (below_drew (Below.refl _ _))).on hb4)
    clear hb4
    have d2 := (blk_cell (HKB.out w4 HP4.out.below) 2).trans (rfl : _ = some (Value.pointer (some ⟨ra, 0, none⟩)))
    refine hK.out _ _ (d2) (fun hHeld => ?_)
    clear hK K
    refine norm_ (a' := ?_) ?_ ?_
    rotate_left
    · show Act.put _ (some 54) _ = _
      simp only [Act.put, List.setIfInBounds_toArray, List.set_cons_zero, List.set_cons_succ, i64_w, i32_w]
      rfl
    refine last_ (i := 13) (N := some 57) #[true, true, true, true, true, true, true, true, true, true, true, true, true, true] rfl rfl (by kernel_rfl) (by decide) (fun K hK => ?_)
    refine goes_ Try.func26 (by kernel_rfl) rfl #[.pointer (some ⟨ra, 0, none⟩), .complex .f64 (fl x) (fl y), .complex .f64 (fl w) (fl n1), .map (some M), .pointer (some ⟨L, 0, none⟩)] (by rfl) rfl rfl (by simp only [List.map_toArray, List.map_cons, List.map_nil]; rfl) ?_
    with_reducible refine (HA.out _ HP4.out).mono ?_
    rintro e w5 ⟨rfl, hp5⟩
    refine ⟨_, rfl, ?_⟩
    have HP5 := Aside0.mk hp5
    clear hp5
    refine hK.out _ _ ?_
    clear hK K
    refine norm_ (a' := ?_) ?_ ?_
    rotate_left
    · show Act.put _ (some 57) _ = _
      simp only [Act.put, List.setIfInBounds_toArray, List.set_cons_zero, List.set_cons_succ, i64_w, i32_w]
      rfl
    refine done_ (by kernel_rfl) ?_
    clear c2 d2
    go_upto_region 9 with fail
    obtain ⟨va, hva, hra⟩ := HP5.out.row
    have HVA := Aside0.mk hva
    have v0 := (blk_cell (blk_drew hva) 0).trans (rfl : _ = some va)
    have HV6 := Aside0.mk (blk_drew hva)
    have HP6 := Aside0.mk (HP5.out.on (below_drew (Below.refl _ _)))
    have HR6 := Aside0.mk (Kd.R_drew hra)
    clear hva hra
    refine start_ (n := 21) (S := fun w' => w'.cell? ⟨L, 0, none⟩ = some va) (ds := [20]) #[false, false, false, false, false, false, false, false, false, false, false, false, false, false, false, false, false, false, false, false, false] (by kernel_rfl) rfl rfl (v0) (fun hHeld => ?_)
    refine pure_ (i := 0) (N := some 58) (v := ?_) (a' := ?_) #[true, false, false, false, false, false, false, false, false, false, false, false, false, false, false, false, false, false, false, false, false] rfl rfl (by kernel_rfl) (fun _ _ _ h => h) (Or.inl ⟨by rfl, ?_⟩) ?_ ?_
    rotate_left
    · intro w'
      go_simp
      with_reducible rfl
    rotate_left
    · simp only [Act.put, List.setIfInBounds_toArray, List.set_cons_zero, List.set_cons_succ, i64_w, i32_w]
      rfl
    refine pure_ (i := 1) (N := some 59) (v := ?_) (a' := ?_) #[true, true, false, false, false, false, false, false, false, false, false, false, false, false, false, false, false, false, false, false, false] rfl rfl (by kernel_rfl) (fun _ _ _ h => h) (Or.inl ⟨by rfl, ?_⟩) ?_ ?_
    rotate_left
    · intro w'
      go_simp
      with_reducible rfl
    rotate_left
    · simp only [Act.put, List.setIfInBounds_toArray, List.set_cons_zero, List.set_cons_succ, i64_w, i32_w]
      rfl
    refine pure_ (i := 2) (N := some 60) (v := ?_) (a' := ?_) #[true, true, true, false, false, false, false, false, false, false, false, false, false, false, false, false, false, false, false, false, false] rfl rfl (by kernel_rfl) (fun _ _ _ h => h) (Or.inl ⟨by rfl, ?_⟩) ?_ ?_
    rotate_left
    · intro w'
      go_simp
      with_reducible rfl
    rotate_left
    · simp only [Act.put, List.setIfInBounds_toArray, List.set_cons_zero, List.set_cons_succ, i64_w, i32_w]
      rfl
    refine pure_ (i := 4) (N := some 62) (v := ?_) (a' := ?_) #[true, true, true, false, true, false, false, false, false, false, false, false, false, false, false, false, false, false, false, false, false] rfl rfl (by kernel_rfl) (fun _ _ _ h => h) (Or.inl ⟨by rfl, ?_⟩) ?_ ?_
    rotate_left
    · intro w'
      go_simp
      with_reducible rfl
    rotate_left
    · simp only [Act.put, List.setIfInBounds_toArray, List.set_cons_zero, List.set_cons_succ, i64_w, i32_w]
      rfl
    refine pure_ (i := 5) (N := some 63) (v := ?_) (a' := ?_) #[true, true, true, false, true, true, false, false, false, false, false, false, false, false, false, false, false, false, false, false, false] rfl rfl (by kernel_rfl) (fun _ _ _ h => h) (Or.inl ⟨by rfl, ?_⟩) ?_ ?_
    rotate_left
    · intro w'
      go_simp
      with_reducible rfl
    rotate_left
    · simp only [Act.put, List.setIfInBounds_toArray, List.set_cons_zero, List.set_cons_succ, i64_w, i32_w]
      rfl
    refine pure_ (i := 6) (N := some 64) (v := ?_) (a' := ?_) #[true, true, true, false, true, true, true, false, false, false, false, false, false, false, false, false, false, false, false, false, false] rfl rfl (by kernel_rfl) (fun _ _ _ h => h) (Or.inl ⟨by rfl, ?_⟩) ?_ ?_
    rotate_left
    · intro w'
      go_simp
      with_reducible rfl
    rotate_left
    · simp only [Act.put, List.setIfInBounds_toArray, List.set_cons_zero, List.set_cons_succ, i64_w, i32_w]
      rfl
    refine pure_ (i := 7) (N := some 65) (v := ?_) (a' := ?_) #[true, true, true, false, true, true, true, true, false, false, false, false, false, false, false, false, false, false, false, false, false] rfl rfl (by kernel_rfl) (fun _ _ _ h => h) (Or.inl ⟨by rfl, ?_⟩) ?_ ?_
    rotate_left
    · intro w'
      go_simp
      with_reducible rfl
    rotate_left
    · simp only [Act.put, List.setIfInBounds_toArray, List.set_cons_zero, List.set_cons_succ, i64_w, i32_w]
      rfl
    refine pure_ (i := 8) (N := some 66) (v := ?_) (a' := ?_) #[true, true, true, false, true, true, true, true, true, false, false, false, false, false, false, false, false, false, false, false, false] rfl rfl (by kernel_rfl) (fun _ _ _ h => h) (Or.inl ⟨by rfl, ?_⟩) ?_ ?_
    rotate_left
    · intro w'
      go_simp
      with_reducible rfl
    rotate_left
    · simp only [Act.put, List.setIfInBounds_toArray, List.set_cons_zero, List.set_cons_succ, i64_w, i32_w]
      rfl
    refine pure_ (i := 10) (N := some 68) (v := ?_) (a' := ?_) #[true, true, true, false, true, true, true, true, true, false, true, false, false, false, false, false, false, false, false, false, false] rfl rfl (by kernel_rfl) (fun _ _ _ h => h) (Or.inl ⟨by rfl, ?_⟩) ?_ ?_
    rotate_left
    · intro w'
      go_simp
      with_reducible rfl
    rotate_left
    · simp only [Act.put, List.setIfInBounds_toArray, List.set_cons_zero, List.set_cons_succ, i64_w, i32_w]
      rfl
    refine pure_ (i := 11) (N := some 69) (v := ?_) (a' := ?_) #[true, true, true, false, true, true, true, true, true, false, true, true, false, false, false, false, false, false, false, false, false] rfl rfl (by kernel_rfl) (fun _ _ _ h => h) (Or.inl ⟨by rfl, ?_⟩) ?_ ?_
    rotate_left
    · intro w'
      go_simp
      with_reducible rfl
    rotate_left
    · simp only [Act.put, List.setIfInBounds_toArray, List.set_cons_zero, List.set_cons_succ, i64_w, i32_w]
      rfl
    refine pure_ (i := 12) (N := some 70) (v := ?_) (a' := ?_) #[true, true, true, false, true, true, true, true, true, false, true, true, true, false, false, false, false, false, false, false, false] rfl rfl (by kernel_rfl) (fun _ _ _ h => h) (Or.inl ⟨by rfl, ?_⟩) ?_ ?_
    rotate_left
    · intro w'
      go_simp
      with_reducible rfl
    rotate_left
    · simp only [Act.put, List.setIfInBounds_toArray, List.set_cons_zero, List.set_cons_succ, i64_w, i32_w]
      rfl
    refine pure_ (i := 13) (N := some 71) (v := ?_) (a' := ?_) #[true, true, true, false, true, true, true, true, true, false, true, true, true, true, false, false, false, false, false, false, false] rfl rfl (by kernel_rfl) (fun _ _ _ h => h) (Or.inl ⟨by rfl, ?_⟩) ?_ ?_
    rotate_left
    · intro w'
      go_simp
      with_reducible rfl
    rotate_left
    · simp only [Act.put, List.setIfInBounds_toArray, List.set_cons_zero, List.set_cons_succ, i64_w, i32_w]
      rfl
    refine pure_ (i := 14) (N := some 72) (v := ?_) (a' := ?_) #[true, true, true, false, true, true, true, true, true, false, true, true, true, true, true, false, false, false, false, false, false] rfl rfl (by kernel_rfl) (fun _ _ _ h => h) (Or.inl ⟨by rfl, ?_⟩) ?_ ?_
    rotate_left
    · intro w'
      go_simp
      with_reducible rfl
    rotate_left
    · simp only [Act.put, List.setIfInBounds_toArray, List.set_cons_zero, List.set_cons_succ, i64_w, i32_w]
      rfl
    refine take_ (i := 3) (N := some 61) (v := ?_) (a' := ?_) #[true, true, true, true, true, true, true, true, true, false, true, true, true, true, true, false, false, false, false, false, false] rfl rfl (by kernel_rfl) (fun _ _ _ h => h) (Or.inl ⟨by rfl, ?_⟩) hHeld ?_ ?_
    rotate_left
    · intro w' s0
      go_simp
      with_reducible rfl
    rotate_left
    · simp only [Act.put, List.setIfInBounds_toArray, List.set_cons_zero, List.set_cons_succ, i64_w, i32_w]
      rfl
    refine one_ (i := 9) (N := some 67) #[true, true, true, true, true, true, true, true, true, true, true, true, true, true, true, false, false, false, false, false, false] rfl rfl (by kernel_rfl) (by decide) (fun K hK => ?_)
    refine goesv_ (.tmp 62) rfl Try.func31 (by kernel_rfl) rfl #[.complex .f64 (fl n4) (fl x)] (by rfl) rfl rfl (by simp only [List.map_toArray, List.map_cons, List.map_nil]; rfl) ?_
    with_reducible refine (HT4.out _).mono ?_
    rintro e w7 ⟨rfl, hb7⟩
    refine ⟨_, rfl, ?_⟩
    have HP7 := Aside0.mk (HP6.out.on hb7)
    have HV7 := Aside0.mk (blk_below HV6.out hb7)
    have HR7 := Aside0.mk (Kd.R_below HR6.out hb7)
    have v7 := (blk_cell HV7.out 0).trans (rfl : _ = some va)
    clear hb7
    refine hK.out _ _ (v7) (fun hHeld => ?_)
    clear hK K
    refine norm_ (a' := ?_) ?_ ?_
    rotate_left
    · show Act.put _ (some 67) _ = _
      simp only [Act.put, List.setIfInBounds_toArray, List.set_cons_zero, List.set_cons_succ, i64_w, i32_w]
      rfl
    refine one_ (i := 15) (N := some 73) #[true, true, true, true, true, true, true, true, true, true, true, true, true, true, true, true, false, false, false, false, false] rfl rfl (by kernel_rfl) (by decide) (fun K hK => ?_)
    refine goesv_ (.tmp 68) rfl Try.func31 (by kernel_rfl) rfl #[.complex .f64 (fl n2) (fl w)] (by rfl) rfl rfl (by simp only [List.map_toArray, List.map_cons, List.map_nil]; rfl) ?_
    with_reducible refine (HT5.out _).mono ?_
    rintro e w8 ⟨rfl, hb8⟩
    refine ⟨_, rfl, ?_⟩
    have HP8 := Aside0.mk (HP7.out.on hb8)
    have HV8 := Aside0.mk (blk_below HV7.out hb8)
    have HR8 := Aside0.mk (Kd.R_below HR7.out hb8)
    have v8 := (blk_cell HV8.out 0).trans (rfl : _ = some va)
    clear hb8
    refine hK.out _ _ (v8) (fun hHeld => ?_)
    clear hK K
    refine norm_ (a' := ?_) ?_ ?_
    rotate_left
    · show Act.put _ (some 73) _ = _
      simp only [Act.put, List.setIfInBounds_toArray, List.set_cons_zero, List.set_cons_succ, i64_w, i32_w]
      rfl
    refine one_ (i := 16) (N := some 74) #[true, true, true, true, true, true, true, true, true, true, true, true, true, true, true, true, true, false, false, false, false] rfl rfl (by kernel_rfl) (by decide) (fun K hK => ?_)
    refine goes_ Try.func29 (by kernel_rfl) rfl #[.complex .f64 (fl x) (fl n4), .complex .f64 (fl w) (fl n2)] (by rfl) rfl rfl (by simp only [List.map_toArray, List.map_cons, List.map_nil]; rfl) ?_
    with_reducible refine (HBX.out _).mono ?_
    rintro e w9 ⟨rfl, hb9⟩
    refine ⟨_, rfl, ?_⟩
    have HP9 := Aside0.mk (HP8.out.on hb9)
    have HV9 := Aside0.mk (blk_below HV8.out hb9)
    have HR9 := Aside0.mk (Kd.R_below HR8.out hb9)
    have v9 := (blk_cell HV9.out 0).trans (rfl : _ = some va)
    clear hb9
    refine hK.out _ _ (v9) (fun hHeld => ?_)
    clear hK K
    refine norm_ (a' := ?_) ?_ ?_
    rotate_left
    · show Act.put _ (some 74) _ = _
      simp only [Act.put, List.setIfInBounds_toArray, List.set_cons_zero, List.set_cons_succ, i64_w, i32_w]
      rfl
    refine one_ (i := 17) (N := some 75) #[true, true, true, true, true, true, true, true, true, true, true, true, true, true, true, true, true, true, false, false, false] rfl rfl (by kernel_rfl) (by decide) (fun K hK => ?_)
    refine value_ (w1 := ?_) (v := ?_) (by rfl) rfl ?_ ?_
    rotate_left 2
    · go_simp
      constructor
      · rfl
      · rfl
    refine hK.out _ _ (((blk_cell (blk_alloc HV9.out _) 0).trans rfl)) (fun hHeld => ?_)
    clear hK K
    refine norm_ (a' := ?_) ?_ ?_
    rotate_left
    · show Act.put _ (some 75) _ = _
      simp only [Act.put, List.setIfInBounds_toArray, List.set_cons_zero, List.set_cons_succ, i64_w, i32_w]
      rfl
    refine one_ (i := 18) (N := some 76) #[true, true, true, true, true, true, true, true, true, true, true, true, true, true, true, true, true, true, true, false, false] rfl rfl (by kernel_rfl) (by decide) (fun K hK => ?_)
    refine Kd.R_append_step kB (w0 := w0) w0.heap.size (by rfl) (.tmp 61) (.tmp 75) 44 50 (.agg #[.int .i64 0, .int .i64 0, .int .i64 0, .int .i64 0]) 32 rfl Try.underlying44 info_box rfl (by decide) (by omega) va (ls ++ linesT a.plain (⟨x, y, w, n1⟩ : BX)) (⟨x, n4, w, n2⟩ : BX) [.int .i64 x, .int .i64 n4, .int .i64 w, .int .i64 n2] (fun k => k ≠ L ∧ k ≠ M) (fun _ => False) rfl rfl ?aP (fun _ hk => hk.elim) ?aF HR9.out HP9.out.below HP9.out.below.size ?aL ?_; (case aP => exact kB_mkM _ _ _ (⟨x, n4, w, n2⟩ : BX)); (case aF => exact fun k hk => by have h1 := blk_lt HV9.out; have h2 := HP9.out.mp.lt; omega); (case aL => have := HLN.out; omega)
    intro v10 w10 ho hb hg hat
    obtain ⟨A10, cp10, he⟩ := Kd.R_slice ho
    obtain ⟨n10, hn⟩ : ∃ n, n = (ls ++ linesT a.plain (⟨x, y, w, n1⟩ : BX) ++ [(⟨x, n4, w, n2⟩ : BX)]).length := ⟨_, rfl⟩
    rw [← hn] at he
    subst he
    clear hn
    have HO10 := Aside0.mk ho
    have HB10 := Aside0.mk hb
    have HV10 := Aside0.mk (blk_grown HV9.out hg (fun h => (HR9.out.1 L h.symm).1 rfl))
    have HM10 := Aside0.mk (HP9.out.mp.kept hg (fun h => (HR9.out.1 M h.symm).2 rfl))
    have v10' := (blk_cell HV10.out 0).trans (rfl : _ = some va)
    have f10 := blk_frozen HV10.out 0
    clear ho hb hg hat
    refine hK.out _ _ (v10') (fun hHeld => ?_)
    clear hK K
    refine norm_ (a' := ?_) ?_ ?_
    rotate_left
    · show Act.put _ (some 76) _ = _
      simp only [Act.put, List.setIfInBounds_toArray, List.set_cons_zero, List.set_cons_succ, i64_w, i32_w]
      rfl
    refine pure_ (i := 19) (N := some 77) (v := ?_) (a' := ?_) #[true, true, true, true, true, true, true, true, true, true, true, true, true, true, true, true, true, true, true, true, false] rfl rfl (by kernel_rfl) (fun _ _ _ h => h) (Or.inl ⟨by rfl, ?_⟩) ?_ ?_
    rotate_left
    · intro w'
      go_simp
      with_reducible rfl
    rotate_left
    · simp only [Act.put, List.setIfInBounds_toArray, List.set_cons_zero, List.set_cons_succ, i64_w, i32_w]
      rfl
    refine last_ (i := 20) (N := none) #[true, true, true, true, true, true, true, true, true, true, true, true, true, true, true, true, true, true, true, true, true] rfl rfl (by kernel_rfl) (by decide) (fun K hK => ?_)
    refine skip_ (w1 := ?_) (by rfl) rfl ?_ ?_
    rotate_left
    · go_simp
      rfl
    refine hK.out _ _ ?_
    clear hK K
    refine done_ (by kernel_rfl) ?_
    obtain ⟨w11, hw11⟩ : ∃ w11, w11 = w10.setCell ⟨L, 0, none⟩ (.slice A10 n10 cp10) := ⟨_, rfl⟩
    have HP11 := Aside0.mk (show PL w0 w11 M L (l ++ boxesT a.plain (⟨x, y, w, n1⟩ : BX)) (ls ++ linesT a.plain (⟨x, y, w, n1⟩ : BX) ++ [(⟨x, n4, w, n2⟩ : BX)]) from by
      rw [hw11]
      exact ⟨⟨_, blk_put HV10.out 0 _ rfl, Kd.R_far (p := ⟨L, 0, none⟩) HO10.out (fun k hk => hk.1) _⟩, HM10.out.move (Below.heap_setCell _ _ _ M (fun e => ne_ML HM10.out HV10.out e)), HB10.out.setCell HP9.out.hL _, HP9.out.hM, HP9.out.hL⟩)
    rw [← hw11]
    clear hw11 v0 v7 v8 v9 v10' f10
    go_upto_region 10 with fail
    have c3 := (blk_cell (blk_drew (HKB.out w11 HP11.out.below)) 3).trans (rfl : _ = some (Value.pointer (some ⟨rc, 0, none⟩)))
    refine start_ (n := 26) (S := fun w' => w'.cell? ⟨g, 3, none⟩ = some (.pointer (some ⟨rc, 0, none⟩))) (ds := [25]) #[false, false, false, false, false, false, false, false, false, false, false, false, false, false, false, false, false, false, false, false, false, false, false, false, false, false] (by kernel_rfl) rfl rfl (c3) (fun hHeld => ?_)
    refine pure_ (i := 0) (N := some 78) (v := ?_) (a' := ?_) #[true, false, false, false, false, false, false, false, false, false, false, false, false, false, false, false, false, false, false, false, false, false, false, false, false, false] rfl rfl (by kernel_rfl) (fun _ _ _ h => h) (Or.inl ⟨by rfl, ?_⟩) ?_ ?_
    rotate_left
    · intro w'
      go_simp
      with_reducible rfl
    rotate_left
    · simp only [Act.put, List.setIfInBounds_toArray, List.set_cons_zero, List.set_cons_succ, i64_w, i32_w]
      rfl
    refine pure_ (i := 1) (N := some 79) (v := ?_) (a' := ?_) #[true, true, false, false, false, false, false, false, false, false, false, false, false, false, false, false, false, false, false, false, false, false, false, false, false, false] rfl rfl (by kernel_rfl) (fun _ _ _ h => h) (Or.inl ⟨by rfl, ?_⟩) ?_ ?_
    rotate_left
    · intro w'
      go_simp
      with_reducible rfl
    rotate_left
    · simp only [Act.put, List.setIfInBounds_toArray, List.set_cons_zero, List.set_cons_succ, i64_w, i32_w]
      rfl
    refine pure_ (i := 2) (N := some 80) (v := ?_) (a' := ?_) #[true, true, true, false, false, false, false, false, false, false, false, false, false, false, false, false, false, false, false, false, false, false, false, false, false, false] rfl rfl (by kernel_rfl) (fun _ _ _ h => h) (Or.inl ⟨by rfl, ?_⟩) ?_ ?_
    rotate_left
    · intro w'
      go_simp
      with_reducible rfl
    rotate_left
    · simp only [Act.put, List.setIfInBounds_toArray, List.set_cons_zero, List.set_cons_succ, i64_w, i32_w]
      rfl
    refine pure_ (i := 4) (N := some 82) (v := ?_) (a' := ?_) #[true, true, true, false, true, false, false, false, false, false, false, false, false, false, false, false, false, false, false, false, false, false, false, false, false, false] rfl rfl (by kernel_rfl) (fun _ _ _ h => h) (Or.inl ⟨by rfl, ?_⟩) ?_ ?_
    rotate_left
    · intro w'
      go_simp
      with_reducible rfl
    rotate_left
    · simp only [Act.put, List.setIfInBounds_toArray, List.set_cons_zero, List.set_cons_succ, i64_w, i32_w]
      rfl
    refine pure_ (i := 5) (N := some 83) (v := ?_) (a' := ?_) #[true, true, true, false, true, true, false, false, false, false, false, false, false, false, false, false, false, false, false, false, false, false, false, false, false, false] rfl rfl (by kernel_rfl) (fun _ _ _ h => h) (Or.inl ⟨by rfl, ?_⟩) ?_ ?_
    rotate_left
    · intro w'
      go_simp
      with_reducible rfl
    rotate_left
    · simp only [Act.put, List.setIfInBounds_toArray, List.set_cons_zero, List.set_cons_succ, i64_w, i32_w]
      rfl
    refine pure_ (i := 6) (N := some 84) (v := ?_) (a' := ?_) #[true, true, true, false, true, true, true, false, false, false, false, false, false, false, false, false, false, false, false, false, false, false, false, false, false, false] rfl rfl (by kernel_rfl) (fun _ _ _ h => h) (Or.inl ⟨by rfl, ?_⟩) ?_ ?_
    rotate_left
    · intro w'
      go_simp
      with_reducible rfl
    rotate_left
    · simp only [Act.put, List.setIfInBounds_toArray, List.set_cons_zero, List.set_cons_succ, i64_w, i32_w]
      rfl
    refine pure_ (i := 7) (N := some 85) (v := ?_) (a' := ?_) #[true, true, true, false, true, true, true, true, false, false, false, false, false, false, false, false, false, false, false, false, false, false, false, false, false, false] rfl rfl (by kernel_rfl) (fun _ _ _ h => h) (Or.inl ⟨by rfl, ?_⟩) ?_ ?_
    rotate_left
    · intro w'
      go_simp
      with_reducible rfl
    rotate_left
    · simp only [Act.put, List.setIfInBounds_toArray, List.set_cons_zero, List.set_cons_succ, i64_w, i32_w]
      rfl
    refine pure_ (i := 8) (N := some 86) (v := ?_) (a' := ?_) #[true, true, true, false, true, true, true, true, true, false, false, false, false, false, false, false, false, false, false, false, false, false, false, false, false, false] rfl rfl (by kernel_rfl) (fun _ _ _ h => h) (Or.inl ⟨by rfl, ?_⟩) ?_ ?_
    rotate_left
    · intro w'
      go_simp
      with_reducible rfl
    rotate_left
    · simp only [Act.put, List.setIfInBounds_toArray, List.set_cons_zero, List.set_cons_succ, i64_w, i32_w]
      rfl
    refine pure_ (i := 9) (N := some 87) (v := ?_) (a' := ?_) #[true, true, true, false, true, true, true, true, true, true, false, false, false, false, false, false, false, false, false, false, false, false, false, false, false, false] rfl rfl (by kernel_rfl) (fun _ _ _ h => h) (Or.inl ⟨by rfl, ?_⟩) ?_ ?_
    rotate_left
    · intro w'
      go_simp
      with_reducible rfl
    rotate_left
    · simp only [Act.put, List.setIfInBounds_toArray, List.set_cons_zero, List.set_cons_succ, i64_w, i32_w]
      rfl
    refine pure_ (i := 10) (N := some 88) (v := ?_) (a' := ?_) #[true, true, true, false, true, true, true, true, true, true, true, false, false, false, false, false, false, false, false, false, false, false, false, false, false, false] rfl rfl (by kernel_rfl) (fun _ _ _ h => h) (Or.inl ⟨by rfl, ?_⟩) ?_ ?_
    rotate_left
    · intro w'
      go_simp
      with_reducible rfl
    rotate_left
    · simp only [Act.put, List.setIfInBounds_toArray, List.set_cons_zero, List.set_cons_succ, i64_w, i32_w]
      rfl
    refine pure_ (i := 12) (N := some 90) (v := ?_) (a' := ?_) #[true, true, true, false, true, true, true, true, true, true, true, false, true, false, false, false, false, false, false, false, false, false, false, false, false, false] rfl rfl (by kernel_rfl) (fun _ _ _ h => h) (Or.inl ⟨by rfl, ?_⟩) ?_ ?_
    rotate_left
    · intro w'
      go_simp
      with_reducible rfl
    rotate_left
    · simp only [Act.put, List.setIfInBounds_toArray, List.set_cons_zero, List.set_cons_succ, i64_w, i32_w]
      rfl
    refine pure_ (i := 13) (N := some 91) (v := ?_) (a' := ?_) #[true, true, true, false, true, true, true, true, true, true, true, false, true, true, false, false, false, false, false, false, false, false, false, false, false, false] rfl rfl (by kernel_rfl) (fun _ _ _ h => h) (Or.inl ⟨by rfl, ?_⟩) ?_ ?_
    rotate_left
    · intro w'
      go_simp
      with_reducible rfl
    rotate_left
    · simp only [Act.put, List.setIfInBounds_toArray, List.set_cons_zero, List.set_cons_succ, i64_w, i32_w]
      rfl
    refine pure_ (i := 14) (N := some 92) (v := ?_) (a' := ?_) #[true, true, true, false, true, true, true, true, true, true, true, false, true, true, true, false, false, false, false, false, false, false, false, false, false, false] rfl rfl (by kernel_rfl) (fun _ _ _ h => h) (Or.inl ⟨by rfl, ?_⟩) ?_ ?_
    rotate_left
    · intro w'
      go_simp
      with_reducible rfl
    rotate_left
    · simp only [Act.put, List.setIfInBounds_toArray, List.set_cons_zero, List.set_cons_succ, i64_w, i32_w]
      rfl
    refine pure_ (i := 15) (N := some 93) (v := ?_) (a' := ?_) #[true, true, true, false, true, true, true, true, true, true, true, false, true, true, true, true, false, false, false, false, false, false, false, false, false, false] rfl rfl (by kernel_rfl) (fun _ _ _ h => h) (Or.inl ⟨by rfl, ?_⟩) ?_ ?_
    rotate_left
    · intro w'
      go_simp
      with_reducible rfl
    rotate_left
    · simp only [Act.put, List.setIfInBounds_toArray, List.set_cons_zero, List.set_cons_succ, i64_w, i32_w]
      rfl
    refine pure_ (i := 16) (N := some 94) (v := ?_) (a' := ?_) #[true, true, true, false, true, true, true, true, true, true, true, false, true, true, true, true, true, false, false, false, false, false, false, false, false, false] rfl rfl (by kernel_rfl) (fun _ _ _ h => h) (Or.inl ⟨by rfl, ?_⟩) ?_ ?_
    rotate_left
    · intro w'
      go_simp
      with_reducible rfl
    rotate_left
    · simp only [Act.put, List.setIfInBounds_toArray, List.set_cons_zero, List.set_cons_succ, i64_w, i32_w]
      rfl
    refine pure_ (i := 17) (N := some 95) (v := ?_) (a' := ?_) #[true, true, true, false, true, true, true, true, true, true, true, false, true, true, true, true, true, true, false, false, false, false, false, false, false, false] rfl rfl (by kernel_rfl) (fun _ _ _ h => h) (Or.inl ⟨by rfl, ?_⟩) ?_ ?_
    rotate_left
    · intro w'
      go_simp
      with_reducible rfl
    rotate_left
    · simp only [Act.put, List.setIfInBounds_toArray, List.set_cons_zero, List.set_cons_succ, i64_w, i32_w]
      rfl
    refine pure_ (i := 18) (N := some 96) (v := ?_) (a' := ?_) #[true, true, true, false, true, true, true, true, true, true, true, false, true, true, true, true, true, true, true, false, false, false, false, false, false, false] rfl rfl (by kernel_rfl) (fun _ _ _ h => h) (Or.inl ⟨by rfl, ?_⟩) ?_ ?_
    rotate_left
    · intro w'
      go_simp
      with_reducible rfl
    rotate_left
    · simp only [Act.put, List.setIfInBounds_toArray, List.set_cons_zero, List.set_cons_succ, i64_w, i32_w]
      rfl
    refine pure_ (i := 19) (N := some 97) (v := ?_) (a' := ?_) #[true, true, true, false, true, true, true, true, true, true, true, false, true, true, true, true, true, true, true, true, false, false, false, false, false, false] rfl rfl (by kernel_rfl) (fun _ _ _ h => h) (Or.inl ⟨by rfl, ?_⟩) ?_ ?_
    rotate_left
    · intro w'
      go_simp
      with_reducible rfl
    rotate_left
    · simp only [Act.put, List.setIfInBounds_toArray, List.set_cons_zero, List.set_cons_succ, i64_w, i32_w]
      rfl
    refine pure_ (i := 20) (N := some 98) (v := ?_) (a' := ?_) #[true, true, true, false, true, true, true, true, true, true, true, false, true, true, true, true, true, true, true, true, true, false, false, false, false, false] rfl rfl (by kernel_rfl) (fun _ _ _ h => h) (Or.inl ⟨by rfl, ?_⟩) ?_ ?_
    rotate_left
    · intro w'
      go_simp
      with_reducible rfl
    rotate_left
    · simp only [Act.put, List.setIfInBounds_toArray, List.set_cons_zero, List.set_cons_succ, i64_w, i32_w]
      rfl
    refine pure_ (i := 21) (N := some 99) (v := ?_) (a' := ?_) #[true, true, true, false, true, true, true, true, true, true, true, false, true, true, true, true, true, true, true, true, true, true, false, false, false, false] rfl rfl (by kernel_rfl) (fun _ _ _ h => h) (Or.inl ⟨by rfl, ?_⟩) ?_ ?_
    rotate_left
    · intro w'
      go_simp
      with_reducible rfl
    rotate_left
    · simp only [Act.put, List.setIfInBounds_toArray, List.set_cons_zero, List.set_cons_succ, i64_w, i32_w]
      rfl
    refine pure_ (i := 23) (N := some 101) (v := ?_) (a' := ?_) #[true, true, true, false, true, true, true, true, true, true, true, false, true, true, true, true, true, true, true, true, true, true, false, true, false, false] rfl rfl (by kernel_rfl) (fun _ _ _ h => h) (Or.inl ⟨by rfl, ?_⟩) ?_ ?_
    rotate_left
    · intro w'
      go_simp
      with_reducible rfl
    rotate_left
    · simp only [Act.put, List.setIfInBounds_toArray, List.set_cons_zero, List.set_cons_succ, i64_w, i32_w]
      rfl
    refine pure_ (i := 24) (N := some 102) (v := ?_) (a' := ?_) #[true, true, true, false, true, true, true, true, true, true, true, false, true, true, true, true, true, true, true, true, true, true, false, true, true, false] rfl rfl (by kernel_rfl) (fun _ _ _ h => h) (Or.inl ⟨by rfl, ?_⟩) ?_ ?_
    rotate_left
    · intro w'
      go_simp
      with_reducible rfl
    rotate_left
    · simp only [Act.put, List.setIfInBounds_toArray, List.set_cons_zero, List.set_cons_succ, i64_w, i32_w]
      rfl
    refine take_ (i := 3) (N := some 81) (v := ?_) (a' := ?_) #[true, true, true, true, true, true, true, true, true, true, true, false, true, true, true, true, true, true, true, true, true, true, false, true, true, false] rfl rfl (by kernel_rfl) (fun _ _ _ h => h) (Or.inl ⟨by rfl, ?_⟩) hHeld ?_ ?_
    rotate_left
    · intro w' s0
      go_simp
      with_reducible rfl
    rotate_left
    · simp only [Act.put, List.setIfInBounds_toArray, List.set_cons_zero, List.set_cons_succ, i64_w, i32_w]
      rfl
    refine one_ (i := 11) (N := some 89) #[true, true, true, true, true, true, true, true, true, true, true, true, true, true, true, true, true, true, true, true, true, true, false, true, true, false] rfl rfl (by kernel_rfl) (by decide) (fun K hK => ?_)
    refine goesv_ (.tmp 82) rfl Try.func31 (by kernel_rfl) rfl #[.complex .f64 (fl n5) (fl x)] (by rfl) rfl rfl (by simp only [List.map_toArray, List.map_cons, List.map_nil]; rfl) ?_
    with_reducible refine (HT6.out _).mono ?_
    rintro e w12 ⟨rfl, hb12⟩
    refine ⟨_, rfl, ?_⟩
    have HP12 := Aside0.mk ((HP11.out.on (below_drew (Below.refl _ _))).on hb12)
    clear hb12
    have d12 := (blk_cell (HKB.out w12 HP12.out.below) 3).trans (rfl : _ = some (Value.pointer (some ⟨rc, 0, none⟩)))
    refine hK.out _ _ (d12) (fun hHeld => ?_)
    clear hK K
    refine norm_ (a' := ?_) ?_ ?_
    rotate_left
    · show Act.put _ (some 89) _ = _
      simp only [Act.put, List.setIfInBounds_toArray, List.set_cons_zero, List.set_cons_succ, i64_w, i32_w]
      rfl
    refine one_ (i := 22) (N := some 100) #[true, true, true, true, true, true, true, true, true, true, true, true, true, true, true, true, true, true, true, true, true, true, true, true, true, false] rfl rfl (by kernel_rfl) (by decide) (fun K hK => ?_)
    refine goesv_ (.tmp 90) rfl Try.func31 (by kernel_rfl) rfl #[.complex .f64 (fl n7) (fl w)] (by rfl) rfl rfl (by simp only [List.map_toArray, List.map_cons, List.map_nil]; rfl) ?_
    with_reducible refine (HT7.out _).mono ?_
    rintro e w13 ⟨rfl, hb13⟩
    refine ⟨_, rfl, ?_⟩
    have HP13 := Aside0.mk (HP12.out.on hb13)
    clear hb13
    have d13 := (blk_cell (HKB.out w13 HP13.out.below) 3).trans (rfl : _ = some (Value.pointer (some ⟨rc, 0, none⟩)))
    refine hK.out _ _ (d13) (fun hHeld => ?_)
    clear hK K
    refine norm_ (a' := ?_) ?_ ?_
    rotate_left
    · show Act.put _ (some 100) _ = _
      simp only [Act.put, List.setIfInBounds_toArray, List.set_cons_zero, List.set_cons_succ, i64_w, i32_w]
      rfl
    refine last_ (i := 25) (N := some 103) #[true, true, true, true, true, true, true, true, true, true, true, true, true, true, true, true, true, true, true, true, true, true, true, true, true, true] rfl rfl (by kernel_rfl) (by decide) (fun K hK => ?_)
    refine goes_ Try.func26 (by kernel_rfl) rfl #[.pointer (some ⟨rc, 0, none⟩), .complex .f64 (fl x) (fl n5), .complex .f64 (fl w) (fl n7), .map (some M), .pointer (some ⟨L, 0, none⟩)] (by rfl) rfl rfl (by simp only [List.map_toArray, List.map_cons, List.map_nil]; rfl) ?_
    with_reducible refine (HC.out _ HP13.out).mono ?_
    rintro e w14 ⟨rfl, hp14⟩
    refine ⟨_, rfl, ?_⟩
    have HP14 := Aside0.mk hp14
    clear hp14
    refine hK.out _ _ ?_
    clear hK K
    refine norm_ (a' := ?_) ?_ ?_
    rotate_left
    · show Act.put _ (some 103) _ = _
      simp only [Act.put, List.setIfInBounds_toArray, List.set_cons_zero, List.set_cons_succ, i64_w, i32_w]
      rfl
    refine done_ (by kernel_rfl) ?_
    go_wp2_with fail
    refine ⟨rfl, .tuple #[], ?_, rfl, ?_⟩
    · first
        | rfl
        | simp [results, Try.results26, go_sem]
    · have hq := HP14.out
      rw [List.append_assoc (ls ++ linesT a.plain (⟨x, y, w, n1⟩ : BX)), List.append_assoc ls, List.append_assoc l] at hq
      exact hq
end
end Go.Proofs.Ytnidcnmeonjjbaa.LayPlace
