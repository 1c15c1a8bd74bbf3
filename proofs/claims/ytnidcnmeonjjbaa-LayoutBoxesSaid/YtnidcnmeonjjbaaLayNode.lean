/- A layout's parts in memory; node.each with the two function values that layout hands it, Panes and find, as contracts. -/
import Derived.Test.YtnidcnmeonjjbaaLayPure
import Derived.Test.YtnidcnmeonjjbaaPlain
import Derived.Test.YtnidcnmeonjjbaaMine
namespace Go.Proofs.Ytnidcnmeonjjbaa.LayNode
open Go.RowKit Go.Proofs.Ytnidcnmeonjjbaa.Kit Go.Proofs.Ytnidcnmeonjjbaa.Plain Go.Proofs.Ytnidcnmeonjjbaa.Mine Go.Proofs.Ytnidcnmeonjjbaa.LayPure Go.Proofs.YtnidcnmeonjjbaaW.PrintWords Go.Proofs.YtnidcnmeonjjbaaW.PrintLast Go.Proofs.YtnidcnmeonjjbaaW.PrintMore
set_option linter.unusedVariables false
set_option linter.unusedSimpArgs false
/-- A part's block. -/
def NB (W : World) (g : Nat) (p : Int) (f : Bool) (a b : Option Addr) : Prop := W.heap[g]? = some (.cells #[.int .i64 p, .bool f, .pointer a, .pointer b] 63 (0, 0))
/-- A tree lies in memory. -/
def Lies (W : World) : BT → Prop
  | .leaf g p => NB W g p false none none
  | .part g f a b => NB W g 0 f (some ⟨a.root, 0, none⟩) (some ⟨b.root, 0, none⟩) ∧ Lies W a ∧ Lies W b
/-- A layout's block. -/
def LB (W : World) (h r : Nat) : Prop := W.heap[h]? = some (.cells #[.pointer (some ⟨r, 0, none⟩)] 65 (0, 0))
theorem Lies.move {W W' : World} : ∀ {t : BT}, Lies W t → (∀ g ∈ t.blocks, W'.heap[g]? = W.heap[g]?) → Lies W' t
  | .leaf g p, h, hm => by
    have := hm g List.mem_cons_self
    exact this.trans h
  | .part g f a b, h, hm => by
    have := hm g List.mem_cons_self
    refine ⟨this.trans h.1, h.2.1.move (fun k hk => hm k ?_), h.2.2.move (fun k hk => hm k ?_)⟩
    · exact List.mem_cons_of_mem _ (List.mem_append_left _ hk)
    · exact List.mem_cons_of_mem _ (List.mem_append_right _ hk)
theorem Lies.lt {W : World} : ∀ {t : BT}, Lies W t → ∀ g ∈ t.blocks, g < W.heap.size
  | .leaf g p, h, k, hk => by
    rw [List.mem_singleton.1 hk]; exact blk_lt h
  | .part g f a b, h, k, hk => by
    rcases List.mem_cons.1 hk with rfl | hk
    · exact blk_lt h.1
    · rcases List.mem_append.1 hk with hk | hk
      · exact h.2.1.lt k hk
      · exact h.2.2.lt k hk
theorem Lies.below {W W' : World} {t : BT} (h : Lies W t) (hb : Below W.heap.size W W') : Lies W' t := h.move (fun g hg => hb.block g (h.lt g hg))
theorem Lies.rest {W0 W W' : World} {t : BT} (h : Lies W0 t) (hb : Below W0.heap.size W0 W) : Lies W t := h.move (fun g hg => hb.block g (h.lt g hg))
/-- The last of a number. -/
def lastOf : List (Nat × Int) → Int → Option Nat
  | [], _ => none
  | x :: l, q => (lastOf l q).or (if x.2 = q then some x.1 else none)
theorem lastOf_append (a b : List (Nat × Int)) (q : Int) : lastOf (a ++ b) q = (lastOf b q).or (lastOf a q) := by
  induction a with
  | nil => show lastOf b q = (lastOf b q).or none; rw [Option.or_none]
  | cons x a ih => show (lastOf (a ++ b) q).or _ = _; rw [ih, Option.or_assoc]; rfl
theorem lastOf_snoc (l : List (Nat × Int)) (g : Nat) (p q : Int) : lastOf (l ++ [(g, p)]) q = if p = q then some g else lastOf l q := by
  rw [lastOf_append]
  show (Option.or none (if p = q then some g else none)).or (lastOf l q) = _
  by_cases e : p = q
  · rw [if_pos e, if_pos e]; rfl
  · rw [if_neg e, if_neg e]; rfl
theorem lastOf_lv (q : Int) : ∀ t : BT, lastOf t.lv q = t.find q
  | .leaf g p => by
    show Option.or none (if p = q then some g else none) = BT.find (.leaf g p) q
    rw [BT.find]; rfl
  | .part g f a b => by
    show lastOf (a.lv ++ b.lv) q = BT.find (.part g f a b) q
    rw [lastOf_append, lastOf_lv q a, lastOf_lv q b, BT.find]
/-! each, over a function value of one captured variable, and of two. -/
section
set_option maxHeartbeats 800000
set_option maxRecDepth 100000
theorem eachP (v1 : Value) (w0 : World) (L : List (Nat × Int)) (I : World → List (Nat × Int) → Prop) (hb : ∀ W l, I W l → Below w0.heap.size w0 W)
    (hc : ∀ W g p l r, L = l ++ (g, p) :: r → NB W g p false none none → I W l → Calls Try.prog 25 #[.pointer (some ⟨g, 0, none⟩), v1] W fun e w' => e = .returned (.tuple #[]) ∧ I w' (l ++ [(g, p)])) :
    ∀ (t : BT), Lies w0 t → ∀ W l r, L = l ++ t.lv ++ r → I W l → Calls Try.prog 24 #[.pointer (some ⟨t.root, 0, none⟩), .func (.func 25) #[] #[v1]] W fun e w' => e = .returned (.tuple #[]) ∧ I w' (l ++ t.lv)
  | .leaf g p, ht, W, l, r, hL, hi => by
    have hk : NB W g p false none none := (hb W l hi).block g (blk_lt ht) |>.trans ht
    have c2 : W.cell? ⟨g, 2, none⟩ = some (.pointer none) := (blk_cell hk 2).trans rfl
    have HC := Aside0.mk (hc W g p l r (by rw [hL]; simp [BT.lv]) hk hi)
    have hu := Try.underlying63
    rw [show (BT.leaf g p).root = g from rfl, show (BT.leaf g p).lv = [(g, p)] from rfl]
    clear hk hc hb ht hi hL
    go_enter Try.func24, Try.ntmps24
    go_wp2_with fail
    refine HC.out.mono ?_
    rintro e w3 ⟨rfl, hi⟩
    have HI := Aside0.mk hi
    clear hi
    go_wp2_with fail
    go_returns
    exact ⟨rfl, HI.out⟩
  | .part g f a b, ht, W, l, r, hL, hi => by
    have hk : NB W g 0 f (some ⟨a.root, 0, none⟩) (some ⟨b.root, 0, none⟩) := (hb W l hi).block g (blk_lt ht.1) |>.trans ht.1
    have c2 : W.cell? ⟨g, 2, none⟩ = some (.pointer (some ⟨a.root, 0, none⟩)) := (blk_cell hk 2).trans rfl
    have HA := Aside0.mk (eachP v1 w0 L I hb hc a ht.2.1 W l (b.lv ++ r) (by rw [hL]; simp [BT.lv]) hi)
    have HBB := Aside0.mk (fun W2 h => eachP v1 w0 L I hb hc b ht.2.2 W2 (l ++ a.lv) r (by rw [hL]; simp [BT.lv]) h)
    have HK := Aside0.mk (fun W2 h => (((hb W2 (l ++ a.lv) h).block g (blk_lt ht.1)).trans ht.1 : NB W2 g 0 f (some ⟨a.root, 0, none⟩) (some ⟨b.root, 0, none⟩)))
    have hu := Try.underlying63
    rw [show (BT.part g f a b).root = g from rfl, show (BT.part g f a b).lv = a.lv ++ b.lv from rfl]
    obtain ⟨ra, hra⟩ : ∃ ra, ra = a.root := ⟨_, rfl⟩
    obtain ⟨rb, hrb⟩ : ∃ rb, rb = b.root := ⟨_, rfl⟩
    rw [← hra] at c2 HA HK
    rw [← hrb] at HBB HK
    clear hk hc hb ht hi hL hra hrb
    go_enter Try.func24, Try.ntmps24
    go_wp2_with fail
    refine HA.out.mono ?_
    rintro e w3 ⟨rfl, hi⟩
    have HI := Aside0.mk hi
    have c3 : w3.cell? ⟨g, 3, none⟩ = some (.pointer (some ⟨rb, 0, none⟩)) := (blk_cell (HK.out w3 hi) 3).trans rfl
    clear hi c2
    go_wp2_with fail
    refine (HBB.out w3 HI.out).mono ?_
    rintro e w4 ⟨rfl, hi⟩
    have HI4 := Aside0.mk hi
    clear hi
    go_wp2_with fail
    refine ⟨rfl, .tuple #[], ?_, rfl, by rw [← List.append_assoc]; exact HI4.out⟩
    first
      | rfl
      | simp [results, Try.results24, go_sem]
theorem eachF (v1 v2 : Value) (w0 : World) (L : List (Nat × Int)) (I : World → List (Nat × Int) → Prop) (hb : ∀ W l, I W l → Below w0.heap.size w0 W)
    (hc : ∀ W g p l r, L = l ++ (g, p) :: r → NB W g p false none none → I W l → Calls Try.prog 33 #[.pointer (some ⟨g, 0, none⟩), v1, v2] W fun e w' => e = .returned (.tuple #[]) ∧ I w' (l ++ [(g, p)])) :
    ∀ (t : BT), Lies w0 t → ∀ W l r, L = l ++ t.lv ++ r → I W l → Calls Try.prog 24 #[.pointer (some ⟨t.root, 0, none⟩), .func (.func 33) #[] #[v1, v2]] W fun e w' => e = .returned (.tuple #[]) ∧ I w' (l ++ t.lv)
  | .leaf g p, ht, W, l, r, hL, hi => by
    have hk : NB W g p false none none := (hb W l hi).block g (blk_lt ht) |>.trans ht
    have c2 : W.cell? ⟨g, 2, none⟩ = some (.pointer none) := (blk_cell hk 2).trans rfl
    have HC := Aside0.mk (hc W g p l r (by rw [hL]; simp [BT.lv]) hk hi)
    have hu := Try.underlying63
    rw [show (BT.leaf g p).root = g from rfl, show (BT.leaf g p).lv = [(g, p)] from rfl]
    clear hk hc hb ht hi hL
    go_enter Try.func24, Try.ntmps24
    go_wp2_with fail
    refine HC.out.mono ?_
    rintro e w3 ⟨rfl, hi⟩
    have HI := Aside0.mk hi
    clear hi
    go_wp2_with fail
    go_returns
    exact ⟨rfl, HI.out⟩
  | .part g f a b, ht, W, l, r, hL, hi => by
    have hk : NB W g 0 f (some ⟨a.root, 0, none⟩) (some ⟨b.root, 0, none⟩) := (hb W l hi).block g (blk_lt ht.1) |>.trans ht.1
    have c2 : W.cell? ⟨g, 2, none⟩ = some (.pointer (some ⟨a.root, 0, none⟩)) := (blk_cell hk 2).trans rfl
    have HA := Aside0.mk (eachF v1 v2 w0 L I hb hc a ht.2.1 W l (b.lv ++ r) (by rw [hL]; simp [BT.lv]) hi)
    have HBB := Aside0.mk (fun W2 h => eachF v1 v2 w0 L I hb hc b ht.2.2 W2 (l ++ a.lv) r (by rw [hL]; simp [BT.lv]) h)
    have HK := Aside0.mk (fun W2 h => (((hb W2 (l ++ a.lv) h).block g (blk_lt ht.1)).trans ht.1 : NB W2 g 0 f (some ⟨a.root, 0, none⟩) (some ⟨b.root, 0, none⟩)))
    have hu := Try.underlying63
    rw [show (BT.part g f a b).root = g from rfl, show (BT.part g f a b).lv = a.lv ++ b.lv from rfl]
    obtain ⟨ra, hra⟩ : ∃ ra, ra = a.root := ⟨_, rfl⟩
    obtain ⟨rb, hrb⟩ : ∃ rb, rb = b.root := ⟨_, rfl⟩
    rw [← hra] at c2 HA HK
    rw [← hrb] at HBB HK
    clear hk hc hb ht hi hL hra hrb
    go_enter Try.func24, Try.ntmps24
    go_wp2_with fail
    refine HA.out.mono ?_
    rintro e w3 ⟨rfl, hi⟩
    have HI := Aside0.mk hi
    have c3 : w3.cell? ⟨g, 3, none⟩ = some (.pointer (some ⟨rb, 0, none⟩)) := (blk_cell (HK.out w3 hi) 3).trans rfl
    clear hi c2
    go_wp2_with fail
    refine (HBB.out w3 HI.out).mono ?_
    rintro e w4 ⟨rfl, hi⟩
    have HI4 := Aside0.mk hi
    clear hi
    go_wp2_with fail
    refine ⟨rfl, .tuple #[], ?_, rfl, by rw [← List.append_assoc]; exact HI4.out⟩
    first
      | rfl
      | simp [results, Try.results24, go_sem]

theorem closP (w0 W : World) (base g B : Nat) (p : Int) (v : Value) (l : List Int) (hk : NB W g p false none none) (hB : W.heap[B]? = some (.cells #[v] 35 (0, 0))) (hR : Kd.R (Kd.int .i64) 3 W base (fun k => k ≠ B) v l) (hl : l.length < 1000000) (hbB : base ≤ B) (hb : Below base w0 W) (hbs : base ≤ W.heap.size) :
    Calls Try.prog 25 #[.pointer (some ⟨g, 0, none⟩), .pointer (some ⟨B, 0, none⟩)] W fun e w' => e = .returned (.tuple #[]) ∧ ∃ v', w'.heap[B]? = some (.cells #[v'] 35 (0, 0)) ∧ Kd.R (Kd.int .i64) 3 w' base (fun k => k ≠ B) v' (l ++ [p]) ∧ Below base w0 w' := by
  have hu := Try.underlying63
  have c0 : W.drew.cell? ⟨g, 0, none⟩ = some (.int .i64 p) := (blk_cell (blk_drew hk) 0).trans rfl
  have b0 : W.drew.cell? ⟨B, 0, none⟩ = some v := (blk_cell (blk_drew hB) 0).trans rfl
  have HK := Aside0.mk hk
  have HB := Aside0.mk hB
  have HR := Aside0.mk hR
  have HL := Aside0.mk hl
  have HBB := Aside0.mk hb
  have HBS := Aside0.mk hbs
  have HBL := Aside0.mk hbB
  have HLT := Aside0.mk (blk_lt hB)
  have HNG := Aside0.mk (show some g ≠ v.ownBlock from Kd.R_ne hR hk (by decide))
  clear hk hB hR hl hb hbs hbB
  go_enter Try.func25, Try.ntmps25
  refine start_ (n := 8) (S := fun w' => w'.cell? ⟨B, 0, none⟩ = some v ∧ w'.cell? ⟨g, 0, none⟩ = some (.int .i64 p)) (ds := [7]) #[false, false, false, false, false, false, false, false] (by kernel_rfl) rfl rfl ⟨b0, c0⟩ (fun hHeld => ?_)
  refine pure_ (i := 1) (N := some 4) (v := ?_) (a' := ?_) #[false, true, false, false, false, false, false, false] rfl rfl (by kernel_rfl) (fun _ _ _ h => h) (Or.inl ⟨by rfl, ?_⟩) ?_ ?_
  rotate_left
  · intro w'
    go_simp
    with_reducible rfl
  rotate_left
  · simp only [Act.put, List.setIfInBounds_toArray, List.set_cons_zero, List.set_cons_succ, i64_w, i32_w]
    rfl
  refine pure_ (i := 2) (N := some 5) (v := ?_) (a' := ?_) #[false, true, true, false, false, false, false, false] rfl rfl (by kernel_rfl) (fun _ _ _ h => h) (Or.inl ⟨by rfl, ?_⟩) ?_ ?_
  rotate_left
  · intro w'
    go_simp
    with_reducible rfl
  rotate_left
  · simp only [Act.put, List.setIfInBounds_toArray, List.set_cons_zero, List.set_cons_succ, i64_w, i32_w]
    rfl
  refine pure_ (i := 3) (N := some 6) (v := ?_) (a' := ?_) #[false, true, true, true, false, false, false, false] rfl rfl (by kernel_rfl) (fun _ _ _ h => h) (Or.inl ⟨by rfl, ?_⟩) ?_ ?_
  rotate_left
  · intro w'
    go_simp
    with_reducible rfl
  rotate_left
  · simp only [Act.put, List.setIfInBounds_toArray, List.set_cons_zero, List.set_cons_succ, i64_w, i32_w]
    rfl
  refine take_ (i := 0) (N := some 3) (v := ?_) (a' := ?_) #[true, true, true, true, false, false, false, false] rfl rfl (by kernel_rfl) (fun _ _ _ h => h) (Or.inl ⟨by rfl, ?_⟩) hHeld ?_ ?_
  rotate_left
  · rintro w' ⟨s0, s1⟩
    go_simp
    with_reducible rfl
  rotate_left
  · simp only [Act.put, List.setIfInBounds_toArray, List.set_cons_zero, List.set_cons_succ, i64_w, i32_w]
    rfl
  refine take_ (i := 4) (N := some 7) (v := ?_) (a' := ?_) #[true, true, true, true, true, false, false, false] rfl rfl (by kernel_rfl) (fun _ _ _ h => h) (Or.inl ⟨by rfl, ?_⟩) hHeld ?_ ?_
  rotate_left
  · rintro w' ⟨s0, s1⟩
    go_simp
    with_reducible rfl
  rotate_left
  · simp only [Act.put, List.setIfInBounds_toArray, List.set_cons_zero, List.set_cons_succ, i64_w, i32_w]
    rfl
  refine one_ (i := 5) (N := some 8) #[true, true, true, true, true, true, false, false] rfl rfl (by kernel_rfl) (by decide) (fun K hK => ?_)
  refine value_ (w1 := ?_) (v := ?_) (by rfl) rfl ?_ ?_
  rotate_left 2
  · go_simp
    constructor
    · rfl
    · rfl
  refine hK.out _ _ ⟨((blk_cell (blk_alloc (blk_drew HB.out) _) 0).trans rfl), ((blk_cell (blk_alloc (blk_drew HK.out) _) 0).trans rfl)⟩ (fun hHeld => ?_)
  clear hK K
  refine norm_ (a' := ?_) ?_ ?_
  rotate_left
  · show Act.put _ (some 8) _ = _
    simp only [Act.put, List.setIfInBounds_toArray, List.set_cons_zero, List.set_cons_succ, i64_w, i32_w]
    rfl
  refine one_ (i := 6) (N := some 9) #[true, true, true, true, true, true, true, false] rfl rfl (by kernel_rfl) (by decide) (fun K hK => ?_)
  refine Kd.R_append_step (Kd.int .i64) (w0 := w0) base (by rfl) (.tmp 3) (.tmp 8) 35 3 (.int .i64 0) 8 rfl Try.underlying35 info_int rfl (by decide) (by omega) v l p [.int .i64 p] (fun k => k ≠ B) (fun _ => False) rfl rfl ?aP (fun _ hk => hk.elim) ?aF (Kd.R_drew HR.out) (below_drew HBB.out) HBS.out ?aL ?_; (case aP => rfl); (case aF => exact fun k hk => by have := HLT.out; simp at hk; omega); (case aL => have := HL.out; omega)
  intro v8 w8 ho hb hg hat
  obtain ⟨A8, cp8, rfl⟩ := Kd.R_slice ho
  have HG8 := Aside0.mk hg
  have HO8 := Aside0.mk ho
  have HB8 := Aside0.mk (blk_grown (blk_drew HB.out) hg (fun h => HR.out.1 B h.symm rfl))
  have HBB8 := Aside0.mk hb
  have b8 := (blk_cell HB8.out 0).trans (rfl : _ = some v)
  have f8 := blk_frozen HB8.out 0
  clear ho hb hg hat
  have HK8 := Aside0.mk (blk_grown (row := v.ownBlock) (blk_drew HK.out) HG8.out (fun h => HNG.out h))
  have c8 := (blk_cell HK8.out 0).trans (rfl : _ = some (Value.int .i64 p))
  refine hK.out _ _ ⟨b8, c8⟩ (fun hHeld => ?_)
  clear hK K
  refine norm_ (a' := ?_) ?_ ?_
  rotate_left
  · show Act.put _ (some 9) _ = _
    simp only [Act.put, List.setIfInBounds_toArray, List.set_cons_zero, List.set_cons_succ, i64_w, i32_w]
    rfl
  refine last_ (i := 7) (N := none) #[true, true, true, true, true, true, true, true] rfl rfl (by kernel_rfl) (by decide) (fun K hK => ?_)
  refine skip_ (w1 := ?_) (by rfl) rfl ?_ ?_
  rotate_left
  · go_simp
    rfl
  refine hK.out _ _ ?_
  clear hK K
  refine done_ (by kernel_rfl) ?_
  go_wp2
  go_returns
  exact ⟨rfl, _, blk_put HB8.out 0 _ rfl, by have h := Kd.R_far (p := ⟨B, 0, none⟩) HO8.out (fun k hk => hk) (Value.slice A8 (l.length + 1) cp8); rw [List.length_append] at h; exact h, HBB8.out.setCell HBL.out _⟩

theorem closF (w0 W : World) (base g B C : Nat) (p q : Int) (v u : Option Addr) (hv : u = if p = q then some ⟨g, 0, none⟩ else v) (hk : NB W g p false none none) (hB : W.heap[B]? = some (.cells #[.int .i64 q] 3 (0, 0))) (hC : W.heap[C]? = some (.cells #[.pointer v] 61 (0, 0))) (hbC : base ≤ C) (hb : Below base w0 W) (hBC : B ≠ C) :
    Calls Try.prog 33 #[.pointer (some ⟨g, 0, none⟩), .pointer (some ⟨B, 0, none⟩), .pointer (some ⟨C, 0, none⟩)] W fun e w' => e = .returned (.tuple #[]) ∧ w'.heap[B]? = some (.cells #[.int .i64 q] 3 (0, 0)) ∧ w'.heap[C]? = some (.cells #[.pointer u] 61 (0, 0)) ∧ Below base w0 w' := by
  have hu := Try.underlying63
  have c0 : W.drew.cell? ⟨g, 0, none⟩ = some (.int .i64 p) := (blk_cell (blk_drew hk) 0).trans rfl
  have b0 : W.drew.cell? ⟨B, 0, none⟩ = some (.int .i64 q) := (blk_cell (blk_drew hB) 0).trans rfl
  have d0 : W.drew.cell? ⟨C, 0, none⟩ = some (.pointer v) := (blk_cell (blk_drew hC) 0).trans rfl
  have f0 := blk_frozen (blk_drew hC) 0
  have HB := Aside0.mk hB
  have HC := Aside0.mk hC
  have HBB := Aside0.mk hb
  have HBC := Aside0.mk hBC
  have HBL := Aside0.mk hbC
  clear hk hB hC hb hBC hbC
  by_cases hpq : p = q
  · rw [if_pos hpq] at hv
    subst hv
    have e1 : (p == q) = true := beq_iff_eq.mpr hpq
    clear hpq
    go_enter Try.func33, Try.ntmps33
    go_upto_region 0 with fail
    refine start_ (n := 6) (S := fun w' => w'.cell? ⟨B, 0, none⟩ = some (.int .i64 q) ∧ w'.cell? ⟨g, 0, none⟩ = some (.int .i64 p)) (ds := []) #[false, false, false, false, false, false] (by kernel_rfl) rfl rfl ⟨b0, c0⟩ (fun hHeld => ?_)
    refine pure_ (i := 0) (N := some 4) (v := ?_) (a' := ?_) #[true, false, false, false, false, false] rfl rfl (by kernel_rfl) (fun _ _ _ h => h) (Or.inl ⟨by rfl, ?_⟩) ?_ ?_
    rotate_left
    · intro w'
      go_simp
      with_reducible rfl
    rotate_left
    · simp only [Act.put, List.setIfInBounds_toArray, List.set_cons_zero, List.set_cons_succ, i64_w, i32_w]
      rfl
    refine pure_ (i := 1) (N := some 5) (v := ?_) (a' := ?_) #[true, true, false, false, false, false] rfl rfl (by kernel_rfl) (fun _ _ _ h => h) (Or.inl ⟨by rfl, ?_⟩) ?_ ?_
    rotate_left
    · intro w'
      go_simp
      with_reducible rfl
    rotate_left
    · simp only [Act.put, List.setIfInBounds_toArray, List.set_cons_zero, List.set_cons_succ, i64_w, i32_w]
      rfl
    refine pure_ (i := 2) (N := some 6) (v := ?_) (a' := ?_) #[true, true, true, false, false, false] rfl rfl (by kernel_rfl) (fun _ _ _ h => h) (Or.inl ⟨by rfl, ?_⟩) ?_ ?_
    rotate_left
    · intro w'
      go_simp
      with_reducible rfl
    rotate_left
    · simp only [Act.put, List.setIfInBounds_toArray, List.set_cons_zero, List.set_cons_succ, i64_w, i32_w]
      rfl
    refine take_ (i := 3) (N := some 7) (v := ?_) (a' := ?_) #[true, true, true, true, false, false] rfl rfl (by kernel_rfl) (fun _ _ _ h => h) (Or.inl ⟨by rfl, ?_⟩) hHeld ?_ ?_
    rotate_left
    · rintro w' ⟨s0, s1⟩
      go_simp
      with_reducible rfl
    rotate_left
    · simp only [Act.put, List.setIfInBounds_toArray, List.set_cons_zero, List.set_cons_succ, i64_w, i32_w]
      rfl
    refine take_ (i := 4) (N := some 8) (v := ?_) (a' := ?_) #[true, true, true, true, true, false] rfl rfl (by kernel_rfl) (fun _ _ _ h => h) (Or.inl ⟨by rfl, ?_⟩) hHeld ?_ ?_
    rotate_left
    · rintro w' ⟨s0, s1⟩
      go_simp
      with_reducible rfl
    rotate_left
    · simp only [Act.put, List.setIfInBounds_toArray, List.set_cons_zero, List.set_cons_succ, i64_w, i32_w]
      rfl
    refine pure_ (i := 5) (N := some 9) (v := ?_) (a' := ?_) #[true, true, true, true, true, true] rfl rfl (by kernel_rfl) (fun _ _ _ h => h) (Or.inl ⟨by rfl, ?_⟩) ?_ ?_
    rotate_left
    · intro w'
      go_simp
      with_reducible rfl
    rotate_left
    · simp only [Act.put, List.setIfInBounds_toArray, List.set_cons_zero, List.set_cons_succ, i64_w, i32_w]
      rfl
    refine done_ (by kernel_rfl) ?_
    go_wp2
    go_returns
    exact ⟨rfl, blk_far HB.out (fun h => HBC.out h) _, blk_put (blk_drew HC.out) 0 _ rfl, (below_drew HBB.out).setCell HBL.out _⟩
  · rw [if_neg hpq] at hv
    subst hv
    have e1 : (p == q) = false := beq_eq_false_iff_ne.mpr hpq
    clear hpq
    go_enter Try.func33, Try.ntmps33
    go_upto_region 0 with fail
    refine start_ (n := 6) (S := fun w' => w'.cell? ⟨B, 0, none⟩ = some (.int .i64 q) ∧ w'.cell? ⟨g, 0, none⟩ = some (.int .i64 p)) (ds := []) #[false, false, false, false, false, false] (by kernel_rfl) rfl rfl ⟨b0, c0⟩ (fun hHeld => ?_)
    refine pure_ (i := 0) (N := some 4) (v := ?_) (a' := ?_) #[true, false, false, false, false, false] rfl rfl (by kernel_rfl) (fun _ _ _ h => h) (Or.inl ⟨by rfl, ?_⟩) ?_ ?_
    rotate_left
    · intro w'
      go_simp
      with_reducible rfl
    rotate_left
    · simp only [Act.put, List.setIfInBounds_toArray, List.set_cons_zero, List.set_cons_succ, i64_w, i32_w]
      rfl
    refine pure_ (i := 1) (N := some 5) (v := ?_) (a' := ?_) #[true, true, false, false, false, false] rfl rfl (by kernel_rfl) (fun _ _ _ h => h) (Or.inl ⟨by rfl, ?_⟩) ?_ ?_
    rotate_left
    · intro w'
      go_simp
      with_reducible rfl
    rotate_left
    · simp only [Act.put, List.setIfInBounds_toArray, List.set_cons_zero, List.set_cons_succ, i64_w, i32_w]
      rfl
    refine pure_ (i := 2) (N := some 6) (v := ?_) (a' := ?_) #[true, true, true, false, false, false] rfl rfl (by kernel_rfl) (fun _ _ _ h => h) (Or.inl ⟨by rfl, ?_⟩) ?_ ?_
    rotate_left
    · intro w'
      go_simp
      with_reducible rfl
    rotate_left
    · simp only [Act.put, List.setIfInBounds_toArray, List.set_cons_zero, List.set_cons_succ, i64_w, i32_w]
      rfl
    refine take_ (i := 3) (N := some 7) (v := ?_) (a' := ?_) #[true, true, true, true, false, false] rfl rfl (by kernel_rfl) (fun _ _ _ h => h) (Or.inl ⟨by rfl, ?_⟩) hHeld ?_ ?_
    rotate_left
    · rintro w' ⟨s0, s1⟩
      go_simp
      with_reducible rfl
    rotate_left
    · simp only [Act.put, List.setIfInBounds_toArray, List.set_cons_zero, List.set_cons_succ, i64_w, i32_w]
      rfl
    refine take_ (i := 4) (N := some 8) (v := ?_) (a' := ?_) #[true, true, true, true, true, false] rfl rfl (by kernel_rfl) (fun _ _ _ h => h) (Or.inl ⟨by rfl, ?_⟩) hHeld ?_ ?_
    rotate_left
    · rintro w' ⟨s0, s1⟩
      go_simp
      with_reducible rfl
    rotate_left
    · simp only [Act.put, List.setIfInBounds_toArray, List.set_cons_zero, List.set_cons_succ, i64_w, i32_w]
      rfl
    refine pure_ (i := 5) (N := some 9) (v := ?_) (a' := ?_) #[true, true, true, true, true, true] rfl rfl (by kernel_rfl) (fun _ _ _ h => h) (Or.inl ⟨by rfl, ?_⟩) ?_ ?_
    rotate_left
    · intro w'
      go_simp
      with_reducible rfl
    rotate_left
    · simp only [Act.put, List.setIfInBounds_toArray, List.set_cons_zero, List.set_cons_succ, i64_w, i32_w]
      rfl
    refine done_ (by kernel_rfl) ?_
    go_wp2
    go_returns
    exact ⟨rfl, blk_drew HB.out, blk_drew HC.out, below_drew HBB.out⟩
end
end Go.Proofs.Ytnidcnmeonjjbaa.LayNode
