/- half, turned, box of layout as contracts; boxes as a kind; a map of boxes. -/
import Derived.Test.YtnidcnmeonjjbaaLayFloat
import Derived.Maps.OwnSet
namespace Go.Proofs.Ytnidcnmeonjjbaa.LaySmall
open Go.RowKit Go.Proofs.Ytnidcnmeonjjbaa.Kit Go.Proofs.Ytnidcnmeonjjbaa.Plain Go.Proofs.Ytnidcnmeonjjbaa.Mine Go.Proofs.Ytnidcnmeonjjbaa.LayFloat Go.Proofs.YtnidcnmeonjjbaaW.PrintWords Go.Proofs.YtnidcnmeonjjbaaW.PrintLast Go.Proofs.YtnidcnmeonjjbaaW.PrintMore
open Go.WideShapes
set_option linter.unusedVariables false
set_option linter.unusedSimpArgs false
/-- A point. -/
def cx (a b : Nat) : Value := .complex .f64 (fl a) (fl b)
section
set_option maxHeartbeats 800000
set_option maxRecDepth 100000
theorem half_c (n : Nat) (w : World) (hn : n ≤ 60) : Calls Try.prog 32 #[.float .f64 (fl n)] w fun e w' => e = .returned (.float .f64 (fl ((n - 1) / 2))) ∧ Below w.heap.size w w' := by
  have h1 := fun W => run_int W n hn
  have h2 := fun W => run_fl W ((n - 1) / 2)
  have h3 : (n : Int) ≤ 60 := by omega
  obtain ⟨X, hX⟩ : ∃ X, X = fl n := ⟨_, rfl⟩
  obtain ⟨Y, hY⟩ : ∃ Y, Y = fl ((n - 1) / 2) := ⟨_, rfl⟩
  rw [← hX] at h1 ⊢
  rw [← hY] at h2 ⊢
  by_cases h0 : n < 1
  · have e1 : decide ((n : Int) - 1 < 0) = true := decide_eq_true (by omega)
    have e2 : (n : Int) - 1 < 0 := by omega
    rw [show (((n - 1) / 2 : Nat) : Int) = 0 from by omega] at h2
    clear hX hY h0
    go_enter Try.func32, Try.ntmps32
    go_wp2
    go_returns
    exact ⟨rfl, Below.refl _ _⟩
  · have e1 : decide ((n : Int) - 1 < 0) = false := decide_eq_false (by omega)
    have e2 : 0 ≤ (n : Int) - 1 := by omega
    have e3 : (1 : Int) ≤ n := by omega
    rw [show (((n - 1) / 2 : Nat) : Int) = ((n : Int) - 1) / 2 from by omega] at h2
    clear hX hY h0
    go_enter Try.func32, Try.ntmps32
    go_wp2
    go_returns
    exact ⟨rfl, Below.refl _ _⟩
theorem turned_c (a b : Nat) (w : World) : Calls Try.prog 31 #[cx a b] w fun e w' => e = .returned (cx b a) ∧ Below w.heap.size w w' := by
  unfold cx
  go_enter Try.func31, Try.ntmps31
  go_wp2
  go_returns
  exact ⟨rfl, Below.refl _ _⟩
theorem same_c (a b : Nat) (w : World) : Calls Try.prog 30 #[cx a b] w fun e w' => e = .returned (cx a b) ∧ Below w.heap.size w w' := by
  unfold cx
  go_enter Try.func30, Try.ntmps30
  go_wp2
  go_returns
  exact ⟨rfl, Below.refl _ _⟩
theorem box_c (x y u v : Nat) (w : World) (hx : x ≤ 60) (hy : y ≤ 60) (hu : u ≤ 60) (hv : v ≤ 60) : Calls Try.prog 29 #[cx x y, cx u v] w fun e w' => e = .returned (.agg #[.int .i64 x, .int .i64 y, .int .i64 u, .int .i64 v]) ∧ Below w.heap.size w w' := by
  have h1 := fun W => run_int W x hx
  have h2 := fun W => run_int W y hy
  have h3 := fun W => run_int W u hu
  have h4 := fun W => run_int W v hv
  have hub := Try.underlying50
  unfold cx
  obtain ⟨X, hX⟩ : ∃ X, X = fl x := ⟨_, rfl⟩
  obtain ⟨Y, hY⟩ : ∃ Y, Y = fl y := ⟨_, rfl⟩
  obtain ⟨U, hU⟩ : ∃ U, U = fl u := ⟨_, rfl⟩
  obtain ⟨V, hV⟩ : ∃ V, V = fl v := ⟨_, rfl⟩
  rw [← hX] at h1 ⊢
  rw [← hY] at h2 ⊢
  rw [← hU] at h3 ⊢
  rw [← hV] at h4 ⊢
  clear hX hY hU hV hx hy hu hv
  go_enter Try.func29, Try.ntmps29
  go_wp2
  go_returns
  exact ⟨rfl, below_alloc (Below.refl _ _) _⟩
end
/-- A box on a screen. -/
structure BX where
  x : Nat
  y : Nat
  w : Nat
  h : Nat
  deriving DecidableEq
def BX.val (b : BX) : Value := .agg #[.int .i64 b.x, .int .i64 b.y, .int .i64 b.w, .int .i64 b.h]
def BX.zero : BX := ⟨0, 0, 0, 0⟩
def kB : Kd BX := Kd.iso (Kd.pair (Kd.int .i64) (Kd.pair (Kd.int .i64) (Kd.pair (Kd.int .i64) (Kd.int .i64)))) (fun b : BX => ((b.x : Int), (b.y : Int), (b.w : Int), (b.h : Int)))
theorem kB_open {w : World} {x : BX} {cs : List Value} (h : kB.K w x cs) : cs = [.int .i64 x.x, .int .i64 x.y, .int .i64 x.w, .int .i64 x.h] := by
  obtain ⟨_, _, rfl, rfl, ⟨_, _, rfl, rfl, ⟨_, _, rfl, rfl, rfl⟩⟩⟩ := h
  exact rfl
theorem kB_mkM (w : World) (base : Nat) (ok : Nat → Prop) (x : BX) : kB.M w base ok x [.int .i64 x.x, .int .i64 x.y, .int .i64 x.w, .int .i64 x.h] :=
  ⟨[.int .i64 x.x], _, rfl, rfl, ⟨[.int .i64 x.y], _, rfl, rfl, ⟨[.int .i64 x.w], [.int .i64 x.h], rfl, rfl, rfl⟩⟩⟩
theorem at_B {w : World} {A : Option Addr} {n : Nat} {xs : List BX} (h : Kd.C kB w A n xs) (i : Nat) (hi : i < n) : ∃ (ad : Addr), A = some ad ∧ w.cell? (ad.add (i * 4)) = some (.int .i64 (xs.getD i BX.zero).x) ∧ w.cell? ⟨(ad.add (i * 4)).block, (ad.add (i * 4)).off + 1, none⟩ = some (.int .i64 (xs.getD i BX.zero).y) ∧ w.cell? ⟨(ad.add (i * 4)).block, (ad.add (i * 4)).off + 2, none⟩ = some (.int .i64 (xs.getD i BX.zero).w) ∧ w.cell? ⟨(ad.add (i * 4)).block, (ad.add (i * 4)).off + 3, none⟩ = some (.int .i64 (xs.getD i BX.zero).h) := by
  obtain ⟨ad, c, e, _, hK, hc0⟩ := Kd.C_get h BX.zero (i : Int) (by omega) (by omega)
  rw [Int.toNat_natCast] at hK hc0
  have hc : ∀ j u, c[j]? = some u → w.cell? (ad.add (i * 4 + j)) = some u := hc0
  obtain rfl := kB_open hK
  exact ⟨ad, e, hc 0 _ rfl, by rw [← add_field _ _ 1 (by omega)]; exact hc 1 _ rfl, by rw [← add_field _ _ 2 (by omega)]; exact hc 2 _ rfl, by rw [← add_field _ _ 3 (by omega)]; exact hc 3 _ rfl⟩
/-! A map of boxes. -/
def boxD (b : BX) : DataW Unit := .agg [.lit (.int .i64 b.x), .lit (.int .i64 b.y), .lit (.int .i64 b.w), .lit (.int .i64 b.h)]
theorem val_inj {a b : BX} (h : a.val = b.val) : a = b := by
  cases a; cases b
  simp [BX.val] at h
  obtain ⟨h1, h2, h3, h4⟩ := h
  rw [Int.natCast_inj.1 h1, Int.natCast_inj.1 h2, Int.natCast_inj.1 h3, Int.natCast_inj.1 h4]
theorem boxD_inj {a b : BX} (h : boxD a = boxD b) : a = b := by
  cases a; cases b
  simp [boxD] at h
  obtain ⟨h1, h2, h3, h4⟩ := h
  rw [Int.natCast_inj.1 h1, Int.natCast_inj.1 h2, Int.natCast_inj.1 h3, Int.natCast_inj.1 h4]
open Classical in
noncomputable def boxRead (v : Value) : Option (DataW Unit × List MemPlace) := if h : ∃ b : BX, v = b.val then some (boxD h.choose, []) else none
theorem boxRead_mk (b : BX) : boxRead b.val = some (boxD b, []) := by
  have h : ∃ c : BX, b.val = c.val := ⟨b, rfl⟩
  unfold boxRead
  rw [dif_pos h, ← val_inj h.choose_spec]
theorem boxRead_inv {v : Value} {b : BX} {ps : List MemPlace} (h : boxRead v = some (boxD b, ps)) : v = b.val := by
  unfold boxRead at h
  split at h
  · rename_i hv
    injection h with h
    injection h with h1 _
    rw [← boxD_inj h1]
    exact hv.choose_spec
  · cases h
theorem law_int : Maps.Keyed Try.prog 3 := Maps.int_keyed Try.underlying3
theorem zero_box (w : World) : (zeroValue 50).run Try.prog w = .ok BX.zero.val w := by kernel_rfl
/-- Block M is a map that has just these boxes. -/
def MP (w : World) (M : Nat) (l : List (Int × BX)) : Prop :=
  ∃ (D : DataW Unit) (n : Nat), w.ownsMap Try.prog 3 boxRead M n D ∧ n ≤ l.length ∧ Maps.size D = l.length ∧ (∀ k b, (k, b) ∈ l → ∀ z, D.atKey (.int .i64 k) z = boxD b) ∧ (∀ k, k ∉ l.map Prod.fst → Maps.has D (.int .i64 k) = false)
theorem MP.made (w : World) : MP (w.alloc (.map #[] 0)) w.heap.size [] :=
  ⟨_, 0, World.ownsMap_made w _ _ _, Nat.le_refl _, rfl, fun _ _ h => absurd h (List.not_mem_nil), fun _ _ => rfl⟩
theorem MP.kept {w w' : World} {M : Nat} {l : List (Int × BX)} {row : Option Nat} (h : MP w M l) (hg : w.grownBy w' row) (hne : some M ≠ row) : MP w' M l := by
  obtain ⟨D, n, ho, r⟩ := h
  exact ⟨D, n, ho.kept hg hne, r⟩
theorem MP.lt {w : World} {M : Nat} {l : List (Int × BX)} (h : MP w M l) : M < w.heap.size := by
  obtain ⟨D, n, ho, r⟩ := h
  exact ho.lt
theorem MP.move {w w' : World} {M : Nat} {l : List (Int × BX)} (h : MP w M l) (hm : w'.heap[M]? = w.heap[M]?) : MP w' M l := by
  obtain ⟨D, n, ⟨es, clock, hb, r⟩, q⟩ := h
  exact ⟨D, n, ⟨es, clock, hm.trans hb, r⟩, q⟩
theorem MP.below {w w' : World} {M : Nat} {l : List (Int × BX)} (h : MP w M l) (hb : Below w.heap.size w w') : MP w' M l := h.move (hb.block M h.lt)
theorem MP.put {w : World} {M : Nat} {l : List (Int × BX)} (h : MP w M l) (p : Int) (b : BX) (hp : p ∉ l.map Prod.fst) (hw : (Lit.int .i64 p).wf = true) (hl : l.length < 1000000) :
    ∃ w', (Instr.mapUpdate 43 (.map (some M)) (.int .i64 p) b.val).run Try.prog w = .ok () w' ∧ MP w' M (l ++ [(p, b)]) ∧ w.grownBy w' (some M) := by
  obtain ⟨D, n, ho, hn, hs, ha, hh⟩ := h
  obtain ⟨w', h1, h2, h3⟩ := ho.update law_int Try.underlying43 (by unfold maxLen; omega) (Maps.keyOf_int_mk Try.underlying3 hw) (boxRead_mk b)
  have hm := ho.isMap
  have ht := ho.tidy law_int
  have hk : WideAt.IsKeyLit (.int .i64 p) := trivial
  refine ⟨w', h1, ⟨_, n + 1, h2, by simp; omega, ?_, ?_, ?_⟩, h3⟩
  · rw [Maps.size_put ht, if_neg (by rw [hh p hp]; decide), hs]; simp
  · intro k c hkc z
    rcases List.mem_append.1 hkc with hkc | hkc
    · have hne : k ≠ p := fun e => hp (List.mem_map.2 ⟨(k, c), hkc, e⟩)
      rw [Maps.atKey_put_other (fun e => hne (by injection e))]
      exact ha k c hkc z
    · rw [List.mem_singleton] at hkc
      injection hkc with e1 e2
      rw [e1, e2]
      exact Maps.atKey_put_same hm hk _ _
  · intro k hk2
    rw [List.map_append, List.mem_append, not_or] at hk2
    have hne : k ≠ p := fun e => hk2.2 (by simp [e])
    rw [Maps.has_put_other (fun e => hne (by injection e))]
    exact hh k hk2.1
theorem MP.look {w : World} {M : Nat} {l : List (Int × BX)} (h : MP w M l) (p : Int) (b : BX) (hp : (p, b) ∈ l) (hw : (Lit.int .i64 p).wf = true) :
    (Instr.lookup 43 (.map (some M)) (.int .i64 p) false).run Try.prog w = .ok b.val w := by
  obtain ⟨D, n, ho, hn, hs, ha, hh⟩ := h
  obtain ⟨v, ps, h1, h2⟩ := ho.lookup law_int Try.underlying43 (zero_box w) (boxRead_mk BX.zero) (Maps.keyOf_int_mk Try.underlying3 hw)
  rw [ha p b hp] at h2
  rw [← boxRead_inv h2]
  exact h1
theorem MP.look_ok {w : World} {M : Nat} {l : List (Int × BX)} (h : MP w M l) (p : Int) (b : BX) (hp : (p, b) ∈ l) (hw : (Lit.int .i64 p).wf = true) :
    (Instr.lookup 43 (.map (some M)) (.int .i64 p) true).run Try.prog w = .ok (.tuple #[b.val, .bool true]) w := by
  obtain ⟨D, n, ho, hn, hs, ha, hh⟩ := h
  obtain ⟨v, ps, h1, h2⟩ := ho.look_ok law_int Try.underlying43 (zero_box w) (boxRead_mk BX.zero) (Maps.keyOf_int_mk Try.underlying3 hw)
  rw [ha p b hp] at h2
  rw [Maps.has_true_of_atKey (ha p b hp)] at h1
  rw [← boxRead_inv h2]
  exact h1
theorem MP.len {w : World} {M : Nat} {l : List (Int × BX)} (h : MP w M l) (ty : TypeId) : (Builtin.len_ #[43] ty #[.map (some M)]).run Try.prog w = .ok (.int .i64 (l.length : Int)) w := by
  obtain ⟨D, n, ho, hn, hs, ha, hh⟩ := h
  rw [← hs]
  exact ho.len Try.underlying43 ty
end Go.Proofs.Ytnidcnmeonjjbaa.LaySmall
