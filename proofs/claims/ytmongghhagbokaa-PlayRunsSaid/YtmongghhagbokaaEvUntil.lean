/- How many events are no later than a time: sort.Search with a function value, event.Until and the document's count, as contracts; no condition but that the list can be read and its times rise. -/
import Derived.Test.YtmongghhagbokaaTameC
namespace Go.Proofs.Ytmongghhagbokaa.EvUntil
open Go.RowKit Go.Proofs.Ytmongghhagbokaa.Kit Go.Proofs.Ytmongghhagbokaa.Plain Go.Proofs.Ytmongghhagbokaa.Mine Go.Proofs.Ytmongghhagbokaa.Event Go.Proofs.Ytmongghhagbokaa.EventRef Go.Proofs.Ytmongghhagbokaa.EventList Go.Proofs.Ytmongghhagbokaa.EventListR Go.Proofs.Ytmongghhagbokaa.Tame Go.Proofs.YtmongghhagbokaaW.PrintWords Go.Proofs.YtmongghhagbokaaW.PrintLast Go.Proofs.YtmongghhagbokaaW.PrintMore
open Go.Proofs.Ytmongghhagbokaa.PPlayRights (S54 z54 k54 k54_open k54_mk k54_mkM rd_T54 at_T54 info54)
set_option linter.unusedVariables false
set_option linter.unusedSimpArgs false
/-- As many as are no later. -/
def countT (t : Int) (l : List S54) : Nat := l.countP fun x => decide (x.f0 ≤ t)
def Rising (l : List S54) : Prop := ∀ (i j : Nat) (hi : i < l.length) (hj : j < l.length), i ≤ j → l[i].f0 ≤ l[j].f0
theorem listR_low (l : List S54) : ∀ t, listR t l = true → ∀ x ∈ l, t ≤ x.f0 := by
  induction l with
  | nil => intro t _ x hx; simp at hx
  | cons y l ih =>
    intro t h x hx
    rw [listR_cons, Bool.and_eq_true, Bool.and_eq_true] at h
    have h1 := of_decide_eq_true h.1.2
    rcases List.mem_cons.1 hx with rfl | hx
    · exact h1
    · have := ih _ h.2 x hx; omega
theorem listR_rising (l : List S54) : ∀ t, listR t l = true → Rising l := by
  induction l with
  | nil => intro t _ i j hi; simp at hi
  | cons y l ih =>
    intro t h i j hi hj hij
    rw [listR_cons, Bool.and_eq_true, Bool.and_eq_true] at h
    have h2 := listR_low l _ h.2
    cases i with
    | zero =>
      cases j with
      | zero => exact Int.le_refl _
      | succ j => exact h2 _ (List.getElem_mem (by simpa using hj))
    | succ i =>
      cases j with
      | zero => omega
      | succ j => exact ih _ h.2 i j (by simpa using hi) (by simpa using hj) (by omega)
theorem count_at (t : Int) (l : List S54) (k : Nat) (hk : k ≤ l.length) (h1 : ∀ (i : Nat) (hi : i < l.length), i < k → l[i].f0 ≤ t) (h2 : ∀ (i : Nat) (hi : i < l.length), k ≤ i → t < l[i].f0) : countT t l = k := by
  unfold countT
  rw [← List.take_append_drop k l, List.countP_append]
  have e1 : (l.take k).countP (fun x => decide (x.f0 ≤ t)) = (l.take k).length := by
    rw [List.countP_eq_length]
    intro x hx
    obtain ⟨i, hi, rfl⟩ := List.mem_iff_getElem.1 hx
    rw [List.length_take] at hi
    rw [List.getElem_take]
    exact decide_eq_true (h1 i (by omega) (by omega))
  have e2 : (l.drop k).countP (fun x => decide (x.f0 ≤ t)) = 0 := by
    rw [List.countP_eq_zero]
    intro x hx
    obtain ⟨i, hi, rfl⟩ := List.mem_iff_getElem.1 hx
    rw [List.length_drop] at hi
    rw [List.getElem_drop]
    have := h2 (k + i) (by omega) (by omega)
    simp; omega
  rw [e1, e2, List.length_take]
  omega
/-- Where the count stands. -/
theorem count_split (t : Int) (l : List S54) (h : Rising l) : countT t l ≤ l.length ∧ (∀ (i : Nat) (hi : i < l.length), i < countT t l → l[i].f0 ≤ t) ∧ (∀ (i : Nat) (hi : i < l.length), countT t l ≤ i → t < l[i].f0) := by
  have key : ∀ n, n ≤ l.length → (∀ (i : Nat) (hi : i < l.length), n ≤ i → t < l[i].f0) → ∃ k, k ≤ n ∧ (∀ (i : Nat) (hi : i < l.length), i < k → l[i].f0 ≤ t) ∧ (∀ (i : Nat) (hi : i < l.length), k ≤ i → t < l[i].f0) := by
    intro n
    induction n with
    | zero => intro hn h0; exact ⟨0, Nat.le_refl _, fun i hi h => absurd h (by omega), h0⟩
    | succ n ih =>
      intro hn h0
      by_cases hc : l[n].f0 ≤ t
      · exact ⟨n + 1, Nat.le_refl _, fun i hi hin => Int.le_trans (h i n hi (by omega) (by omega)) hc, h0⟩
      · obtain ⟨k, h1, h2, h3⟩ := ih (by omega) (fun i hi hin => by have := h n i (by omega) hi hin; omega)
        exact ⟨k, by omega, h2, h3⟩
  obtain ⟨k, hk, h1, h2⟩ := key l.length (Nat.le_refl _) (fun i hi h => absurd h (by omega))
  rw [count_at t l k hk h1 h2]
  exact ⟨hk, h1, h2⟩
set_option maxHeartbeats 800000 in
set_option maxRecDepth 100000 in
theorem closure_c (bl bt : Nat) (A : Option Addr) (c : Nat) (l : List S54) (t : Int) (i : Nat) (w : World) (hi : i < l.length) (hb : w.cell? ⟨bl, 0, none⟩ = some (.slice A l.length c)) (ht : w.cell? ⟨bt, 0, none⟩ = some (.int .i64 t)) (hr : Kd.C k54 w A l.length l) :
    Calls Try.prog 37 #[.int .i64 (i : Int), .pointer (some ⟨bl, 0, none⟩), .pointer (some ⟨bt, 0, none⟩)] w fun e w' => e = .returned (.bool (decide (t < l[i].f0))) ∧ Below w.heap.size w w' := by
  obtain ⟨ad, ead, hc0, hrest⟩ := at_ev hr i hi
  clear hrest
  have hil : (i : Int) < l.length := by omega
  obtain ⟨y, hy⟩ : ∃ y, y = l[i].f0 := ⟨_, rfl⟩
  rw [← hy] at hc0 ⊢
  have hu := Try.underlying54
  subst ead
  clear hy hr hi
  go_enter Try.func37, Try.ntmps37
  go_upto_region 1 with fail
  refine start_ (n := 8) (S := fun w' => w'.cell? ⟨bl, 0, none⟩ = some (.slice (some ad) l.length c) ∧ w'.cell? ⟨bt, 0, none⟩ = some (.int .i64 t) ∧ w'.cell? (ad.add (i * 5)) = some (.int .i64 y)) (ds := []) #[false, false, false, false, false, false, false, false] (by kernel_rfl) rfl rfl ⟨hb, ht, hc0⟩ (fun hHeld => ?_)
  refine pure_ (i := 1) (N := some 6) (v := ?_) (a' := ?_) #[false, true, false, false, false, false, false, false] rfl rfl (by kernel_rfl) (fun _ _ _ h => h) (Or.inl ⟨by rfl, ?_⟩) ?_ ?_
  rotate_left
  · intro w'
    go_simp
    with_reducible rfl
  rotate_left
  · simp only [Act.put, List.setIfInBounds_toArray, List.set_cons_zero, List.set_cons_succ, i64_w, i32_w]
    rfl
  refine take_ (i := 0) (N := some 5) (v := ?_) (a' := ?_) #[true, true, false, false, false, false, false, false] rfl rfl (by kernel_rfl) (fun _ _ _ h => h) (Or.inl ⟨by rfl, ?_⟩) hHeld ?_ ?_
  rotate_left
  · rintro w' ⟨s0, s1, s2⟩
    go_simp
    with_reducible rfl
  rotate_left
  · simp only [Act.put, List.setIfInBounds_toArray, List.set_cons_zero, List.set_cons_succ, i64_w, i32_w]
    rfl
  refine pure_ (i := 2) (N := some 7) (v := ?_) (a' := ?_) #[true, true, true, false, false, false, false, false] rfl rfl (by kernel_rfl) (fun _ _ _ h => h) (Or.inl ⟨by rfl, ?_⟩) ?_ ?_
  rotate_left
  · intro w'
    go_simp
    with_reducible rfl
  rotate_left
  · simp only [Act.put, List.setIfInBounds_toArray, List.set_cons_zero, List.set_cons_succ, i64_w, i32_w]
    rfl
  refine pure_ (i := 3) (N := some 8) (v := ?_) (a' := ?_) #[true, true, true, true, false, false, false, false] rfl rfl (by kernel_rfl) (fun _ _ _ h => h) (Or.inl ⟨by rfl, ?_⟩) ?_ ?_
  rotate_left
  · intro w'
    go_simp
    with_reducible rfl
  rotate_left
  · simp only [Act.put, List.setIfInBounds_toArray, List.set_cons_zero, List.set_cons_succ, i64_w, i32_w]
    rfl
  refine take_ (i := 4) (N := some 9) (v := ?_) (a' := ?_) #[true, true, true, true, true, false, false, false] rfl rfl (by kernel_rfl) (fun _ _ _ h => h) (Or.inl ⟨by rfl, ?_⟩) hHeld ?_ ?_
  rotate_left
  · rintro w' ⟨s0, s1, s2⟩
    go_simp
    with_reducible rfl
  rotate_left
  · simp only [Act.put, List.setIfInBounds_toArray, List.set_cons_zero, List.set_cons_succ, i64_w, i32_w]
    rfl
  refine take_ (i := 5) (N := some 10) (v := ?_) (a' := ?_) #[true, true, true, true, true, true, false, false] rfl rfl (by kernel_rfl) (fun _ _ _ h => h) (Or.inl ⟨by rfl, ?_⟩) hHeld ?_ ?_
  rotate_left
  · rintro w' ⟨s0, s1, s2⟩
    go_simp
    with_reducible rfl
  rotate_left
  · simp only [Act.put, List.setIfInBounds_toArray, List.set_cons_zero, List.set_cons_succ, i64_w, i32_w]
    rfl
  refine pure_ (i := 6) (N := some 11) (v := ?_) (a' := ?_) #[true, true, true, true, true, true, true, false] rfl rfl (by kernel_rfl) (fun _ _ _ h => h) (Or.inl ⟨by rfl, ?_⟩) ?_ ?_
  rotate_left
  · intro w'
    go_simp
    with_reducible rfl
  rotate_left
  · simp only [Act.put, List.setIfInBounds_toArray, List.set_cons_zero, List.set_cons_succ, i64_w, i32_w]
    rfl
  refine pure_ (i := 7) (N := some 4) (v := ?_) (a' := ?_) #[true, true, true, true, true, true, true, true] rfl rfl (by kernel_rfl) (fun _ _ _ h => h) (Or.inl ⟨by rfl, ?_⟩) ?_ ?_
  rotate_left
  · intro w'
    go_simp
    with_reducible rfl
  rotate_left
  · simp only [Act.put, List.setIfInBounds_toArray, List.set_cons_zero, List.set_cons_succ, i64_w, i32_w]
    rfl
  refine done_ (by kernel_rfl) ?_
  go_wp2
  go_ret
  exact ⟨rfl, below_drew (Below.refl _ _)⟩
set_option maxHeartbeats 1600000 in
set_option maxRecDepth 100000 in
theorem search_c (v1 v2 : Value) (n : Nat) (p : Nat → Bool) (w : World) (hn : n < 4611686018427387904) (hf : ∀ (i : Nat) (W : World), i < n → Below w.heap.size w W → Calls Try.prog 37 #[.int .i64 (i : Int), v1, v2] W fun e w' => e = .returned (.bool (p i)) ∧ Below W.heap.size W w')
    (hm : ∀ a b, a ≤ b → b < n → p a = true → p b = true) :
    Calls Try.prog 36 #[.int .i64 (n : Int), .func (.func 37) #[] #[v1, v2]] w fun e w' => ∃ k : Nat, e = .returned (.int .i64 (k : Int)) ∧ (k ≤ n ∧ (∀ t, t < k → p t = false) ∧ (∀ t, k ≤ t → t < n → p t = true)) ∧ Below w.heap.size w w' := by
  have HF := Aside0.mk hf
  have HM := Aside0.mk hm
  have HN := Aside0.mk hn
  clear hf hm
  go_enter Try.func36, Try.ntmps36
  go_wp2
  go_loopg [5, 6] n (fun kx s5 s6 W => ∃ (lo hi : Nat), s5 = .int .i64 (lo : Int) ∧ s6 = .int .i64 (hi : Int) ∧ lo ≤ hi ∧ hi ≤ n ∧ hi - lo ≤ kx ∧ Aside0 (Below w.heap.size w W) ∧ Aside0 ((∀ t, t < lo → p t = false) ∧ (∀ t, hi ≤ t → t < n → p t = true)))
  case atStart => exact ⟨0, n, rfl, rfl, Nat.zero_le _, Nat.le_refl _, by omega, ⟨Below.refl _ _⟩, ⟨⟨fun t ht => absurd ht (Nat.not_lt_zero _), fun t h1 h2 => by omega⟩⟩⟩
  case round =>
    obtain ⟨lo, hi, rfl, rfl, hlh, hin, hg, HB, I⟩ := hrel
    by_cases hlt : lo < hi
    · have hc := HF.out ((lo + hi) / 2) wr (by omega) HB.out
      rw [show (((lo + hi) / 2 : Nat) : Int) = ((lo : Int) + (hi : Int)) / 2 by omega] at hc
      cases hp : p ((lo + hi) / 2)
      · rw [hp] at hc
        have HC := Aside0.mk hc
        have HP := Aside0.mk hp
        clear hp hc
        go_wp2_with fail
        refine HC.out.mono ?_
        rintro e w3 ⟨rfl, hb⟩
        have HB3 := Aside0.mk (below_kept HB.out hb)
        clear hb HC
        go_wp2_with fail
        go_roundg (hi - ((lo + hi) / 2 + 1))
        case measure => omega
        case rel =>
          have I2 := Aside0.mk (show (∀ t, t < (lo + hi) / 2 + 1 → p t = false) ∧ (∀ t, hi ≤ t → t < n → p t = true) from ⟨fun t ht => (by
            cases h : p t with
            | false => rfl
            | true => have := HM.out t ((lo + hi) / 2) (by omega) (by omega) h; rw [HP.out] at this; cases this), I.out.2⟩)
          exact ⟨(lo + hi) / 2 + 1, hi, by rw [show ((lo : Int) + (hi : Int)) / 2 + 1 = (((lo + hi) / 2 + 1 : Nat) : Int) by omega], rfl, by omega, hin, Nat.le_refl _, HB3, I2⟩
      · rw [hp] at hc
        have HC := Aside0.mk hc
        have HP := Aside0.mk hp
        clear hp hc
        go_wp2_with fail
        refine HC.out.mono ?_
        rintro e w3 ⟨rfl, hb⟩
        have HB3 := Aside0.mk (below_kept HB.out hb)
        clear hb HC
        go_wp2_with fail
        go_roundg ((lo + hi) / 2 - lo)
        case measure => omega
        case rel =>
          have I2 := Aside0.mk (show (∀ t, t < lo → p t = false) ∧ (∀ t, (lo + hi) / 2 ≤ t → t < n → p t = true) from ⟨I.out.1, fun t ht htn => HM.out ((lo + hi) / 2) t ht htn HP.out⟩)
          exact ⟨lo, (lo + hi) / 2, rfl, by rw [show ((lo : Int) + (hi : Int)) / 2 = (((lo + hi) / 2 : Nat) : Int) by omega], by omega, by omega, Nat.le_refl _, HB3, I2⟩
    · obtain rfl : hi = lo := by omega
      have HIN := Aside0.mk hin
      clear hin hg
      go_wp2
      go_ret
      exact ⟨hi, rfl, ⟨HIN.out, I.out.1, I.out.2⟩, HB.out⟩
set_option maxHeartbeats 800000 in
set_option maxRecDepth 100000 in
theorem until_c (A : Option Addr) (c : Nat) (l : List S54) (t : Int) (w : World) (hr : Kd.C k54 w A l.length l) (hl : l.length < 1000000000) (hs : Rising l) :
    Calls Try.prog 29 #[.slice A l.length c, .int .i64 t] w fun e w' => e = .returned (.int .i64 (countT t l : Int)) ∧ Below w.heap.size w w' := by
  have HR := Aside0.mk hr
  have HL := Aside0.mk hl
  have HS := Aside0.mk hs
  have HK := Aside0.mk (fun k hk h1 h2 => count_at t l k hk h1 h2)
  clear hr hl hs
  go_enter Try.func29, Try.ntmps29
  go_wp2_with fail
  have hb1 := below_alloc (Below.refl w.heap.size w) (.cells #[.slice A l.length c] 22)
  have hb2 := below_alloc hb1 (.cells #[.int .i64 t] 3)
  have k1 : ((w.alloc (.cells #[.slice A l.length c] 22)).alloc (.cells #[.int .i64 t] 3)).heap[w.heap.size]? = some (.cells #[.slice A l.length c] 22 (0, 0)) := blk_alloc (blk_new w _) _
  have k2 : ((w.alloc (.cells #[.slice A l.length c] 22)).alloc (.cells #[.int .i64 t] 3)).heap[w.heap.size + 1]? = some (.cells #[.int .i64 t] 3 (0, 0)) := by
    have := blk_new (w.alloc (.cells #[.slice A l.length c] 22)) (.cells #[.int .i64 t] 3)
    rwa [World.size_alloc] at this
  obtain ⟨w2, hw2⟩ : ∃ w2, w2 = (w.alloc (.cells #[.slice A l.length c] 22)).alloc (.cells #[.int .i64 t] 3) := ⟨_, rfl⟩
  have hsr := search_c (.pointer (some ⟨w.heap.size, 0, none⟩)) (.pointer (some ⟨w.heap.size + 1, 0, none⟩)) l.length (fun i => decide (t < (l.getD i z54).f0)) w2 (by have := HL.out; omega)
    (fun i W hi hW => by
      rw [← hw2] at k1 k2 hb2
      have h1 := closure_c w.heap.size (w.heap.size + 1) A c l t i W hi ((blk_cell (blk_below k1 hW) 0).trans rfl) ((blk_cell (blk_below k2 hW) 0).trans rfl) (Kd.C_below HR.out (below_kept hb2 hW))
      rw [show l.getD i z54 = l[i] from by rw [List.getD_eq_getElem?_getD, List.getElem?_eq_getElem hi]; rfl]
      exact h1)
    (fun a b hab hbn h => by
      have ea : l.getD a z54 = l[a] := by rw [List.getD_eq_getElem?_getD, List.getElem?_eq_getElem (by omega)]; rfl
      have eb : l.getD b z54 = l[b] := by rw [List.getD_eq_getElem?_getD, List.getElem?_eq_getElem hbn]; rfl
      rw [ea] at h
      rw [eb]
      have h2 := HS.out a b (by omega) hbn hab
      have h3 := of_decide_eq_true h
      exact decide_eq_true (by omega))
  rw [← hw2] at hb2 ⊢
  have HB2 := Aside0.mk hb2
  clear hb1 hb2 k1 k2 hw2
  refine hsr.mono ?_
  rintro e w3 ⟨k, rfl, ⟨h1, h2, h3⟩, hb⟩
  have HB3 := Aside0.mk (below_kept HB2.out hb)
  have hg : ∀ (i : Nat) (hi : i < l.length), l.getD i z54 = l[i] := fun i hi => by rw [List.getD_eq_getElem?_getD, List.getElem?_eq_getElem hi]; rfl
  have HE := Aside0.mk (HK.out k h1 (fun i hi hik => by
    have := h2 i hik
    rw [hg i hi] at this
    have := of_decide_eq_false this
    omega) (fun i hi hik => by
    have := h3 i hik hi
    rw [hg i hi] at this
    exact of_decide_eq_true this))
  clear hsr hb h1 h2 h3 hg
  go_wp2
  go_ret
  exact ⟨by rw [HE.out]; rfl, HB3.out⟩
set_option maxHeartbeats 1600000 in
set_option maxRecDepth 100000 in
theorem runtil_c (A : Option Addr) (c : Nat) (l : List S54) (t : Int) (w : World) (hr : Kd.C k54 w A l.length l) (hl : l.length < 1000000000) :
    Calls Try.prog 15 #[.slice A l.length c, .int .i64 t] w fun e w' => e = .returned (.int .i64 (countT t l : Int)) ∧ Below w.heap.size w w' := by
  have HR := Aside0.mk hr
  have hl2 : (l.length : Int) < 1000000000 := by omega
  have hu := Try.underlying54
  clear hr hl
  go_enter Try.func15, Try.ntmps15
  go_wp2
  go_loopg [5, 6] l.length (fun g v5 v6 W => ∃ (i m : Nat), v6 = .int .i64 (i : Int) ∧ v5 = .int .i64 (m : Int) ∧ Aside0 (g + i = l.length) ∧ m ≤ i ∧ Aside0 (countT t (l.take i) = m) ∧ Aside0 (Below w.heap.size w W))
  case atStart => exact ⟨0, 0, rfl, rfl, ⟨by omega⟩, Nat.le_refl _, ⟨rfl⟩, ⟨Below.refl _ _⟩⟩
  case round =>
    obtain ⟨i, m, rfl, rfl, HG, hmi, HM, HB⟩ := hrel
    have hgi := HG.out
    by_cases hi : i < l.length
    · obtain ⟨g0, rfl⟩ : ∃ g0, gk = g0 + 1 := ⟨gk - 1, by omega⟩
      obtain ⟨ad, ead, hc0, hrest⟩ := at_ev (Kd.C_below HR.out HB.out) i hi
      clear hrest
      have htk : l.take (i + 1) = l.take i ++ [l[i]] := List.take_succ_eq_append_getElem hi
      have hct : countT t (l.take (i + 1)) = m + if l[i].f0 ≤ t then 1 else 0 := by
        rw [htk]
        unfold countT
        rw [List.countP_append, List.countP_singleton]
        have := HM.out
        unfold countT at this
        rw [this]
        simp
      obtain ⟨y, hy⟩ : ∃ y, y = l[i].f0 := ⟨_, rfl⟩
      rw [← hy] at hc0 hct
      have HCT := Aside0.mk hct
      have HMI := Aside0.mk hmi
      have hil : (i : Int) < l.length := by omega
      have hml : (m : Int) ≤ 1000000000 := by omega
      subst ead
      clear hy hct htk hgi hi hmi
      by_cases hyt : y ≤ t
      · have HYT := Aside0.mk hyt
        go_wp2_with fail
        go_roundg g0
        case measure => omega
        case rel => exact ⟨i + 1, m + 1, by first | go_num | (congr 1; unfold wrap64; omega), by first | go_num | (congr 1; unfold wrap64; omega), ⟨by have := HG.out; omega⟩, by have := HMI.out; omega, ⟨by rw [HCT.out, if_pos HYT.out]⟩, HB⟩
      · have HYT := Aside0.mk hyt
        have hyt2 : decide (y ≤ t) = false := decide_eq_false hyt
        clear hyt
        go_wp2_with fail
        go_roundg g0
        case measure => omega
        case rel => exact ⟨i + 1, m, by first | go_num | (congr 1; unfold wrap64; omega), rfl, ⟨by have := HG.out; omega⟩, by have := HMI.out; omega, ⟨by rw [HCT.out, if_neg (by have := HYT.out; omega)]; rfl⟩, HB⟩
    · have hil : (l.length : Int) ≤ i := by omega
      have hm := HM.out
      rw [List.take_of_length_le (by omega)] at hm
      have HMM := Aside0.mk hm
      clear hm hgi HM
      go_wp2
      go_ret
      exact ⟨by rw [HMM.out]; rfl, HB.out⟩
end Go.Proofs.Ytmongghhagbokaa.EvUntil
