/- What event.Take reads, as a contract; no condition but the sizes that it states. -/
import Derived.Test.YtbofeaclgnekkaaReader3
import Derived.Test.YtbofeaclgnekkaaTameC
namespace Go.Proofs.Ytbofeaclgnekkaa.EvTake
open Go.Proofs.Ytbofeaclgnekkaa.Reader (numR lim1 textR numR_pos numR_bad)
open Go.RowKit Go.Proofs.Ytbofeaclgnekkaa.Kit Go.Proofs.Ytbofeaclgnekkaa.Plain Go.Proofs.Ytbofeaclgnekkaa.Mine Go.Proofs.Ytbofeaclgnekkaa.Vary Go.Proofs.Ytbofeaclgnekkaa.Reader3 Go.Proofs.Ytbofeaclgnekkaa.Event Go.Proofs.YtbofeaclgnekkaaW.PrintWords Go.Proofs.YtbofeaclgnekkaaW.PrintLast Go.Proofs.YtbofeaclgnekkaaW.PrintMore
open Go.Proofs.Ytbofeaclgnekkaa.PEventRights (S25 z25 k25 k25_open k25_mk k25_mkM rd_T25 at_T25 info25)
set_option linter.unusedVariables false
set_option linter.unusedSimpArgs false
def takeX (fr : Int) (b : List Int) : S25 × List Int × Bool :=
  if (numR b false 4).1 = 2 then
    (⟨fr + (numR (numR b false 4).2.1 (numR b false 4).2.2 4611686018427387904).1, 2, ⟨#[]⟩, (numR (numR (numR b false 4).2.1 (numR b false 4).2.2 4611686018427387904).2.1 (numR (numR b false 4).2.1 (numR b false 4).2.2 4611686018427387904).2.2 1001).1,
      (numR (numR (numR (numR b false 4).2.1 (numR b false 4).2.2 4611686018427387904).2.1 (numR (numR b false 4).2.1 (numR b false 4).2.2 4611686018427387904).2.2 1001).2.1 (numR (numR (numR b false 4).2.1 (numR b false 4).2.2 4611686018427387904).2.1 (numR (numR b false 4).2.1 (numR b false 4).2.2 4611686018427387904).2.2 1001).2.2 1001).1⟩,
     (numR (numR (numR (numR b false 4).2.1 (numR b false 4).2.2 4611686018427387904).2.1 (numR (numR b false 4).2.1 (numR b false 4).2.2 4611686018427387904).2.2 1001).2.1 (numR (numR (numR b false 4).2.1 (numR b false 4).2.2 4611686018427387904).2.1 (numR (numR b false 4).2.1 (numR b false 4).2.2 4611686018427387904).2.2 1001).2.2 1001).2)
  else
    (⟨fr + (numR (numR b false 4).2.1 (numR b false 4).2.2 4611686018427387904).1, (numR b false 4).1, strOfNums (textR (numR (numR b false 4).2.1 (numR b false 4).2.2 4611686018427387904).2.1 (numR (numR b false 4).2.1 (numR b false 4).2.2 4611686018427387904).2.2 400).1, 0, 0⟩,
     (textR (numR (numR b false 4).2.1 (numR b false 4).2.2 4611686018427387904).2.1 (numR (numR b false 4).2.1 (numR b false 4).2.2 4611686018427387904).2.2 400).2)
def takeOk (fr : Int) (b : List Int) : Bool := !(takeX fr b).2.2 && right (takeX fr b).1
/-- What is left is of the bytes that were there. -/
theorem numR_left (b : List Int) (bad : Bool) (L : Int) : (∀ x ∈ (numR b bad L).2.1, x ∈ b) ∧ (numR b bad L).2.1.length ≤ b.length := by
  unfold numR
  split
  · exact ⟨fun _ h => h, Nat.le_refl _⟩
  · exact ⟨fun _ h => List.mem_of_mem_drop h, by rw [List.length_drop]; omega⟩
theorem numR_below (b : List Int) (bad : Bool) (L : Int) (hL : 0 < L) : 0 ≤ (numR b bad L).1 ∧ (numR b bad L).1 < L := by
  unfold numR
  split
  · exact ⟨Int.le_refl _, hL⟩
  · rename_i h
    exact ⟨by simp, by simp only [not_or] at h; have := h.2.2.2; simp only; omega⟩
theorem rs_set {w0 w : World} {g g2 j : Nat} {v : Value} {b : List Int} {bad : Bool} (h : RS w0 w g b bad) (hg : w0.heap.size ≤ g2) (hn : g ≠ g2) : RS w0 (w.setCell ⟨g2, j, none⟩ v) g b bad := by
  obtain ⟨h1, h2, A, c, h3, h4, h5⟩ := h
  exact ⟨h1, below_set h2 hg, A, c, (Below.heap_setCell w ⟨g2, j, none⟩ v g hn).trans h3, h4, h5⟩
theorem rs_lt {w0 w : World} {g : Nat} {b : List Int} {bad : Bool} (h : RS w0 w g b bad) : g < w.heap.size ∧ w0.heap.size ≤ g ∧ w0.heap.size ≤ w.heap.size := by
  obtain ⟨h1, h2, A, c, h3, h4, h5⟩ := h
  exact ⟨blk_lt h3, h1, h2.size⟩
/-- The Reader, the result's block and the event's block, as the walk leaves them. -/
def ST (w0 w W : World) (g g4 g6 : Nat) (cs : Array Value) (b : List Int) (bad : Bool) : Prop :=
  RS w0 W g b bad ∧ KeepBut w W g none ∧ W.heap[g4]? = some (.cells #[.int .i64 0, .int .i64 0, .string ⟨#[]⟩, .int .i64 0, .int .i64 0] 25 (0, 0)) ∧ W.heap[g6]? = some (.cells cs 25 (0, 0)) ∧ g < w.heap.size ∧ w.heap.size ≤ g4 ∧ g4 < g6 ∧ w0.heap.size ≤ w.heap.size
theorem st_num {w0 w W W' : World} {g g4 g6 : Nat} {cs : Array Value} {b b' : List Int} {bad bad' : Bool} (h : ST w0 w W g g4 g6 cs b bad) (hr : RS w0 W' g b' bad') (hk : KeepBut W W' g none) : ST w0 w W' g g4 g6 cs b' bad' := by
  obtain ⟨h1, h2, h3, h4, h5, h6, h7, h8⟩ := h
  exact ⟨hr, h2.trans hk (.inl rfl), hk.blk h3 (by omega) (by simp), hk.blk h4 (by omega) (by simp), h5, h6, h7, h8⟩
theorem st_set {w0 w W : World} {g g4 g6 : Nat} {cs cs' : Array Value} {b : List Int} {bad : Bool} (h : ST w0 w W g g4 g6 cs b bad) (j : Nat) (v : Value) (hj : cs.setIfInBounds j v = cs') : ST w0 w (W.setCell ⟨g6, j, none⟩ v) g g4 g6 cs' b bad := by
  obtain ⟨h1, h2, h3, h4, h5, h6, h7, h8⟩ := h
  refine ⟨rs_set h1 (by omega) (by omega), Kept.keep h2 (Kept.setCell (Kept.refl W (fun k => k = g6)) (.inl rfl) v) (fun k hk => by subst hk; omega), (Below.heap_setCell W ⟨g6, j, none⟩ v g4 (by show g4 ≠ g6; omega)).trans h3, ?_, h5, h6, h7, h8⟩
  exact blk_put h4 j v hj
theorem st_below {w0 w W W' : World} {g g4 g6 : Nat} {cs : Array Value} {b : List Int} {bad : Bool} (h : ST w0 w W g g4 g6 cs b bad) (hb : Below W.heap.size W W') : ST w0 w W' g g4 g6 cs b bad :=
  st_num h (rs_below h.1 hb) (KeepBut.of_below hb g none)
theorem st_cells {w0 w W : World} {g g4 g6 : Nat} {v0 v1 v2 v3 v4 : Value} {b : List Int} {bad : Bool} (h : ST w0 w W g g4 g6 #[v0, v1, v2, v3, v4] b bad) : W.cell? ⟨g6, 0, none⟩ = some v0 ∧ W.cell? ⟨g6, 1, none⟩ = some v1 ∧ W.cell? ⟨g6, 2, none⟩ = some v2 ∧ W.cell? ⟨g6, 3, none⟩ = some v3 ∧ W.cell? ⟨g6, 4, none⟩ = some v4 ∧
    W.frozen? ⟨g6, 0, none⟩ = false ∧ W.frozen? ⟨g6, 1, none⟩ = false ∧ W.frozen? ⟨g6, 2, none⟩ = false ∧ W.frozen? ⟨g6, 3, none⟩ = false ∧ W.frozen? ⟨g6, 4, none⟩ = false := by
  obtain ⟨h1, h2, h3, h4, h5, h6, h7, h8⟩ := h
  exact ⟨(blk_cell h4 0).trans rfl, (blk_cell h4 1).trans rfl, (blk_cell h4 2).trans rfl, (blk_cell h4 3).trans rfl, (blk_cell h4 4).trans rfl, blk_frozen h4 0, blk_frozen h4 1, blk_frozen h4 2, blk_frozen h4 3, blk_frozen h4 4⟩
theorem st_res {w0 w W : World} {g g4 g6 : Nat} {cs : Array Value} {b : List Int} {bad : Bool} (h : ST w0 w W g g4 g6 cs b bad) : W.cell? ⟨g4, 0, none⟩ = some (.int .i64 0) ∧ W.cell? ⟨g4, 1, none⟩ = some (.int .i64 0) ∧ W.cell? ⟨g4, 2, none⟩ = some (.string ⟨#[]⟩) ∧ W.cell? ⟨g4, 3, none⟩ = some (.int .i64 0) ∧ W.cell? ⟨g4, 4, none⟩ = some (.int .i64 0) ∧
    W.frozen? ⟨g4, 0, none⟩ = false ∧ W.frozen? ⟨g4, 1, none⟩ = false ∧ W.frozen? ⟨g4, 2, none⟩ = false ∧ W.frozen? ⟨g4, 3, none⟩ = false ∧ W.frozen? ⟨g4, 4, none⟩ = false := by
  obtain ⟨h1, h2, h4, h3, h5, h6, h7, h8⟩ := h
  exact ⟨(blk_cell h4 0).trans rfl, (blk_cell h4 1).trans rfl, (blk_cell h4 2).trans rfl, (blk_cell h4 3).trans rfl, (blk_cell h4 4).trans rfl, blk_frozen h4 0, blk_frozen h4 1, blk_frozen h4 2, blk_frozen h4 3, blk_frozen h4 4⟩
/-- The result's block set, field by field: what stands there, and what is as it was. -/
theorem st_ret {w0 w W : World} {g g4 g6 : Nat} {cs : Array Value} {b : List Int} {bad : Bool} (h : ST w0 w W g g4 g6 cs b bad) (v0 v1 v2 v3 v4 : Value) :
    RS w0 (((((W.setCell ⟨g4, 0, none⟩ v0).setCell ⟨g4, 1, none⟩ v1).setCell ⟨g4, 2, none⟩ v2).setCell ⟨g4, 3, none⟩ v3).setCell ⟨g4, 4, none⟩ v4) g b bad ∧ KeepBut w (((((W.setCell ⟨g4, 0, none⟩ v0).setCell ⟨g4, 1, none⟩ v1).setCell ⟨g4, 2, none⟩ v2).setCell ⟨g4, 3, none⟩ v3).setCell ⟨g4, 4, none⟩ v4) g none ∧
    (((((W.setCell ⟨g4, 0, none⟩ v0).setCell ⟨g4, 1, none⟩ v1).setCell ⟨g4, 2, none⟩ v2).setCell ⟨g4, 3, none⟩ v3).setCell ⟨g4, 4, none⟩ v4).heap[g4]? = some (.cells #[v0, v1, v2, v3, v4] 25 (0, 0)) := by
  obtain ⟨h1, h2, h3, h4, h5, h6, h7, h8⟩ := h
  have hk : ∀ W2 (j : Nat) (v : Value), KeepBut w W2 g none → KeepBut w (W2.setCell ⟨g4, j, none⟩ v) g none := fun W2 j v h => Kept.keep h (Kept.setCell (Kept.refl W2 (fun k => k = g4)) (.inl rfl) v) (fun k hk => by subst hk; omega)
  have hn : g ≠ g4 := by omega
  have hg : w0.heap.size ≤ g4 := by omega
  exact ⟨rs_set (rs_set (rs_set (rs_set (rs_set h1 hg hn) hg hn) hg hn) hg hn) hg hn, hk _ _ _ (hk _ _ _ (hk _ _ _ (hk _ _ _ (hk _ _ _ h2)))), blk_put (blk_put (blk_put (blk_put (blk_put h3 0 v0 rfl) 1 v1 rfl) 2 v2 rfl) 3 v3 rfl) 4 v4 rfl⟩
def TakePost (w0 w : World) (g : Nat) (x : S25) (b : List Int) (bad : Bool) (ok : Bool) (e : Ending) (w' : World) : Prop :=
  e = .returned (.tuple #[ev (if ok then x else z25), .bool ok]) ∧ RS w0 w' g b bad ∧ KeepBut w w' g none
set_option maxHeartbeats 3200000 in
set_option maxRecDepth 100000 in
theorem take_raw (w0 w : World) (g : Nat) (b : List Int) (fr : Int) (h : RS w0 w g b false) (hb : ∀ x ∈ b, 0 ≤ x ∧ x < 256) (hs : b.length < 1000000000) (h0 : 0 ≤ fr) (h1 : fr < 4611686018427387904) :
    Calls Try.prog 20 #[.pointer (some ⟨g, 0, none⟩), .int .i64 fr] w (TakePost w0 w g (takeX fr b).1 (takeX fr b).2.1 (takeX fr b).2.2 (takeOk fr b)) := by
  obtain ⟨k, hk⟩ : ∃ k, k = (numR b false 4).1 := ⟨_, rfl⟩
  obtain ⟨b1, hb1⟩ : ∃ b1, b1 = (numR b false 4).2.1 := ⟨_, rfl⟩
  obtain ⟨d1, hd1⟩ : ∃ d1, d1 = (numR b false 4).2.2 := ⟨_, rfl⟩
  obtain ⟨dt, hdt⟩ : ∃ dt, dt = (numR b1 d1 4611686018427387904).1 := ⟨_, rfl⟩
  obtain ⟨b2, hb2⟩ : ∃ b2, b2 = (numR b1 d1 4611686018427387904).2.1 := ⟨_, rfl⟩
  obtain ⟨d2, hd2⟩ : ∃ d2, d2 = (numR b1 d1 4611686018427387904).2.2 := ⟨_, rfl⟩
  have l1 := numR_left b false 4
  rw [← hb1] at l1
  have l2 := numR_left b1 d1 4611686018427387904
  rw [← hb2] at l2
  have hbb1 : ∀ x ∈ b1, 0 ≤ x ∧ x < 256 := fun x hx => hb x (l1.1 x hx)
  have hbb2 : ∀ x ∈ b2, 0 ≤ x ∧ x < 256 := fun x hx => hbb1 x (l2.1 x hx)
  have hdtb := numR_below b1 d1 4611686018427387904 (by omega)
  have hkb := numR_below b false 4 (by omega)
  rw [← hdt] at hdtb
  rw [← hk] at hkb
  have hsum : wrap64 (fr + dt) = fr + dt := by unfold wrap64; omega
  have HX := Aside0.mk (show takeX fr b = if k = 2 then (⟨fr + dt, 2, ⟨#[]⟩, (numR b2 d2 1001).1, (numR (numR b2 d2 1001).2.1 (numR b2 d2 1001).2.2 1001).1⟩, (numR (numR b2 d2 1001).2.1 (numR b2 d2 1001).2.2 1001).2) else (⟨fr + dt, k, strOfNums (textR b2 d2 400).1, 0, 0⟩, (textR b2 d2 400).2) from by rw [hk, hdt, hb2, hd2, hb1, hd1]; rfl)
  obtain ⟨tt, htt⟩ : ∃ tt, tt = fr + dt := ⟨_, rfl⟩
  rw [← htt] at HX
  have HSUM := Aside0.mk (hsum.trans htt.symm)
  have HN1 := Aside0.mk (fun W (h : RS w0 W g b false) => num_c w0 W g b false 4 h hb (by omega) (by omega))
  have HN2 := Aside0.mk (fun W (h : RS w0 W g b1 d1) => num_c w0 W g b1 d1 4611686018427387904 h hbb1 (by omega) (by omega))
  unfold NumPost at HN1 HN2
  rw [← hk, ← hb1, ← hd1] at HN1
  rw [← hdt, ← hb2, ← hd2] at HN2
  have HBB2 := Aside0.mk hbb2
  have HBL2 := Aside0.mk (show b2.length < 1000000000 from by omega)
  have HRS := Aside0.mk h
  have HLT := Aside0.mk (rs_lt h)
  have hu := Try.underlying25
  have HOK := Aside0.mk (show takeOk fr b = (!(takeX fr b).2.2 && right (takeX fr b).1) from rfl)
  obtain ⟨ok, hok⟩ : ∃ ok, ok = takeOk fr b := ⟨_, rfl⟩
  obtain ⟨X, hX⟩ : ∃ X, X = takeX fr b := ⟨_, rfl⟩
  rw [← hok, ← hX] at HOK ⊢
  rw [← hX] at HX
  clear h hb hs h0 h1 hk hb1 hd1 hdt hb2 hd2 l1 l2 hbb1 hbb2 hdtb hkb hsum htt hok hX
  go_enter Try.func20, Try.ntmps20
  go_upto_region 1 with fail
  obtain ⟨w1, hw1⟩ : ∃ w1, w1 = w.alloc (.cells #[.int .i64 0, .int .i64 0, .string ⟨#[]⟩, .int .i64 0, .int .i64 0] 25) := ⟨_, rfl⟩
  have hb1 : Below w.heap.size w w1 := by rw [hw1]; exact below_alloc (Below.refl _ _) _
  have hh4 : w1.heap[w.heap.size]? = some (.cells #[.int .i64 0, .int .i64 0, .string ⟨#[]⟩, .int .i64 0, .int .i64 0] 25 (0, 0)) := by rw [hw1]; exact blk_new w _
  rw [← hw1]
  have HR1 := Aside0.mk (rs_below HRS.out hb1)
  have HK1 := Aside0.mk (KeepBut.of_below hb1 g none)
  obtain ⟨g4, hg4⟩ : ∃ g4, g4 = w.heap.size := ⟨_, rfl⟩
  rw [← hg4] at hh4 ⊢
  have HG4 := Aside0.mk hg4
  have HH4 := Aside0.mk hh4
  clear hw1 hb1 hh4 hg4
  go_wp2_with fail
  refine (HN1.out w1 HR1.out).mono ?_
  rintro e w2 ⟨rfl, hr, hk⟩
  have HR2 := Aside0.mk hr
  have HK2 := Aside0.mk (HK1.out.trans hk (.inl rfl))
  have HH2 := Aside0.mk (hk.blk HH4.out (by have := HLT.out; have := HG4.out; omega) (by simp))
  clear hr hk HN1
  go_upto_region 2 with fail
  obtain ⟨w3, hw3⟩ : ∃ w3, w3 = w2.alloc (.cells #[.int .i64 0, .int .i64 k, .string ⟨#[]⟩, .int .i64 0, .int .i64 0] 25) := ⟨_, rfl⟩
  obtain ⟨g6, hg6⟩ : ∃ g6, g6 = w2.heap.size := ⟨_, rfl⟩
  have hb3 : Below w2.heap.size w2 w3 := by rw [hw3]; exact below_alloc (Below.refl _ _) _
  have hst : ST w0 w w3 g g4 g6 #[.int .i64 0, .int .i64 k, .string ⟨#[]⟩, .int .i64 0, .int .i64 0] b1 d1 := by
    refine ⟨rs_below HR2.out hb3, HK2.out.trans (KeepBut.of_below hb3 g none) (.inl rfl), blk_below HH2.out hb3, by rw [hw3, hg6]; exact blk_new w2 _, HLT.out.1, by rw [HG4.out]; exact Nat.le_refl _, ?_, HLT.out.2.2⟩
    have := blk_lt HH2.out
    omega
  rw [← hw3, ← hg6]
  have HS3 := Aside0.mk hst
  clear hw3 hg6 hb3 hst HR1 HK1 HH4 HR2 HK2 HH2
  go_wp2_with fail
  refine (HN2.out w3 HS3.out.1).mono ?_
  rintro e w4 ⟨rfl, hr, hk⟩
  have HS4 := Aside0.mk (st_num HS3.out hr hk)
  clear hr hk HN2 HS3
  obtain ⟨c0, c1, c2, c3, c4, f0, f1, f2, f3, f4⟩ := st_cells HS4.out
  have hsum := HSUM.out
  go_upto_region 3 with fail
  rw [HSUM.out]
  have HS5 := Aside0.mk (st_set HS4.out 0 (.int .i64 tt) rfl)
  clear c0 c1 c2 c3 c4 f0 f1 f2 f3 f4 hsum HS4
  obtain ⟨w5, hw5⟩ : ∃ w5, w5 = w4.setCell ⟨g6, 0, none⟩ (.int .i64 tt) := ⟨_, rfl⟩
  rw [← hw5] at HS5 ⊢
  clear hw5
  obtain ⟨c0, c1, c2, c3, c4, f0, f1, f2, f3, f4⟩ := st_cells HS5.out
  go_upto_if 17 with fail
  go_cut [] (fun W => ∃ (kk : Int) (dd : ByteArray) (wa ha : Int) (bF : List Int) (dF : Bool), Aside0 (ST w0 w W g g4 g6 #[.int .i64 tt, .int .i64 kk, .string dd, .int .i64 wa, .int .i64 ha] bF dF) ∧ Aside0 (X = ((⟨tt, kk, dd, wa, ha⟩ : S25), bF, dF)))
  case first =>
    by_cases hk : k = 2
    · subst hk
      have hx := HX.out
      rw [if_pos rfl] at hx
      have hbb2 := HBB2.out
      have hbl2 := HBL2.out
      have N3 := num_c w0 w5 g b2 d2 1001 HS5.out.1 hbb2 (by omega) (by omega)
      have l3 := numR_left b2 d2 1001
      unfold NumPost at N3
      obtain ⟨a3, ha3⟩ : ∃ a3, a3 = (numR b2 d2 1001).1 := ⟨_, rfl⟩
      obtain ⟨b3, hb3⟩ : ∃ b3, b3 = (numR b2 d2 1001).2.1 := ⟨_, rfl⟩
      obtain ⟨d3, hd3⟩ : ∃ d3, d3 = (numR b2 d2 1001).2.2 := ⟨_, rfl⟩
      rw [← ha3, ← hb3, ← hd3] at N3 hx
      rw [← hb3] at l3
      have N4 := fun W (h : RS w0 W g b3 d3) => num_c w0 W g b3 d3 1001 h (fun x hx => hbb2 x (l3.1 x hx)) (by omega) (by omega)
      unfold NumPost at N4
      obtain ⟨a4, ha4⟩ : ∃ a4, a4 = (numR b3 d3 1001).1 := ⟨_, rfl⟩
      obtain ⟨b4, hb4⟩ : ∃ b4, b4 = (numR b3 d3 1001).2.1 := ⟨_, rfl⟩
      obtain ⟨d4, hd4⟩ : ∃ d4, d4 = (numR b3 d3 1001).2.2 := ⟨_, rfl⟩
      rw [show (numR b3 d3 1001).2 = (b4, d4) from by rw [hb4, hd4]] at hx
      rw [← ha4] at hx
      rw [← ha4, ← hb4, ← hd4] at N4
      have HXX := Aside0.mk hx
      have HN3 := Aside0.mk N3
      have HN4 := Aside0.mk N4
      clear hx hbb2 hbl2 N3 l3 ha3 hb3 hd3 N4 ha4 hb4 hd4 HX HOK
      go_wp2_with fail
      refine HN3.out.mono ?_
      rintro e w6 ⟨rfl, hr, hk⟩
      have HS6 := Aside0.mk (st_num HS5.out hr hk)
      clear hr hk HN3 HS5 c0 c1 c2 c3 c4 f0 f1 f2 f3 f4
      go_wp2_with fail
      refine (HN4.out w6 HS6.out.1).mono ?_
      rintro e w7 ⟨rfl, hr, hk⟩
      have HS7 := Aside0.mk (st_num HS6.out hr hk)
      clear hr hk HN4 HS6
      obtain ⟨c0, c1, c2, c3, c4, f0, f1, f2, f3, f4⟩ := st_cells HS7.out
      go_wp2_with fail
      go_meet
      case rel => exact ⟨2, ⟨#[]⟩, a3, a4, b4, d4, ⟨st_set (st_set HS7.out 3 (.int .i64 a3) rfl) 4 (.int .i64 a4) rfl⟩, HXX⟩
    · have hx := HX.out
      rw [if_neg hk] at hx
      have hk2 : ((k : Int) == 2) = false := beq_eq_false_iff_ne.mpr hk
      have N3 := text_c w0 w5 g b2 d2 400 HS5.out.1 HBB2.out (by have := HBL2.out; omega) (by omega)
      unfold TextPost at N3
      obtain ⟨s3, hs3⟩ : ∃ s3, s3 = strOfNums (textR b2 d2 400).1 := ⟨_, rfl⟩
      obtain ⟨b3, hb3⟩ : ∃ b3, b3 = (textR b2 d2 400).2.1 := ⟨_, rfl⟩
      obtain ⟨d3, hd3⟩ : ∃ d3, d3 = (textR b2 d2 400).2.2 := ⟨_, rfl⟩
      rw [show (textR b2 d2 400).2 = (b3, d3) from by rw [hb3, hd3]] at hx
      rw [← hs3] at hx
      rw [← hs3, ← hb3, ← hd3] at N3
      have HXX := Aside0.mk hx
      have HN3 := Aside0.mk N3
      clear hx N3 hs3 hb3 hd3 HX HOK hk
      go_wp2_with fail
      refine HN3.out.mono ?_
      rintro e w6 ⟨rfl, hr, hk⟩
      have HS6 := Aside0.mk (st_num HS5.out hr hk)
      clear hr hk HN3 HS5 c0 c1 c2 c3 c4 f0 f1 f2 f3 f4
      obtain ⟨c0, c1, c2, c3, c4, f0, f1, f2, f3, f4⟩ := st_cells HS6.out
      go_wp2_with fail
      go_meet
      case rel => exact ⟨k, s3, 0, 0, b3, d3, ⟨st_set HS6.out 2 (.string s3) rfl⟩, HXX⟩
  case rest =>
    obtain ⟨kk, dd, wa, ha, bF, dF, HS6, HXX⟩ := hcut
    clear c0 c1 c2 c3 c4 f0 f1 f2 f3 f4 HS5 HX
    obtain rfl : X = _ := HXX.out
    have hok := HOK.out
    have HOKK := Aside0.mk (show ok = (!dF && rightB tt kk dd.size wa ha) from hok)
    have hg := good_c w0 wc g bF dF HS6.out.1
    have HRT := Aside0.mk (fun W => right_raw tt kk dd wa ha W)
    clear hok HOK HXX
    obtain ⟨r, hr⟩ : ∃ r, r = rightB tt kk dd.size wa ha := ⟨_, rfl⟩
    rw [← hr] at HOKK HRT
    have HGD := Aside0.mk hg
    clear hr hg
    have hres : ∀ (x : S25), (ok = true → x = ⟨tt, kk, dd, wa, ha⟩) → (ok = false → x = z25) → x = if ok = true then (⟨tt, kk, dd, wa, ha⟩ : S25) else z25 := by
      intro x h1 h2
      cases ok with
      | true => rw [if_pos rfl]; exact h1 rfl
      | false => rw [if_neg (by simp)]; exact h2 rfl
    have HRES := Aside0.mk hres
    clear hres
    cases dF with
    | true =>
      go_wp2_with fail
      refine HGD.out.mono ?_
      rintro e w7 ⟨rfl, hb⟩
      have HS7 := Aside0.mk (st_below HS6.out hb)
      clear hb HGD HRT
      obtain ⟨c0, c1, c2, c3, c4, f0, f1, f2, f3, f4⟩ := st_res HS7.out
      have hok : ok = false := HOKK.out
      subst hok
      go_wp2
      obtain ⟨h1, h2, h3⟩ := st_ret HS7.out (.int .i64 0) (.int .i64 0) (.string ⟨#[]⟩) (.int .i64 0) (.int .i64 0)
      exact bodyPost_ret (results_ct Try.results20 _ _ g4 25 #[.int .i64 0, .int .i64 0, .string ⟨#[]⟩, .int .i64 0, .int .i64 0] (0, 0) _ rfl h3 hu rfl (by kernel_rfl)) rfl ⟨rfl, h1, h2⟩
    | false =>
      have hok : ok = r := HOKK.out
      subst hok
      go_wp2_with fail
      refine HGD.out.mono ?_
      rintro e w7 ⟨rfl, hb⟩
      have HS7 := Aside0.mk (st_below HS6.out hb)
      obtain ⟨c0, c1, c2, c3, c4, f0, f1, f2, f3, f4⟩ := st_cells HS7.out
      clear hb HGD
      go_wp2_with fail
      refine (HRT.out w7).mono ?_
      rintro e w8 ⟨rfl, hb⟩
      have HS8 := Aside0.mk (st_below HS7.out hb)
      clear c0 c1 c2 c3 c4 f0 f1 f2 f3 f4 hb HRT
      cases ok with
      | false =>
        obtain ⟨c0, c1, c2, c3, c4, f0, f1, f2, f3, f4⟩ := st_res HS8.out
        go_wp2
        obtain ⟨h1, h2, h3⟩ := st_ret HS8.out (.int .i64 0) (.int .i64 0) (.string ⟨#[]⟩) (.int .i64 0) (.int .i64 0)
        exact bodyPost_ret (results_ct Try.results20 _ _ g4 25 #[.int .i64 0, .int .i64 0, .string ⟨#[]⟩, .int .i64 0, .int .i64 0] (0, 0) _ rfl h3 hu rfl (by kernel_rfl)) rfl ⟨rfl, h1, h2⟩
      | true =>
        obtain ⟨a0, a1, a2, a3, a4, _, _, _, _, _⟩ := st_cells HS8.out
        obtain ⟨c0, c1, c2, c3, c4, f0, f1, f2, f3, f4⟩ := st_res HS8.out
        go_wp2
        obtain ⟨h1, h2, h3⟩ := st_ret HS8.out (.int .i64 tt) (.int .i64 kk) (.string dd) (.int .i64 wa) (.int .i64 ha)
        exact bodyPost_ret (results_ct Try.results20 _ _ g4 25 #[.int .i64 tt, .int .i64 kk, .string dd, .int .i64 wa, .int .i64 ha] (0, 0) _ rfl h3 hu rfl (by kernel_rfl)) rfl ⟨rfl, h1, h2⟩
end Go.Proofs.Ytbofeaclgnekkaa.EvTake
