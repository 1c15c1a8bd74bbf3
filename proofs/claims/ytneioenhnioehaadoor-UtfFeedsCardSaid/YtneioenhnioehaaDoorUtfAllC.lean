/- utf.All, and feeding byte by byte, as contracts: the runes of all bytes. -/
import Derived.Test.YtneioenhnioehaaDoorUtfFeed
import Derived.Test.YtneioenhnioehaaDoorUtfRunes
namespace Go.Proofs.YtneioenhnioehaaDoor.UtfAllC
open Go.RowKit Go.Proofs.YtneioenhnioehaaDoor.Kit Go.Proofs.YtneioenhnioehaaDoor.Plain Go.Proofs.YtneioenhnioehaaDoor.Mine Go.Proofs.YtneioenhnioehaaDoor.UtfPure Go.Proofs.YtneioenhnioehaaDoor.UtfFull Go.Proofs.YtneioenhnioehaaDoor.UtfDec Go.Proofs.YtneioenhnioehaaDoor.UtfFeed Go.Proofs.YtneioenhnioehaaDoor.UtfRunes Go.Proofs.YtneioenhnioehaaDoorW.PrintWords Go.Proofs.YtneioenhnioehaaDoorW.PrintLast Go.Proofs.YtneioenhnioehaaDoorW.PrintMore
open Go.Lib (firstT accLo accHi Utf8Tabs firstT_cases slowN decodeN)
set_option linter.unusedVariables false
set_option linter.unusedSimpArgs false
def feedAll : List Int → List Int → List Int × List Int
  | p, [] => ([], p)
  | p, c :: s => ((UtfPure.drain (p ++ [c])).1 ++ (feedAll (UtfPure.drain (p ++ [c])).2 s).1, (feedAll (UtfPure.drain (p ++ [c])).2 s).2)
theorem feedAll_cons (p : List Int) (c : Int) (s : List Int) : feedAll p (c :: s) = ((UtfPure.drain (p ++ [c])).1 ++ (feedAll (UtfPure.drain (p ++ [c])).2 s).1, (feedAll (UtfPure.drain (p ++ [c])).2 s).2) := rfl
theorem feedAll_append (s t : List Int) : ∀ p, feedAll p (s ++ t) = ((feedAll p s).1 ++ (feedAll (feedAll p s).2 t).1, (feedAll (feedAll p s).2 t).2) := by
  induction s with
  | nil => intro p; simp [feedAll]
  | cons c s ih => intro p; rw [List.cons_append, feedAll_cons, feedAll_cons, ih]; simp only [List.append_assoc]
/-- What may be under way. -/
def Part (p : List Int) : Prop := Bytes p ∧ (p = [] ∨ full p = false) ∧ p.length ≤ 3
theorem part_nil : Part [] := ⟨fun x hx => by simp at hx, .inl rfl, by simp⟩
theorem part_step {p : List Int} (h : Part p) {c : Int} (hc : 0 ≤ c ∧ c < 256) : Part (UtfPure.drain (p ++ [c])).2 := by
  have hb : Bytes (p ++ [c]) := fun x hx => (List.mem_append.1 hx).elim (h.1 x) (fun h => by simp at h; omega)
  obtain ⟨h1, ⟨j, h2, _⟩, _⟩ := drain_is hb
  have hb2 : Bytes (UtfPure.drain (p ++ [c])).2 := by rw [h2]; exact hb.drop j
  exact ⟨hb2, h1, (part_runes hb2 h1).1⟩
theorem feedAll_part (s : List Int) (hs : Bytes s) : ∀ p, Part p → Part (feedAll p s).2 := by
  induction s with
  | nil => intro p h; exact h
  | cons c s ih => intro p h; rw [feedAll_cons]; exact ih (fun x hx => hs x (by simp [hx])) _ (part_step h (hs c (by simp)))
theorem feedAll_runes (s : List Int) (hs : Bytes s) : ∀ p, Part p → runes (p ++ s) = (feedAll p s).1 ++ runes (feedAll p s).2 := by
  induction s with
  | nil => intro p h; simp [feedAll]
  | cons c s ih =>
    intro p h
    have hc := hs c (by simp)
    have hs' : Bytes s := fun x hx => hs x (by simp [hx])
    have hb : Bytes (p ++ [c]) := fun x hx => (List.mem_append.1 hx).elim (h.1 x) (fun h => by simp at h; omega)
    have h4 := (drain_is hb).2.2 s hs'
    rw [show p ++ c :: s = (p ++ [c]) ++ s from by simp, h4, ih hs' _ (part_step h hc), feedAll_cons, List.append_assoc]
theorem feedAll_whole (s : List Int) (hs : Bytes s) : (feedAll [] s).1 ++ List.replicate (feedAll [] s).2.length 65533 = runes s := by
  have h1 := feedAll_runes s hs [] part_nil
  have h2 := feedAll_part s hs [] part_nil
  rw [List.nil_append] at h1
  rw [h1, (part_runes h2.1 h2.2.1).2]
theorem feedAll_len (s : List Int) (hs : Bytes s) : ∀ p, Part p → (feedAll p s).1.length ≤ 4 * s.length := by
  induction s with
  | nil => intro p _; simp [feedAll]
  | cons c s ih =>
    intro p h
    have h1 := ih (fun x hx => hs x (by simp [hx])) _ (part_step h (hs c (by simp)))
    have h2 := drain_len (p ++ [c])
    rw [feedAll_cons]
    simp only [List.length_append, List.length_cons, List.length_nil] at h1 h2 ⊢
    have := h.2.2
    omega
theorem bytesOf_get (s : ByteArray) (i : Nat) (h : i < s.size) (h2 : i < (bytesOf s).length) : (bytesOf s)[i] = (s[i].toNat : Int) := by
  simp [bytesOf]
  rfl
theorem results_two {e : Ending} {w' : World} : True := trivial
set_option maxHeartbeats 3200000 in
set_option maxRecDepth 100000 in
theorem all_c (s : ByteArray) (w : World) (hT : Utf8Tabs 0 1 w) (hs : s.size ≤ 1000000) :
    Calls Tryd.prog 9 #[.string s] w fun e w' => ∃ v : Value, e = .returned v ∧ Kd.R (Kd.int .i32) 21 w' w.heap.size (fun _ => True) v (runes (bytesOf s)) ∧ Below w.heap.size w w' := by
  have hu := Tryd.underlying29
  have HT := Aside0.mk hT
  have hsz : (s.size : Int) ≤ 1000000 := by omega
  obtain ⟨bs, hbs⟩ : ∃ bs, bs = bytesOf s := ⟨_, rfl⟩
  have HBY := Aside0.mk (show Bytes bs from by rw [hbs]; exact bytesOf_bytes s)
  have HLEN := Aside0.mk (show bs.length = s.size from by rw [hbs, bytesOf_length])
  have HGET := Aside0.mk (show ∀ (i : Nat) (h : i < s.size) (h2 : i < bs.length), bs[i] = (s[i].toNat : Int) from by subst hbs; exact bytesOf_get s)
  rw [← hbs]
  clear hT hbs hs
  go_enter Tryd.func9, Tryd.ntmps9
  go_upto_region 2 with fail
  obtain ⟨w1, hw1⟩ : ∃ w1, w1 = w.alloc (.cells #[.int .u8 0, .int .u8 0, .int .u8 0, .int .i64 0] 29) := ⟨_, rfl⟩
  obtain ⟨g, hg⟩ : ∃ g, g = w.heap.size := ⟨_, rfl⟩
  have HB1 := Aside0.mk (show Below w.heap.size w w1 from by rw [hw1]; exact below_alloc (Below.refl _ _) _)
  have HK1 := Aside0.mk (show w1.heap[g]? = some (.cells (dcells []) 29 (0, 0)) from by rw [hw1, hg]; exact blk_new w _)
  rw [← hw1, ← hg]
  have HG := Aside0.mk hg
  clear hw1 hg
  go_wp2_with fail
  go_loopg [4, 11] s.size (fun gk v4 v11 W => ∃ (i : Nat) (p out : List Int), v11 = .int .i64 (i : Int) ∧ Aside0 (gk + i = s.size) ∧ Aside0 (Part p) ∧ Aside0 (out ++ (feedAll p (bs.drop i)).1 = (feedAll [] bs).1 ∧ (feedAll p (bs.drop i)).2 = (feedAll [] bs).2) ∧ Aside0 (out.length ≤ 4 * i) ∧ Aside0 (W.heap[g]? = some (.cells (dcells p) 29 (0, 0))) ∧
    Aside0 (Kd.R (Kd.int .i32) 21 W w.heap.size (fun k => k ≠ g) v4 out) ∧ Aside0 (Below w.heap.size w W))
  case atStart => exact ⟨0, [], [], rfl, ⟨by omega⟩, ⟨part_nil⟩, ⟨⟨rfl, rfl⟩⟩, ⟨by simp⟩, HK1, ⟨Kd.R_nil _ _ _ _ _⟩, HB1⟩
  case round =>
    clear HB1 HK1
    obtain ⟨i, p, out, rfl, HGK, HP, HF, HOL, HK, HO, HB⟩ := hrel
    have hgi := HGK.out
    by_cases hi : i < s.size
    · obtain ⟨g0, rfl⟩ : ∃ g0, gk = g0 + 1 := ⟨gk - 1, by omega⟩
      have hi2 : i < bs.length := by rw [HLEN.out]; exact hi
      have hd : bs.drop i = bs[i] :: bs.drop (i + 1) := List.drop_eq_getElem_cons hi2
      have hbi := HGET.out i hi hi2
      have hcb := HBY.out bs[i] (List.getElem_mem hi2)
      rw [hbi] at hcb
      have hff := HF.out
      rw [hd, feedAll_cons, hbi] at hff
      have hps := part_step HP.out hcb
      have HFC := Aside0.mk (fun W hT => feed_c p (s[i].toNat : Int) W hT HP.out.1 HP.out.2.2 hcb)
      have hdl := drain_len (p ++ [(s[i].toNat : Int)])
      have HDL := Aside0.mk (show (UtfPure.drain (p ++ [(s[i].toNat : Int)])).1.length ≤ 4 from by have := HP.out.2.2; rw [List.length_append, List.length_singleton] at hdl; omega)
      obtain ⟨D, hD⟩ : ∃ D, D = UtfPure.drain (p ++ [(s[i].toNat : Int)]) := ⟨_, rfl⟩
      rw [← hD] at hff hps HFC HDL
      obtain ⟨o2, p2⟩ := D
      dsimp only at hff hps HFC HDL
      have HFF := Aside0.mk (show (out ++ o2) ++ (feedAll p2 (bs.drop (i + 1))).1 = (feedAll [] bs).1 ∧ (feedAll p2 (bs.drop (i + 1))).2 = (feedAll [] bs).2 from by rw [List.append_assoc]; exact hff)
      have HPS := Aside0.mk hps
      have hil : (i : Int) < s.size := by omega
      have HI := Aside0.mk (show i < 1000000 by omega)
      have hdc : dcells p = #[.int .u8 (p.getD 0 0), .int .u8 (p.getD 1 0), .int .u8 (p.getD 2 0), .int .i64 p.length] := rfl
      unfold dval at HFC
      obtain ⟨q0, hq0⟩ : ∃ q0, q0 = p.getD 0 0 := ⟨_, rfl⟩
      obtain ⟨q1, hq1⟩ : ∃ q1, q1 = p.getD 1 0 := ⟨_, rfl⟩
      obtain ⟨q2, hq2⟩ : ∃ q2, q2 = p.getD 2 0 := ⟨_, rfl⟩
      obtain ⟨q3, hq3⟩ : ∃ q3, q3 = (p.length : Int) := ⟨_, rfl⟩
      rw [← hq0, ← hq1, ← hq2, ← hq3] at hdc
      rw [hdc] at HFC HK
      have hdc2 : dcells p2 = #[.int .u8 (p2.getD 0 0), .int .u8 (p2.getD 1 0), .int .u8 (p2.getD 2 0), .int .i64 p2.length] := rfl
      obtain ⟨y0, hy0⟩ : ∃ y0, y0 = p2.getD 0 0 := ⟨_, rfl⟩
      obtain ⟨y1, hy1⟩ : ∃ y1, y1 = p2.getD 1 0 := ⟨_, rfl⟩
      obtain ⟨y2, hy2⟩ : ∃ y2, y2 = p2.getD 2 0 := ⟨_, rfl⟩
      obtain ⟨y3, hy3⟩ : ∃ y3, y3 = (p2.length : Int) := ⟨_, rfl⟩
      rw [← hy0, ← hy1, ← hy2, ← hy3] at hdc2
      rw [hdc2] at HFC
      have HDC2 := Aside0.mk hdc2
      obtain ⟨cI, hcI⟩ : ∃ cI, (s[i].toNat : Int) = cI := ⟨_, rfl⟩
      rw [hcI] at HFC
      have k0 : wr.drew.cell? ⟨g, 0, none⟩ = some (.int .u8 q0) := (blk_cell (blk_drew HK.out) 0).trans rfl
      have k1 : wr.drew.cell? ⟨g, 1, none⟩ = some (.int .u8 q1) := (blk_cell (blk_drew HK.out) 1).trans rfl
      have k2 : wr.drew.cell? ⟨g, 2, none⟩ = some (.int .u8 q2) := (blk_cell (blk_drew HK.out) 2).trans rfl
      have k3 : wr.drew.cell? ⟨g, 3, none⟩ = some (.int .i64 q3) := (blk_cell (blk_drew HK.out) 3).trans rfl
      have HT3 := Aside0.mk (tabs_below HT.out (below_drew HB.out))
      clear hd hbi hcb hff hps hdl hD hdc hq0 hq1 hq2 hq3 hdc2 hy0 hy1 hy2 hy3 hgi HF HP hi2
      have HCI := Aside0.mk hcI
      go_upto_region 7 with fail
      refine start_ (n := 10) (S := fun w' => w'.cell? ⟨g, 0, none⟩ = some (.int .u8 q0) ∧ w'.cell? ⟨g, 1, none⟩ = some (.int .u8 q1) ∧ w'.cell? ⟨g, 2, none⟩ = some (.int .u8 q2) ∧ w'.cell? ⟨g, 3, none⟩ = some (.int .i64 q3)) (ds := [8]) #[false, false, false, false, false, false, false, false, false, false] (by kernel_rfl) rfl rfl ⟨k0, k1, k2, k3⟩ (fun hHeld => ?_)
      refine pure_ (i := 1) (N := some 16) (v := ?_) (a' := ?_) #[false, true, false, false, false, false, false, false, false, false] rfl rfl (by kernel_rfl) (fun _ _ _ h => h) (Or.inl ⟨by rfl, ?_⟩) ?_ ?_
      rotate_left
      · intro w'
        go_simp
        with_reducible rfl
      rotate_left
      · simp only [Act.put, List.setIfInBounds_toArray, List.set_cons_zero, List.set_cons_succ, i64_w, i32_w]
        rfl
      refine pure_ (i := 2) (N := some 17) (v := ?_) (a' := ?_) #[false, true, true, false, false, false, false, false, false, false] rfl rfl (by kernel_rfl) (fun _ _ _ h => h) (Or.inl ⟨by rfl, ?_⟩) ?_ ?_
      rotate_left
      · intro w'
        go_simp
        with_reducible rfl
      rotate_left
      · simp only [Act.put, List.setIfInBounds_toArray, List.set_cons_zero, List.set_cons_succ, i64_w, i32_w]
        rfl
      refine take_ (i := 0) (N := some 15) (v := ?_) (a' := ?_) #[true, true, true, false, false, false, false, false, false, false] rfl rfl (by kernel_rfl) (fun _ _ _ h => h) (Or.inl ⟨by rfl, ?_⟩) hHeld ?_ ?_
      rotate_left
      · rintro w' ⟨s0, s1, s2, s3⟩
        go_simp
        with_reducible rfl
      rotate_left
      · simp only [Act.put, List.setIfInBounds_toArray, List.set_cons_zero, List.set_cons_succ, i64_w, i32_w]
        rfl
      refine take_ (i := 3) (N := some 18) (v := ?_) (a' := ?_) #[true, true, true, true, false, false, false, false, false, false] rfl rfl (by kernel_rfl) (fun _ _ _ h => h) (Or.inl ⟨by rfl, ?_⟩) hHeld ?_ ?_
      rotate_left
      · rintro w' ⟨s0, s1, s2, s3⟩
        go_simp
        with_reducible rfl
      rotate_left
      · simp only [Act.put, List.setIfInBounds_toArray, List.set_cons_zero, List.set_cons_succ, i64_w, i32_w]
        rfl
      refine one_ (i := 4) (N := some 19) #[true, true, true, true, true, false, false, false, false, false] rfl rfl (by kernel_rfl) (by decide) (fun K hK => ?_)
      refine goes_ Tryd.func12 (by kernel_rfl) rfl #[.agg #[.int .u8 q0, .int .u8 q1, .int .u8 q2, .int .i64 q3], .int .u8 cI] (by rfl) rfl rfl (by simp only [List.map_toArray, List.map_cons, List.map_nil]; rfl) ?_
      with_reducible refine (HFC.out _ HT3.out).mono ?_
      rintro e w5 ⟨v5, rfl, ho5, hb5⟩
      refine ⟨_, rfl, ?_⟩
      have HK5 := Aside0.mk (blk_below (blk_drew HK.out) hb5)
      have HB5 := Aside0.mk (below_then (below_drew HB.out) HB.out.size hb5)
      have HO5 := Aside0.mk (Kd.R_below (Kd.R_drew HO.out) hb5)
      have HN5 := Aside0.mk ho5
      clear ho5 hb5
      have c0 := (blk_cell HK5.out 0).trans (rfl : _ = some (Value.int .u8 q0))
      have c1 := (blk_cell HK5.out 1).trans (rfl : _ = some (Value.int .u8 q1))
      have c2 := (blk_cell HK5.out 2).trans (rfl : _ = some (Value.int .u8 q2))
      have c3 := (blk_cell HK5.out 3).trans (rfl : _ = some (Value.int .i64 q3))
      have f0 := blk_frozen HK5.out 0
      have f1 := blk_frozen HK5.out 1
      have f2 := blk_frozen HK5.out 2
      have f3 := blk_frozen HK5.out 3
      refine hK.out _ _ ⟨c0, c1, c2, c3⟩ (fun hHeld => ?_)
      clear hK K
      refine norm_ (a' := ?_) ?_ ?_
      rotate_left
      · show Act.put _ (some 19) _ = _
        simp only [Act.put, List.setIfInBounds_toArray, List.set_cons_zero, List.set_cons_succ, i64_w, i32_w]
        rfl
      refine pure_ (i := 5) (N := some 14) (v := ?_) (a' := ?_) #[true, true, true, true, true, true, false, false, false, false] rfl rfl (by kernel_rfl) (fun _ _ _ h => h) (Or.inl ⟨by rfl, ?_⟩) ?_ ?_
      rotate_left
      · intro w'
        go_simp
        with_reducible rfl
      rotate_left
      · simp only [Act.put, List.setIfInBounds_toArray, List.set_cons_zero, List.set_cons_succ, i64_w, i32_w]
        rfl
      refine pure_ (i := 6) (N := some 20) (v := ?_) (a' := ?_) #[true, true, true, true, true, true, true, false, false, false] rfl rfl (by kernel_rfl) (fun _ _ _ h => h) (Or.inl ⟨by rfl, ?_⟩) ?_ ?_
      rotate_left
      · intro w'
        go_simp
        with_reducible rfl
      rotate_left
      · simp only [Act.put, List.setIfInBounds_toArray, List.set_cons_zero, List.set_cons_succ, i64_w, i32_w]
        rfl
      refine pure_ (i := 7) (N := some 21) (v := ?_) (a' := ?_) #[true, true, true, true, true, true, true, true, false, false] rfl rfl (by kernel_rfl) (fun _ _ _ h => h) (Or.inl ⟨by rfl, ?_⟩) ?_ ?_
      rotate_left
      · intro w'
        go_simp
        with_reducible rfl
      rotate_left
      · simp only [Act.put, List.setIfInBounds_toArray, List.set_cons_zero, List.set_cons_succ, i64_w, i32_w]
        rfl
      refine last_ (i := 8) (N := none) #[true, true, true, true, true, true, true, true, true, false] rfl rfl (by kernel_rfl) (by decide) (fun K hK => ?_)
      refine skip_ (w1 := ?_) (by rfl) rfl ?_ ?_
      rotate_left
      · go_simp
        rfl
      refine hK.out _ _ ?_
      clear hK K
      refine pure_ (i := 9) (N := some 6) (v := ?_) (a' := ?_) #[true, true, true, true, true, true, true, true, true, true] rfl rfl (by kernel_rfl) (fun _ _ _ h => h) (Or.inl ⟨by rfl, ?_⟩) ?_ ?_
      rotate_left
      · intro w'
        go_simp
        with_reducible rfl
      rotate_left
      · simp only [Act.put, List.setIfInBounds_toArray, List.set_cons_zero, List.set_cons_succ, i64_w, i32_w]
        rfl
      refine done_ (by kernel_rfl) ?_
      obtain ⟨A5, c5, rfl⟩ := Kd.R_slice HN5.out
      obtain ⟨w6, hw6⟩ : ∃ w6, w6 = (((w5.setCell ⟨g, 0, none⟩ (.int .u8 y0)).setCell ⟨g, 1, none⟩ (.int .u8 y1)).setCell ⟨g, 2, none⟩ (.int .u8 y2)).setCell ⟨g, 3, none⟩ (.int .i64 y3) := ⟨_, rfl⟩
      have hge : w.heap.size ≤ g := by have := HG.out; omega
      have HB6 := Aside0.mk (show Below w.heap.size w w6 from by rw [hw6]; exact below_set (below_set (below_set (below_set HB5.out hge) hge) hge) hge)
      have HK6 := Aside0.mk (show w6.heap[g]? = some (.cells (dcells p2) 29 (0, 0)) from by rw [hw6, HDC2.out]; exact blk_put (blk_put (blk_put (blk_put HK5.out 0 _ rfl) 1 _ rfl) 2 _ rfl) 3 _ rfl)
      have hkb : KeepBut w5 w6 g none := by rw [hw6]; exact ((((KeepBut.refl w5 g none).set_ 0 _).set_ 1 _).set_ 2 _).set_ 3 _
      have HO6 := Aside0.mk (Kd.R_keep HO5.out hkb (fun k hk => hk))
      have hgl : g < wr.heap.size := blk_lt HK.out
      have HN6 := Aside0.mk (Kd.R_reads' (Kd.R_keep (Kd.R_mono (ok' := fun k => k ≠ g) (Kd.R_bound HN5.out) (fun k hk => by have h1 := hk.2.1; have h2 : wr.heap.size ≤ k := h1; omega)) hkb (fun k hk => hk))).2.2
      rw [← hw6]
      clear hw6 hkb hge hgl c0 c1 c2 c3 f0 f1 f2 f3 k0 k1 k2 k3 hHeld HB5 HK5 HO5 HN5 HK HO HB HFC hcI
      go_wp2_with (first
        | ((with_reducible refine gate_builtin (b := .append) (xs := #[.tmp 22, .tmp 23]) rfl ?_); at_builtin; go_must ((refine Kd.R_append_row (h1 := fun _ => rfl) (Value.int .i32) (0 : Int) (w0 := w) w.heap.size rfl (.tmp 22) (.tmp 23) 24 21 (.int .i32 0) 4 rfl Tryd.underlying24 info_i32 rfl (by decide) u4 out o2 A5 o2.length c5 (fun k => k ≠ g) rfl rfl ?aF HO6.out HN6.out HB6.out HB6.out.size ?aL ?_; (case aF => exact fun k hk => by have := blk_lt HK6.out; omega); (case aL => have := HOL.out; have := HDL.out; have := HI.out; omega); intro v7 w7 ho hb hg hat; have HO7 := Aside0.mk ho; have HB7 := Aside0.mk hb; have HK7 := Aside0.mk (blk_grown HK6.out hg (fun h => HO6.out.1 g h.symm rfl)); clear ho hb hg hat)))
        | fail)
      go_roundg g0
      case measure => omega
      case rel => exact ⟨i + 1, p2, out ++ o2, by first | go_num | (congr 1; unfold wrap64; omega), ⟨by have := HGK.out; omega⟩, HPS, HFF, ⟨by rw [List.length_append]; have := HOL.out; have := HDL.out; omega⟩, HK7, HO7, HB7⟩
    · have hil : (s.size : Int) ≤ i := by omega
      have hff := HF.out
      rw [List.drop_eq_nil_of_le (by rw [HLEN.out]; omega)] at hff
      have hw := feedAll_whole bs HBY.out
      rw [← hff.1, ← hff.2] at hw
      have HW := Aside0.mk (show out ++ List.replicate p.length 65533 = runes bs from by simpa [feedAll] using hw)
      have HFL := Aside0.mk (fun W => flush_c p W HP.out.2.2)
      have HOLL := Aside0.mk (show out.length ≤ 4000000 by have := HOL.out; have := HGK.out; omega)
      have HPL := Aside0.mk (show (List.replicate p.length (65533 : Int)).length ≤ 3 by rw [List.length_replicate]; exact HP.out.2.2)
      have hdc : dcells p = #[.int .u8 (p.getD 0 0), .int .u8 (p.getD 1 0), .int .u8 (p.getD 2 0), .int .i64 p.length] := rfl
      unfold dval at HFL
      obtain ⟨q0, hq0⟩ : ∃ q0, q0 = p.getD 0 0 := ⟨_, rfl⟩
      obtain ⟨q1, hq1⟩ : ∃ q1, q1 = p.getD 1 0 := ⟨_, rfl⟩
      obtain ⟨q2, hq2⟩ : ∃ q2, q2 = p.getD 2 0 := ⟨_, rfl⟩
      obtain ⟨q3, hq3⟩ : ∃ q3, q3 = (p.length : Int) := ⟨_, rfl⟩
      obtain ⟨fl, hfl⟩ : ∃ fl : List Int, fl = List.replicate p.length 65533 := ⟨_, rfl⟩
      rw [← hfl] at HFL HPL HW
      rw [← hq0, ← hq1, ← hq2, ← hq3] at hdc
      rw [hdc, show dcells [] = #[.int .u8 0, .int .u8 0, .int .u8 0, .int .i64 0] from rfl] at HFL
      rw [hdc] at HK
      have k0 : wr.cell? ⟨g, 0, none⟩ = some (.int .u8 q0) := (blk_cell HK.out 0).trans rfl
      have k1 : wr.cell? ⟨g, 1, none⟩ = some (.int .u8 q1) := (blk_cell HK.out 1).trans rfl
      have k2 : wr.cell? ⟨g, 2, none⟩ = some (.int .u8 q2) := (blk_cell HK.out 2).trans rfl
      have k3 : wr.cell? ⟨g, 3, none⟩ = some (.int .i64 q3) := (blk_cell HK.out 3).trans rfl
      clear hff hw hdc hq0 hq1 hq2 hq3 hfl hgi HF HGET
      go_wp2_with fail
      refine (HFL.out wr).mono ?_
      rintro e w3 ⟨v3, rfl, ho, hb⟩
      obtain ⟨A3, c3, rfl⟩ := Kd.R_slice ho
      have HO3 := Aside0.mk (Kd.R_below HO.out hb)
      have HR3 := Aside0.mk (Kd.R_reads' ho).2.2
      have HB3 := Aside0.mk (below_then HB.out HB.out.size hb)
      clear ho hb k0 k1 k2 k3 HFL HO HB
      go_wp2_with (first
        | ((with_reducible refine gate_builtin (b := .append) (xs := #[.tmp 31, .tmp 32]) rfl ?_); at_builtin; go_must ((refine Kd.R_append_row (h1 := fun _ => rfl) (Value.int .i32) (0 : Int) (w0 := w) w.heap.size rfl (.tmp 31) (.tmp 32) 24 21 (.int .i32 0) 4 rfl Tryd.underlying24 info_i32 rfl (by decide) u4 out fl A3 fl.length c3 (fun _ => True) rfl rfl ?aF (Kd.R_mono (ok' := fun _ => True) (Kd.R_alloc HO3.out _) (fun _ _ => trivial)) (Kd.C_alloc HR3.out _) (below_alloc HB3.out _) (below_alloc HB3.out _).size ?aL ?_; (case aF => exact fun _ _ => trivial); (case aL => have := HOLL.out; have := HPL.out; omega); intro v7 w7 ho hb hg hat; rw [HW.out] at ho; have HO7 := Aside0.mk ho; have HB7 := Aside0.mk hb; clear ho hb hg hat)))
        | fail)
      go_ret
      exact ⟨v7, rfl, HO7.out, HB7.out⟩
end Go.Proofs.YtneioenhnioehaaDoor.UtfAllC
