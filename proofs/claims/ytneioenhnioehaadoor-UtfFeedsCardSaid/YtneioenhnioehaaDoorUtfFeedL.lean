/- The law's own feeding, byte by byte, as a contract: what is told, and what is under way. -/
import Derived.Test.YtneioenhnioehaaDoorUtfAllC
namespace Go.Proofs.YtneioenhnioehaaDoor.UtfFeedL
open Go.RowKit Go.Proofs.YtneioenhnioehaaDoor.Kit Go.Proofs.YtneioenhnioehaaDoor.Plain Go.Proofs.YtneioenhnioehaaDoor.Mine Go.Proofs.YtneioenhnioehaaDoor.UtfPure Go.Proofs.YtneioenhnioehaaDoor.UtfFull Go.Proofs.YtneioenhnioehaaDoor.UtfDec Go.Proofs.YtneioenhnioehaaDoor.UtfFeed Go.Proofs.YtneioenhnioehaaDoor.UtfRunes Go.Proofs.YtneioenhnioehaaDoor.UtfAllC Go.Proofs.YtneioenhnioehaaDoorW.PrintWords Go.Proofs.YtneioenhnioehaaDoorW.PrintLast Go.Proofs.YtneioenhnioehaaDoorW.PrintMore
open Go.Lib (firstT accLo accHi Utf8Tabs firstT_cases slowN decodeN)
set_option linter.unusedVariables false
set_option linter.unusedSimpArgs false
set_option maxHeartbeats 3200000 in
set_option maxRecDepth 100000 in
theorem feedl_c (r : List Int) (s : ByteArray) (w : World) (hT : Utf8Tabs 0 1 w) (hs : s.size ≤ 1000000) (hr : Part r) :
    Calls Tryd.prog 10 #[dval r, .string s] w fun e w' => ∃ v : Value, e = .returned (.tuple #[dval (feedAll r (bytesOf s)).2, v]) ∧ Kd.R (Kd.int .i32) 21 w' w.heap.size (fun _ => True) v (feedAll r (bytesOf s)).1 ∧ Below w.heap.size w w' := by
  have hu := Tryd.underlying29
  have HT := Aside0.mk hT
  have hsz : (s.size : Int) ≤ 1000000 := by omega
  obtain ⟨bs, hbs⟩ : ∃ bs, bs = bytesOf s := ⟨_, rfl⟩
  have HBY := Aside0.mk (show Bytes bs from by rw [hbs]; exact bytesOf_bytes s)
  have HLEN := Aside0.mk (show bs.length = s.size from by rw [hbs, bytesOf_length])
  have HGET := Aside0.mk (show ∀ (i : Nat) (h : i < s.size) (h2 : i < bs.length), bs[i] = (s[i].toNat : Int) from by subst hbs; exact bytesOf_get s)
  rw [← hbs]
  have HR := Aside0.mk hr
  have hdr : dcells r = #[.int .u8 (r.getD 0 0), .int .u8 (r.getD 1 0), .int .u8 (r.getD 2 0), .int .i64 r.length] := rfl
  obtain ⟨D0, hD0⟩ : ∃ D0, D0 = feedAll r bs := ⟨_, rfl⟩
  have HD0 := Aside0.mk hD0
  rw [← hD0]
  have hdv : dval r = .agg (dcells r) := rfl
  rw [hdv]
  obtain ⟨r0, hr0⟩ : ∃ r0, r0 = r.getD 0 0 := ⟨_, rfl⟩
  obtain ⟨r1, hr1⟩ : ∃ r1, r1 = r.getD 1 0 := ⟨_, rfl⟩
  obtain ⟨r2, hr2⟩ : ∃ r2, r2 = r.getD 2 0 := ⟨_, rfl⟩
  obtain ⟨r3, hr3⟩ : ∃ r3, r3 = (r.length : Int) := ⟨_, rfl⟩
  rw [← hr0, ← hr1, ← hr2, ← hr3] at hdr
  rw [hdr]
  have HDR := Aside0.mk hdr
  clear hT hbs hs hr hdr hdv hr0 hr1 hr2 hr3 hD0
  go_enter Tryd.func10, Tryd.ntmps10
  go_upto_region 1 with fail
  obtain ⟨w1, hw1⟩ : ∃ w1, w1 = (w.alloc (.cells #[.int .u8 r0, .int .u8 r1, .int .u8 r2, .int .i64 r3] 29)).alloc (.cells #[.int .u8 0, .int .u8 0, .int .u8 0, .int .i64 0] 29) := ⟨_, rfl⟩
  obtain ⟨g, hg⟩ : ∃ g, g = w.heap.size := ⟨_, rfl⟩
  obtain ⟨gr, hgr⟩ : ∃ gr, gr = w.heap.size + 1 := ⟨_, rfl⟩
  have hF : FS w w1 g gr r := by
    have hb1 := below_alloc (Below.refl w.heap.size w) (.cells #[.int .u8 r0, .int .u8 r1, .int .u8 r2, .int .i64 r3] 29)
    have hb2 := below_alloc hb1 (.cells #[.int .u8 0, .int .u8 0, .int .u8 0, .int .i64 0] 29)
    have k1 := blk_alloc (blk_new w (.cells #[.int .u8 r0, .int .u8 r1, .int .u8 r2, .int .i64 r3] 29)) (.cells #[.int .u8 0, .int .u8 0, .int .u8 0, .int .i64 0] 29)
    have k2 := blk_new (w.alloc (.cells #[.int .u8 r0, .int .u8 r1, .int .u8 r2, .int .i64 r3] 29)) (.cells #[.int .u8 0, .int .u8 0, .int .u8 0, .int .i64 0] 29)
    rw [World.size_alloc] at k2
    subst hw1 hg hgr
    exact ⟨hb2, Nat.le_refl _, by omega, by rw [HDR.out]; exact k1, k2⟩
  rw [← hw1, ← hgr, ← hg]
  have HG := Aside0.mk (show g = w.heap.size ∧ g < gr ∧ w.heap.size ≤ gr from ⟨hg, hF.2.2.1, by have := hF.2.2.1; omega⟩)
  have HB1 := Aside0.mk hF.1
  have HK1 := Aside0.mk hF.2.2.2.1
  have HZ1 := Aside0.mk hF.2.2.2.2
  clear hw1 hg hgr hF
  go_wp2_with fail
  go_loopg [6, 11] s.size (fun gk v6 v11 W => ∃ (i : Nat) (p out : List Int), v11 = .int .i64 (i : Int) ∧ Aside0 (gk + i = s.size) ∧ Aside0 (Part p) ∧ Aside0 (out ++ (feedAll p (bs.drop i)).1 = D0.1 ∧ (feedAll p (bs.drop i)).2 = D0.2) ∧ Aside0 (out.length ≤ 4 * i) ∧ Aside0 (W.heap[g]? = some (.cells (dcells p) 29 (0, 0))) ∧ Aside0 (W.heap[gr]? = some (.cells #[.int .u8 0, .int .u8 0, .int .u8 0, .int .i64 0] 29 (0, 0))) ∧
    Aside0 (Kd.R (Kd.int .i32) 21 W w.heap.size (fun k => k ≠ g ∧ k ≠ gr) v6 out) ∧ Aside0 (Below w.heap.size w W))
  case atStart => exact ⟨0, r, [], rfl, ⟨by omega⟩, HR, ⟨by rw [HD0.out]; exact ⟨rfl, rfl⟩⟩, ⟨by simp⟩, HK1, HZ1, ⟨Kd.R_nil _ _ _ _ _⟩, HB1⟩
  case round =>
    clear HB1 HK1 HZ1
    obtain ⟨i, p, out, rfl, HGK, HP, HF, HOL, HK, HZ, HO, HB⟩ := hrel
    have hgi := HGK.out
    by_cases hi : i < s.size
    · obtain ⟨g0, rfl⟩ : ∃ g0, gk = g0 + 1 := ⟨gk - 1, by omega⟩
      have hi2 : i < bs.length := by rw [HLEN.out]; exact hi
      have hd : bs.drop i = bs[i] :: bs.drop (i + 1) := List.drop_eq_getElem_cons hi2
      have hbi := HGET.out i hi hi2
      have hcb := HBY.out bs[i] (List.getElem_mem hi2)
      rw [hbi] at hcb
      have hff := HF.out
      rw [hd, feedAll_cons, hbi] at hff
      have hps := part_step HP.out hcb
      have HFC := Aside0.mk (fun W hT => feed_c p (s[i].toNat : Int) W hT HP.out.1 HP.out.2.2 hcb)
      have hdl := drain_len (p ++ [(s[i].toNat : Int)])
      have HDL := Aside0.mk (show (UtfPure.drain (p ++ [(s[i].toNat : Int)])).1.length ≤ 4 from by have := HP.out.2.2; rw [List.length_append, List.length_singleton] at hdl; omega)
      obtain ⟨D, hD⟩ : ∃ D, D = UtfPure.drain (p ++ [(s[i].toNat : Int)]) := ⟨_, rfl⟩
      rw [← hD] at hff hps HFC HDL
      obtain ⟨o2, p2⟩ := D
      dsimp only at hff hps HFC HDL
      have HFF := Aside0.mk (show (out ++ o2) ++ (feedAll p2 (bs.drop (i + 1))).1 = D0.1 ∧ (feedAll p2 (bs.drop (i + 1))).2 = D0.2 from by rw [List.append_assoc]; exact hff)
      have HPS := Aside0.mk hps
      have hil : (i : Int) < s.size := by omega
      have HI := Aside0.mk (show i < 1000000 by omega)
      have hdc : dcells p = #[.int .u8 (p.getD 0 0), .int .u8 (p.getD 1 0), .int .u8 (p.getD 2 0), .int .i64 p.length] := rfl
      unfold dval at HFC
      obtain ⟨q0, hq0⟩ : ∃ q0, q0 = p.getD 0 0 := ⟨_, rfl⟩
      obtain ⟨q1, hq1⟩ : ∃ q1, q1 = p.getD 1 0 := ⟨_, rfl⟩
      obtain ⟨q2, hq2⟩ : ∃ q2, q2 = p.getD 2 0 := ⟨_, rfl⟩
      obtain ⟨q3, hq3⟩ : ∃ q3, q3 = (p.length : Int) := ⟨_, rfl⟩
      rw [← hq0, ← hq1, ← hq2, ← hq3] at hdc
      rw [hdc] at HFC HK
      have hdc2 : dcells p2 = #[.int .u8 (p2.getD 0 0), .int .u8 (p2.getD 1 0), .int .u8 (p2.getD 2 0), .int .i64 p2.length] := rfl
      obtain ⟨y0, hy0⟩ : ∃ y0, y0 = p2.getD 0 0 := ⟨_, rfl⟩
      obtain ⟨y1, hy1⟩ : ∃ y1, y1 = p2.getD 1 0 := ⟨_, rfl⟩
      obtain ⟨y2, hy2⟩ : ∃ y2, y2 = p2.getD 2 0 := ⟨_, rfl⟩
      obtain ⟨y3, hy3⟩ : ∃ y3, y3 = (p2.length : Int) := ⟨_, rfl⟩
      rw [← hy0, ← hy1, ← hy2, ← hy3] at hdc2
      rw [hdc2] at HFC
      have HDC2 := Aside0.mk hdc2
      obtain ⟨cI, hcI⟩ : ∃ cI, (s[i].toNat : Int) = cI := ⟨_, rfl⟩
      rw [hcI] at HFC
      have k0 : wr.drew.cell? ⟨g, 0, none⟩ = some (.int .u8 q0) := (blk_cell (blk_drew HK.out) 0).trans rfl
      have k1 : wr.drew.cell? ⟨g, 1, none⟩ = some (.int .u8 q1) := (blk_cell (blk_drew HK.out) 1).trans rfl
      have k2 : wr.drew.cell? ⟨g, 2, none⟩ = some (.int .u8 q2) := (blk_cell (blk_drew HK.out) 2).trans rfl
      have k3 : wr.drew.cell? ⟨g, 3, none⟩ = some (.int .i64 q3) := (blk_cell (blk_drew HK.out) 3).trans rfl
      have HT3 := Aside0.mk (tabs_below HT.out (below_drew HB.out))
      clear hd hbi hcb hff hps hdl hD hdc hq0 hq1 hq2 hq3 hdc2 hy0 hy1 hy2 hy3 hgi HF HP hi2
      have HCI := Aside0.mk hcI
      go_upto_region 6 with fail
      refine start_ (n := 10) (S := fun w' => w'.cell? ⟨g, 0, none⟩ = some (.int .u8 q0) ∧ w'.cell? ⟨g, 1, none⟩ = some (.int .u8 q1) ∧ w'.cell? ⟨g, 2, none⟩ = some (.int .u8 q2) ∧ w'.cell? ⟨g, 3, none⟩ = some (.int .i64 q3)) (ds := [8]) #[false, false, false, false, false, false, false, false, false, false] (by kernel_rfl) rfl rfl ⟨k0, k1, k2, k3⟩ (fun hHeld => ?_)
      refine pure_ (i := 1) (N := some 16) (v := ?_) (a' := ?_) #[false, true, false, false, false, false, false, false, false, false] rfl rfl (by kernel_rfl) (fun _ _ _ h => h) (Or.inl ⟨by rfl, ?_⟩) ?_ ?_
      rotate_left
      · intro w'
        go_simp
        with_reducible rfl
      rotate_left
      · simp only [Act.put, List.setIfInBounds_toArray, List.set_cons_zero, List.set_cons_succ, i64_w, i32_w]
        rfl
      refine pure_ (i := 2) (N := some 17) (v := ?_) (a' := ?_) #[false, true, true, false, false, false, false, false, false, false] rfl rfl (by kernel_rfl) (fun _ _ _ h => h) (Or.inl ⟨by rfl, ?_⟩) ?_ ?_
      rotate_left
      · intro w'
        go_simp
        with_reducible rfl
      rotate_left
      · simp only [Act.put, List.setIfInBounds_toArray, List.set_cons_zero, List.set_cons_succ, i64_w, i32_w]
        rfl
      refine take_ (i := 0) (N := some 15) (v := ?_) (a' := ?_) #[true, true, true, false, false, false, false, false, false, false] rfl rfl (by kernel_rfl) (fun _ _ _ h => h) (Or.inl ⟨by rfl, ?_⟩) hHeld ?_ ?_
      rotate_left
      · rintro w' ⟨s0, s1, s2, s3⟩
        go_simp
        with_reducible rfl
      rotate_left
      · simp only [Act.put, List.setIfInBounds_toArray, List.set_cons_zero, List.set_cons_succ, i64_w, i32_w]
        rfl
      refine take_ (i := 3) (N := some 18) (v := ?_) (a' := ?_) #[true, true, true, true, false, false, false, false, false, false] rfl rfl (by kernel_rfl) (fun _ _ _ h => h) (Or.inl ⟨by rfl, ?_⟩) hHeld ?_ ?_
      rotate_left
      · rintro w' ⟨s0, s1, s2, s3⟩
        go_simp
        with_reducible rfl
      rotate_left
      · simp only [Act.put, List.setIfInBounds_toArray, List.set_cons_zero, List.set_cons_succ, i64_w, i32_w]
        rfl
      refine one_ (i := 4) (N := some 19) #[true, true, true, true, true, false, false, false, false, false] rfl rfl (by kernel_rfl) (by decide) (fun K hK => ?_)
      refine goes_ Tryd.func12 (by kernel_rfl) rfl #[.agg #[.int .u8 q0, .int .u8 q1, .int .u8 q2, .int .i64 q3], .int .u8 cI] (by rfl) rfl rfl (by simp only [List.map_toArray, List.map_cons, List.map_nil]; rfl) ?_
      with_reducible refine (HFC.out _ HT3.out).mono ?_
      rintro e w5 ⟨v5, rfl, ho5, hb5⟩
      refine ⟨_, rfl, ?_⟩
      have HK5 := Aside0.mk (blk_below (blk_drew HK.out) hb5)
      have HZ5 := Aside0.mk (blk_below (blk_drew HZ.out) hb5)
      have HB5 := Aside0.mk (below_then (below_drew HB.out) HB.out.size hb5)
      have HO5 := Aside0.mk (Kd.R_below (Kd.R_drew HO.out) hb5)
      have HN5 := Aside0.mk ho5
      clear ho5 hb5
      have c0 := (blk_cell HK5.out 0).trans (rfl : _ = some (Value.int .u8 q0))
      have c1 := (blk_cell HK5.out 1).trans (rfl : _ = some (Value.int .u8 q1))
      have c2 := (blk_cell HK5.out 2).trans (rfl : _ = some (Value.int .u8 q2))
      have c3 := (blk_cell HK5.out 3).trans (rfl : _ = some (Value.int .i64 q3))
      have f0 := blk_frozen HK5.out 0
      have f1 := blk_frozen HK5.out 1
      have f2 := blk_frozen HK5.out 2
      have f3 := blk_frozen HK5.out 3
      refine hK.out _ _ ⟨c0, c1, c2, c3⟩ (fun hHeld => ?_)
      clear hK K
      refine norm_ (a' := ?_) ?_ ?_
      rotate_left
      · show Act.put _ (some 19) _ = _
        simp only [Act.put, List.setIfInBounds_toArray, List.set_cons_zero, List.set_cons_succ, i64_w, i32_w]
        rfl
      refine pure_ (i := 5) (N := some 14) (v := ?_) (a' := ?_) #[true, true, true, true, true, true, false, false, false, false] rfl rfl (by kernel_rfl) (fun _ _ _ h => h) (Or.inl ⟨by rfl, ?_⟩) ?_ ?_
      rotate_left
      · intro w'
        go_simp
        with_reducible rfl
      rotate_left
      · simp only [Act.put, List.setIfInBounds_toArray, List.set_cons_zero, List.set_cons_succ, i64_w, i32_w]
        rfl
      refine pure_ (i := 6) (N := some 20) (v := ?_) (a' := ?_) #[true, true, true, true, true, true, true, false, false, false] rfl rfl (by kernel_rfl) (fun _ _ _ h => h) (Or.inl ⟨by rfl, ?_⟩) ?_ ?_
      rotate_left
      · intro w'
        go_simp
        with_reducible rfl
      rotate_left
      · simp only [Act.put, List.setIfInBounds_toArray, List.set_cons_zero, List.set_cons_succ, i64_w, i32_w]
        rfl
      refine pure_ (i := 7) (N := some 21) (v := ?_) (a' := ?_) #[true, true, true, true, true, true, true, true, false, false] rfl rfl (by kernel_rfl) (fun _ _ _ h => h) (Or.inl ⟨by rfl, ?_⟩) ?_ ?_
      rotate_left
      · intro w'
        go_simp
        with_reducible rfl
      rotate_left
      · simp only [Act.put, List.setIfInBounds_toArray, List.set_cons_zero, List.set_cons_succ, i64_w, i32_w]
        rfl
      refine last_ (i := 8) (N := none) #[true, true, true, true, true, true, true, true, true, false] rfl rfl (by kernel_rfl) (by decide) (fun K hK => ?_)
      refine skip_ (w1 := ?_) (by rfl) rfl ?_ ?_
      rotate_left
      · go_simp
        rfl
      refine hK.out _ _ ?_
      clear hK K
      refine pure_ (i := 9) (N := some 8) (v := ?_) (a' := ?_) #[true, true, true, true, true, true, true, true, true, true] rfl rfl (by kernel_rfl) (fun _ _ _ h => h) (Or.inl ⟨by rfl, ?_⟩) ?_ ?_
      rotate_left
      · intro w'
        go_simp
        with_reducible rfl
      rotate_left
      · simp only [Act.put, List.setIfInBounds_toArray, List.set_cons_zero, List.set_cons_succ, i64_w, i32_w]
        rfl
      refine done_ (by kernel_rfl) ?_
      obtain ⟨A5, c5, rfl⟩ := Kd.R_slice HN5.out
      obtain ⟨w6, hw6⟩ : ∃ w6, w6 = (((w5.setCell ⟨g, 0, none⟩ (.int .u8 y0)).setCell ⟨g, 1, none⟩ (.int .u8 y1)).setCell ⟨g, 2, none⟩ (.int .u8 y2)).setCell ⟨g, 3, none⟩ (.int .i64 y3) := ⟨_, rfl⟩
      have hge : w.heap.size ≤ g := by have := HG.out.1; omega
      have hgr' : gr < wr.heap.size := blk_lt HZ.out
      have HB6 := Aside0.mk (show Below w.heap.size w w6 from by rw [hw6]; exact below_set (below_set (below_set (below_set HB5.out hge) hge) hge) hge)
      have HK6 := Aside0.mk (show w6.heap[g]? = some (.cells (dcells p2) 29 (0, 0)) from by rw [hw6, HDC2.out]; exact blk_put (blk_put (blk_put (blk_put HK5.out 0 _ rfl) 1 _ rfl) 2 _ rfl) 3 _ rfl)
      have HZ6 := Aside0.mk (show w6.heap[gr]? = some (.cells #[.int .u8 0, .int .u8 0, .int .u8 0, .int .i64 0] 29 (0, 0)) from by
        have hne : gr ≠ g := by have := HG.out.2.1; omega
        rw [hw6]; exact (Below.heap_setCell _ ⟨g, 3, none⟩ _ gr hne).trans ((Below.heap_setCell _ ⟨g, 2, none⟩ _ gr hne).trans ((Below.heap_setCell _ ⟨g, 1, none⟩ _ gr hne).trans ((Below.heap_setCell _ ⟨g, 0, none⟩ _ gr hne).trans HZ5.out))))
      have hkb : KeepBut w5 w6 g none := by rw [hw6]; exact ((((KeepBut.refl w5 g none).set_ 0 _).set_ 1 _).set_ 2 _).set_ 3 _
      have HO6 := Aside0.mk (Kd.R_keep HO5.out hkb (fun k hk => hk.1))
      have hgl : g < wr.heap.size := blk_lt HK.out
      have HN6 := Aside0.mk (Kd.R_reads' (Kd.R_keep (Kd.R_mono (ok' := fun k => k ≠ g) (Kd.R_bound HN5.out) (fun k hk => by have h1 := hk.2.1; have h2 : wr.heap.size ≤ k := h1; omega)) hkb (fun k hk => hk))).2.2
      rw [← hw6]
      clear hw6 hkb hge hgl hgr' c0 c1 c2 c3 f0 f1 f2 f3 k0 k1 k2 k3 hHeld HB5 HK5 HZ5 HO5 HN5 HK HZ HO HB HFC hcI
      go_wp2_with (first
        | ((with_reducible refine gate_builtin (b := .append) (xs := #[.tmp 22, .tmp 23]) rfl ?_); at_builtin; go_must ((refine Kd.R_append_row (h1 := fun _ => rfl) (Value.int .i32) (0 : Int) (w0 := w) w.heap.size rfl (.tmp 22) (.tmp 23) 24 21 (.int .i32 0) 4 rfl Tryd.underlying24 info_i32 rfl (by decide) u6 out o2 A5 o2.length c5 (fun k => k ≠ g ∧ k ≠ gr) rfl rfl ?aF HO6.out HN6.out HB6.out HB6.out.size ?aL ?_; (case aF => exact fun k hk => by have := blk_lt HK6.out; have := blk_lt HZ6.out; omega); (case aL => have := HOL.out; have := HDL.out; have := HI.out; omega); intro v7 w7 ho hb hg hat; have HO7 := Aside0.mk ho; have HB7 := Aside0.mk hb; have HK7 := Aside0.mk (blk_grown HK6.out hg (fun h => (HO6.out.1 g h.symm).1 rfl)); have HZ7 := Aside0.mk (blk_grown HZ6.out hg (fun h => (HO6.out.1 gr h.symm).2 rfl)); clear ho hb hg hat)))
        | fail)
      go_roundg g0
      case measure => omega
      case rel => exact ⟨i + 1, p2, out ++ o2, by first | go_num | (congr 1; unfold wrap64; omega), ⟨by have := HGK.out; omega⟩, HPS, HFF, ⟨by rw [List.length_append]; have := HOL.out; have := HDL.out; omega⟩, HK7, HZ7, HO7, HB7⟩
    · have hil : (s.size : Int) ≤ i := by omega
      have hff := HF.out
      rw [List.drop_eq_nil_of_le (by rw [HLEN.out]; omega)] at hff
      have HFF := Aside0.mk (show D0 = (out, p) from by
        obtain ⟨d1, d2⟩ := D0
        simp only [feedAll, List.append_nil] at hff
        rw [hff.1, hff.2])
      have hdc : dcells p = #[.int .u8 (p.getD 0 0), .int .u8 (p.getD 1 0), .int .u8 (p.getD 2 0), .int .i64 p.length] := rfl
      obtain ⟨q0, hq0⟩ : ∃ q0, q0 = p.getD 0 0 := ⟨_, rfl⟩
      obtain ⟨q1, hq1⟩ : ∃ q1, q1 = p.getD 1 0 := ⟨_, rfl⟩
      obtain ⟨q2, hq2⟩ : ∃ q2, q2 = p.getD 2 0 := ⟨_, rfl⟩
      obtain ⟨q3, hq3⟩ : ∃ q3, q3 = (p.length : Int) := ⟨_, rfl⟩
      rw [← hq0, ← hq1, ← hq2, ← hq3] at hdc
      rw [hdc] at HK
      have HDC := Aside0.mk hdc
      have k0 : wr.cell? ⟨g, 0, none⟩ = some (.int .u8 q0) := (blk_cell HK.out 0).trans rfl
      have k1 : wr.cell? ⟨g, 1, none⟩ = some (.int .u8 q1) := (blk_cell HK.out 1).trans rfl
      have k2 : wr.cell? ⟨g, 2, none⟩ = some (.int .u8 q2) := (blk_cell HK.out 2).trans rfl
      have k3 : wr.cell? ⟨g, 3, none⟩ = some (.int .i64 q3) := (blk_cell HK.out 3).trans rfl
      have z0 : wr.cell? ⟨gr, 0, none⟩ = some (.int .u8 0) := (blk_cell HZ.out 0).trans rfl
      have z1 : wr.cell? ⟨gr, 1, none⟩ = some (.int .u8 0) := (blk_cell HZ.out 1).trans rfl
      have z2 : wr.cell? ⟨gr, 2, none⟩ = some (.int .u8 0) := (blk_cell HZ.out 2).trans rfl
      have z3 : wr.cell? ⟨gr, 3, none⟩ = some (.int .i64 0) := (blk_cell HZ.out 3).trans rfl
      have s0 := blk_frozen HZ.out 0
      have s1 := blk_frozen HZ.out 1
      have s2 := blk_frozen HZ.out 2
      have s3 := blk_frozen HZ.out 3
      clear hff hdc hq0 hq1 hq2 hq3 hgi HF HGET
      go_wp2
      have hge : w.heap.size ≤ gr := HG.out.2.2
      have hoE := Kd.R_keep HO.out (((((KeepBut.refl wr gr none).set_ 0 (.int .u8 q0)).set_ 1 (.int .u8 q1)).set_ 2 (.int .u8 q2)).set_ 3 (.int .i64 q3)) (fun k hk => hk.2)
      have hbE := below_set (below_set (below_set (below_set HB.out hge (j := 0) (v := .int .u8 q0)) hge (j := 1) (v := .int .u8 q1)) hge (j := 2) (v := .int .u8 q2)) hge (j := 3) (v := .int .i64 q3)
      have hrE := blk_put (blk_put (blk_put (blk_put HZ.out 0 (.int .u8 q0) rfl) 1 (.int .u8 q1) rfl) 2 (.int .u8 q2) rfl) 3 (.int .i64 q3) rfl
      obtain rfl : D0 = _ := HFF.out
      exact bodyPost_ret (results_ct Tryd.results10 _ _ gr 29 #[.int .u8 q0, .int .u8 q1, .int .u8 q2, .int .i64 q3] (0, 0) _ rfl hrE hu rfl (by kernel_rfl)) rfl ⟨u6, by unfold dval; rw [HDC.out]; rfl, Kd.R_mono hoE (fun _ _ => trivial), hbE⟩
end Go.Proofs.YtneioenhnioehaaDoor.UtfFeedL
