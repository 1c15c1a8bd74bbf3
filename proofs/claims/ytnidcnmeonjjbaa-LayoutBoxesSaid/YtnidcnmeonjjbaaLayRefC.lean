/- The reference's layout in memory: made, split; contracts. -/
import Derived.Test.YtnidcnmeonjjbaaLayRefB
import Derived.Test.YtnidcnmeonjjbaaWRepsOne
namespace Go.Proofs.Ytnidcnmeonjjbaa.LayRefC
open Go.RowKit Go.Proofs.Ytnidcnmeonjjbaa.Kit Go.Proofs.Ytnidcnmeonjjbaa.Plain Go.Proofs.Ytnidcnmeonjjbaa.Mine Go.Proofs.Ytnidcnmeonjjbaa.LayPure Go.Proofs.Ytnidcnmeonjjbaa.LayRefPure Go.Proofs.Ytnidcnmeonjjbaa.LayRefA Go.Proofs.Ytnidcnmeonjjbaa.LayRefB Go.Proofs.YtnidcnmeonjjbaaW.PrintWords Go.Proofs.YtnidcnmeonjjbaaW.PrintLast Go.Proofs.YtnidcnmeonjjbaaW.PrintMore
set_option linter.unusedVariables false
set_option linter.unusedSimpArgs false
def csN (x : PN) : List Value := [.int .i64 x.p, .bool x.f, .int .i64 x.a, .int .i64 x.b]
/-- A literal of parts. -/
theorem lit_N (W : World) (base : Nat) (ok : Nat → Prop) (xs : List PN) (inner : List Value) (hr : Reps (kN.M W base (fun _ => False)) 4 xs inner) (hb : base ≤ W.heap.size) (hok : ok W.heap.size) (hm : xs.length ≤ 9223372036854775807) :
    Kd.R kN 67 (W.alloc (.cells inner.toArray 67)) base ok (.slice (some ⟨W.heap.size, 0, none⟩) xs.length xs.length) xs := by
  refine ⟨fun k hk => ?_, inner, ?_, ?_⟩
  · have : W.heap.size = k := by simpa [Value.ownBlock] using hk
    rw [← this]; exact hok
  · have h2 := World.ownsRow_lit (base := base) (e := 67) (size := 4) W inner.toArray xs.length hb (by simpa [maxLen] using hm) (by simpa using hr.1)
    rw [show kN.sz = 4 from rfl]
    simpa using h2
  · exact hr.imp_ (fun p c hp => by obtain rfl := kN_open (kN.K_of_M hp); exact kN_mkM _ _ _ p)
/-- A part of one's own row: its cells. -/
theorem cells_N {W : World} {base g n cap : Nat} {ok : Nat → Prop} {xs : List PN} (h : Kd.R kN 67 W base ok (.slice (some ⟨g, 0, none⟩) n cap) xs) (i : Nat) (x : PN) (hx : xs[i]? = some x) :
    (∀ j u, (csN x)[j]? = some u → W.cell? ⟨g, i * 4 + j, none⟩ = some u) ∧ (∀ j, W.frozen? ⟨g, i * 4 + j, none⟩ = false) ∧ i < n := by
  have hn : n = xs.length := (Kd.R_reads' h).1
  have hi : i < n := by rw [hn]; exact (List.getElem?_eq_some_iff.1 hx).1
  obtain ⟨c, _, hM, hc, hf⟩ := Kd.R_elem h zN (i : Int) (by omega) (by omega)
  rw [Int.toNat_natCast, List.getD_eq_getElem?_getD, hx] at hM
  rw [Int.toNat_natCast] at hc hf
  obtain rfl := kN_open (kN.K_of_M hM)
  exact ⟨hc, hf, hi⟩
/-- A part is written. -/
theorem set_N {W : World} {base g n cap : Nat} {ok : Nat → Prop} {xs : List PN} (h : Kd.R kN 67 W base ok (.slice (some ⟨g, 0, none⟩) n cap) xs) (i : Nat) (x y : PN) (hx : xs[i]? = some x) :
    Kd.R kN 67 ((((W.setCell ⟨g, i * 4, none⟩ (.int .i64 y.p)).setCell ⟨g, i * 4 + 1, none⟩ (.bool y.f)).setCell ⟨g, i * 4 + 2, none⟩ (.int .i64 y.a)).setCell ⟨g, i * 4 + 3, none⟩ (.int .i64 y.b)) base ok (.slice (some ⟨g, 0, none⟩) n cap) (xs.set i y) ∧
    W.grownBy ((((W.setCell ⟨g, i * 4, none⟩ (.int .i64 y.p)).setCell ⟨g, i * 4 + 1, none⟩ (.bool y.f)).setCell ⟨g, i * 4 + 2, none⟩ (.int .i64 y.a)).setCell ⟨g, i * 4 + 3, none⟩ (.int .i64 y.b)) (some g) := by
  have hn : n = xs.length := (Kd.R_reads' h).1
  have hi : i < n := by rw [hn]; exact (List.getElem?_eq_some_iff.1 hx).1
  obtain ⟨c, hcl, hM, hc, hf⟩ := Kd.R_elem h zN (i : Int) (by omega) (by omega)
  have h2 := Kd.R_seg (okp := fun _ => False) h (i : Int) (by omega) (by omega) hcl hc (j := 0) (seg := csN y) (x' := y) (by show 0 + 4 ≤ 4; decide) (by
    have hcl4 : c.length = 4 := hcl
    have : c.take 0 ++ csN y ++ c.drop (0 + (csN y).length) = csN y := by
      rw [List.take_zero, List.nil_append, List.drop_eq_nil_of_le (by show c.length ≤ 0 + 4; omega), List.append_nil]
    rw [this]
    exact kN_mkM W base _ y) (fun k hk => hk.elim)
  rw [Int.toNat_natCast] at h2
  exact h2
theorem block_N {W : World} {base : Nat} {ok : Nat → Prop} {v : Value} {xs : List PN} (h : Kd.R kN 67 W base ok v xs) (hn : 0 < xs.length) : ∃ g cap, v = .slice (some ⟨g, 0, none⟩) xs.length cap := by
  obtain ⟨_, inner, ho, hr⟩ := h
  rcases ho.2 with ⟨_, h2⟩ | ⟨g, cap, cur, rfl, _⟩
  · have := hr.1
    have hs : kN.sz = 4 := rfl
    rw [hs] at this
    first
      | omega
      | (rw [h2] at this; simp at this; omega)
  · exact ⟨g, cap, rfl⟩
/-- The reference's layout in memory. -/
structure REF (base : Nat) (W : World) (m g cap : Nat) (ps : List PN) (t : BT) : Prop where
  blk : W.heap[m]? = some (.cells #[.slice (some ⟨g, 0, none⟩) ps.length cap, .int .i64 0] 40 (0, 0))
  row : Kd.R kN 67 W base (fun k => k ≠ m) (.slice (some ⟨g, 0, none⟩) ps.length cap) ps
  ri : RI ps t
  good : LayPure.Good t.plain
  hm : base ≤ m
theorem REF.rf {base : Nat} {W : World} {m g cap : Nat} {ps : List PN} {t : BT} (R : REF base W m g cap ps t) (hl : ps.length < 1000000) : RF W m (some ⟨g, 0, none⟩) cap ps := ⟨R.blk, (Kd.R_reads' R.row).2.2, hl⟩
theorem REF.on {base : Nat} {W W' : World} {m g cap : Nat} {ps : List PN} {t : BT} (R : REF base W m g cap ps t) (hb : Below W.heap.size W W') : REF base W' m g cap ps t := ⟨blk_below R.blk hb, Kd.R_below R.row hb, R.ri, R.good, R.hm⟩
theorem REF.up {base : Nat} {W : World} {m g cap : Nat} {ps : List PN} {t : BT} (R : REF base W m g cap ps t) : base ≤ W.heap.size := Nat.le_trans R.hm (Nat.le_of_lt (blk_lt R.blk))
/-- What a call of the reference leaves alone. -/
structure Turn (base : Nat) (w w' : World) : Prop where
  below : Below base w w'
  rest : ∀ (k : Nat) (o : Obj), w.heap[k]? = some o → (∀ (cs : Array Value) (e : Nat), o = Obj.cells cs e (0, 0) → e ≠ 40 ∧ e ≠ 67) → w'.heap[k]? = some o
theorem Turn.of_below {base : Nat} {w w' : World} (hb : Below w.heap.size w w') (h : base ≤ w.heap.size) : Turn base w w' := ⟨hb.mono h, fun k o ho _ => blk_below ho hb⟩
theorem Turn.trans {base : Nat} {w w1 w2 : World} (a : Turn base w w1) (b : Turn base w1 w2) : Turn base w w2 := ⟨a.below.trans b.below, fun k o ho hc => b.rest k o (a.rest k o ho hc) hc⟩
section
set_option maxHeartbeats 3200000
set_option maxRecDepth 100000
theorem rnew_c (p : Int) (w : World) : Calls Try.prog 10 #[.int .i64 p] w fun e w' => ∃ m g cap, e = .returned (.pointer (some ⟨m, 0, none⟩)) ∧ REF w.heap.size w' m g cap [leafN p] (.leaf 0 p) ∧ Below w.heap.size w w' := by
  go_enter Try.func10, Try.ntmps10
  go_wp2_with fail
  go_returns
  obtain ⟨w1, hw1⟩ : ∃ w1, w1 = w.alloc (.cells #[.int .i64 p, .bool false, .int .i64 (-1), .int .i64 0] 67) := ⟨_, rfl⟩
  have hs : w1.heap.size = w.heap.size + 1 := by rw [hw1]; simp
  have hR : Kd.R kN 67 w1 w.heap.size (fun _ => True) (.slice (some ⟨w.heap.size, 0, none⟩) 1 1) [leafN p] := by
    rw [hw1]; exact lit_N w w.heap.size (fun _ => True) [leafN p] _ (Reps.c4 (kN_mkM w _ _ (leafN p)) (Reps.none _ _)) (Nat.le_refl _) trivial (by simp)
  rw [← hw1]
  refine ⟨w.heap.size + 1, w.heap.size, 1, rfl, ⟨?_, ?_, ri_new p, good_leaf p, Nat.le_succ _⟩, ?_⟩
  · rw [← hs]; exact blk_new w1 _
  · exact Kd.R_mono (Kd.R_bound (Kd.R_alloc hR _)) (fun k hk => by
      obtain ⟨_, _, _, e, he, cs, hcs⟩ := hk
      intro e2
      have : e = 67 := by simpa [kN, Kd.iso, Kd.pair, Kd.int, Kd.bool, Kd.scalar] using he
      rw [e2, ← hs, blk_new w1 _] at hcs
      injection hcs with h1
      injection h1 with _ h2
      rw [this] at h2
      exact absurd h2 (by decide))
  · rw [hw1]; exact below_alloc (below_alloc (Below.refl _ _) _) _
theorem rsplit_c (base m g cap : Nat) (ps : List PN) (t : BT) (p q : Int) (f : Bool) (w : World) (R : REF base w m g cap ps t) (hl : ps.length < 1000) :
    Calls Try.prog 12 #[.pointer (some ⟨m, 0, none⟩), .int .i64 p, .int .i64 q, .bool f] w fun e w' => ∃ g' cap' ps' t', e = .returned (.int .i64 (deedT t.plain p q f false).2) ∧ REF base w' m g' cap' ps' t' ∧ t'.plain = (deedT t.plain p q f false).1 ∧ ps'.length ≤ ps.length + 2 ∧ Turn base w w' := by
  have hun := Try.underlying67
  have hul := Try.underlying40
  have HFP := Aside0.mk (fun W h => rfind_c m (some ⟨g, 0, none⟩) cap ps p t R.ri.rep W h)
  have HFQ := Aside0.mk (fun W h => rfind_c m (some ⟨g, 0, none⟩) cap ps q t R.ri.rep W h)
  have HPN := Aside0.mk (fun W h => rpanes_c m (some ⟨g, 0, none⟩) cap ps t R.ri.rep (by have := R.good.2; omega) W h)
  rw [R.ri.root] at HFP HFQ HPN
  have HR := Aside0.mk R
  have HL := Aside0.mk hl
  have c1 := (blk_cell R.blk 1).trans (rfl : _ = some (Value.int .i64 0))
  cases hp : BT.findL t p with
  | none =>
    rw [hp] at HFP
    have HD := Aside0.mk (show deedT t.plain p q f false = (t.plain, 4) from by unfold deedT; rw [if_neg (by decide), if_neg ((findL_none t p).1 hp)])
    clear R hp hl
    rw [HD.out]
    rw [show resI none = (-1 : Int) from rfl] at HFP
    go_enter Try.func12, Try.ntmps12
    go_wp2_with fail
    refine (HFP.out w (HR.out.rf (by have := HL.out; omega))).mono ?_
    rintro e w1 ⟨rfl, hb⟩
    have HB1 := Aside0.mk hb
    clear hb c1
    go_wp2_with fail
    go_returns
    exact ⟨g, cap, ps, t, rfl, HR.out.on HB1.out, rfl, Nat.le_add_right _ _, Turn.of_below HB1.out HR.out.up⟩
  | some k0 =>
    rw [hp] at HFP
    have hp1 : p ∈ t.plain.leaves := by
      apply Classical.byContradiction
      intro e
      have := (findL_none t p).2 e
      rw [hp] at this
      cases this
    rw [show resI (some k0) = (k0 : Int) from rfl] at HFP
    have e1 : decide ((k0 : Int) < 0) = false := decide_eq_false (by omega)
    cases hq : BT.findL t q with
    | some k1 =>
      rw [hq] at HFQ
      have hq1 : q ∈ t.plain.leaves := by
        apply Classical.byContradiction
        intro e
        have := (findL_none t q).2 e
        rw [hq] at this
        cases this
      have HD := Aside0.mk (show deedT t.plain p q f false = (t.plain, 6) from by unfold deedT; rw [if_neg (by decide), if_pos hp1, if_pos hq1])
      rw [show resI (some k1) = (k1 : Int) from rfl] at HFQ
      have e2 : decide ((0 : Int) ≤ (k1 : Int)) = true := decide_eq_true (by omega)
      clear R hp hq hp1 hq1 hl
      rw [HD.out]
      go_enter Try.func12, Try.ntmps12
      go_wp2_with fail
      refine (HFP.out w (HR.out.rf (by have := HL.out; omega))).mono ?_
      rintro e w1 ⟨rfl, hb⟩
      have HR1 := Aside0.mk (HR.out.on hb)
      have HB1 := Aside0.mk hb
      have c1 := (blk_cell HR1.out.blk 1).trans (rfl : _ = some (Value.int .i64 0))
      clear hb
      go_wp2_with fail
      refine (HFQ.out w1 (HR1.out.rf (by have := HL.out; omega))).mono ?_
      rintro e w2 ⟨rfl, hb⟩
      have HB2 := Aside0.mk (below_kept HB1.out hb)
      clear hb c1
      go_wp2_with fail
      go_returns
      exact ⟨g, cap, ps, t, rfl, HR.out.on HB2.out, rfl, Nat.le_add_right _ _, Turn.of_below HB2.out HR.out.up⟩
    | none =>
      rw [hq] at HFQ
      rw [show resI none = (-1 : Int) from rfl] at HFQ
      have hq1 := (findL_none t q).1 hq
      obtain ⟨n, hn⟩ : ∃ n, n = t.plain.leaves.length := ⟨_, rfl⟩
      have HN := Aside0.mk hn
      have HK0 := Aside0.mk (findL_mem t p k0 hp)
      have HON := Aside0.mk (onlyL R.ri.nd R.good.1 hp)
      have hn6 : (n : Int) ≤ 6 := by have := R.good.2; omega
      by_cases h6 : n = 6
      · have HD := Aside0.mk (show deedT t.plain p q f false = (t.plain, 5) from by unfold deedT; rw [if_neg (by decide), if_pos hp1, if_neg hq1, if_pos (by omega)])
        have hb6 : decide ((6 : Int) ≤ (n : Int)) = true := decide_eq_true (by omega)
        clear R hp hq hp1 hq1 hn h6 hl
        rw [HD.out]
        go_enter Try.func12, Try.ntmps12
        go_wp2_with fail
        refine (HFP.out w (HR.out.rf (by have := HL.out; omega))).mono ?_
        rintro e w1 ⟨rfl, hb⟩
        have HR1 := Aside0.mk (HR.out.on hb)
        have HB1 := Aside0.mk hb
        have c1 := (blk_cell HR1.out.blk 1).trans (rfl : _ = some (Value.int .i64 0))
        clear hb
        go_wp2_with fail
        refine (HFQ.out w1 (HR1.out.rf (by have := HL.out; omega))).mono ?_
        rintro e w2 ⟨rfl, hb⟩
        have HR2 := Aside0.mk (HR1.out.on hb)
        have HB2 := Aside0.mk (below_kept HB1.out hb)
        clear c1
        have c1 := (blk_cell HR2.out.blk 1).trans (rfl : _ = some (Value.int .i64 0))
        clear hb
        go_wp2_with fail
        refine (HPN.out w2 (HR2.out.rf (by have := HL.out; omega))).mono ?_
        rintro e w3 ⟨v, rfl, hv, hb⟩
        have HB3 := Aside0.mk (below_kept HB2.out hb)
        obtain ⟨A, c, rfl⟩ := Kd.R_slice hv
        rw [← HN.out]
        clear hb hv c1
        go_wp2_with fail
        go_returns
        exact ⟨g, cap, ps, t, rfl, HR.out.on HB3.out, rfl, Nat.le_add_right _ _, Turn.of_below HB3.out HR.out.up⟩
      · have hb6 : decide ((6 : Int) ≤ (n : Int)) = false := decide_eq_false (by omega)
        have HD := Aside0.mk (show deedT t.plain p q f false = (t.plain.split p q f, 0) from by unfold deedT; rw [if_neg (by decide), if_pos hp1, if_neg hq1, if_neg (by omega)])
        have HGS := Aside0.mk (show LayPure.Good (t.plain.split p q f) from (good_split R.good hp1 hq1 (by omega)).1)
        have hk0 : k0 < ps.length := R.ri.rep.lt k0 (lv_block HK0.out)
        have hlen : (ps.length : Int) < 1000 := by omega
        have hk0i : (k0 : Int) < ps.length := by omega
        clear R hp hq hp1 hq1 hn h6 hl
        rw [HD.out]
        go_enter Try.func12, Try.ntmps12
        go_wp2_with fail
        refine (HFP.out w (HR.out.rf (by have := HL.out; omega))).mono ?_
        rintro e w1 ⟨rfl, hb⟩
        have HR1 := Aside0.mk (HR.out.on hb)
        have HB1 := Aside0.mk hb
        have c1 := (blk_cell HR1.out.blk 1).trans (rfl : _ = some (Value.int .i64 0))
        clear hb
        go_wp2_with fail
        refine (HFQ.out w1 (HR1.out.rf (by have := HL.out; omega))).mono ?_
        rintro e w2 ⟨rfl, hb⟩
        have HR2 := Aside0.mk (HR1.out.on hb)
        have HB2 := Aside0.mk (below_kept HB1.out hb)
        clear c1
        have c1 := (blk_cell HR2.out.blk 1).trans (rfl : _ = some (Value.int .i64 0))
        clear hb
        go_wp2_with fail
        refine (HPN.out w2 (HR2.out.rf (by have := HL.out; omega))).mono ?_
        rintro e w3 ⟨v, rfl, hv, hb⟩
        have HR3 := Aside0.mk (HR2.out.on hb)
        have HB3 := Aside0.mk (below_kept HB2.out hb)
        obtain ⟨A, c, rfl⟩ := Kd.R_slice hv
        rw [← HN.out]
        clear hb hv c1
        have c0 := (blk_cell HR3.out.blk 0).trans (rfl : _ = some (Value.slice (some ⟨g, 0, none⟩) ps.length cap))
        go_upto_region 9 with fail
        obtain ⟨w4, hw4⟩ : ∃ w4, w4 = w3.alloc (.cells #[.int .i64 p, .bool false, .int .i64 (-1), .int .i64 0, .int .i64 q, .bool false, .int .i64 (-1), .int .i64 0] 67) := ⟨_, rfl⟩
        have HS4 := Aside0.mk (show w4.heap.size = w3.heap.size + 1 from by rw [hw4]; simp)
        have HB34 := Aside0.mk (show Below w3.heap.size w3 w4 from by rw [hw4]; exact below_alloc (Below.refl _ _) _)
        have HC4 := Aside0.mk (show Kd.C kN w4 (some ⟨w3.heap.size, 0, none⟩) 2 [leafN p, leafN q] from by
          rw [hw4]
          exact (Kd.R_reads' (lit_N w3 w3.heap.size (fun _ => True) [leafN p, leafN q] _ (Reps.c4 (kN_mkM w3 _ _ (leafN p)) (Reps.c4 (kN_mkM w3 _ _ (leafN q)) (Reps.none _ _))) (Nat.le_refl _) trivial (by simp))).2.2)
        have HR4 := Aside0.mk (HR3.out.on HB34.out)
        have HW4 := Aside0.mk hw4.symm
        have HLP := Aside0.mk (show (ps ++ [leafN p, leafN q]).length = ps.length + 2 from by simp)
        have HML := Aside0.mk (blk_lt HR4.out.blk)
        clear hw4
        go_upto_region 10 with (first
          | ((with_reducible refine gate_builtin (b := .append) (xs := #[.tmp 45, .tmp 50]) rfl ?_); at_builtin; go_must ((rw [HW4.out]; refine Kd.R_append_rows kN (w0 := w4) base rfl (.tmp 45) (.tmp 50) 38 67 (.agg #[.int .i64 0, .bool false, .int .i64 0, .int .i64 0]) 32 rfl Try.underlying38 info_N rfl (by decide) (by omega) (.slice (some ⟨g, 0, none⟩) ps.length cap) ps [leafN p, leafN q] (some ⟨w3.heap.size, 0, none⟩) 2 2 (fun k => k ≠ m) (fun _ => False) rfl rfl HR4.out.row HC4.out ?aK (fun _ hk => hk.elim) ?aF (Below.refl _ _) HR4.out.up ?aL ?_; (case aK => exact fun x cs h => by rw [kN_open h]; exact kN_mkM _ _ _ x); (case aF => exact fun k hk => by have := HML.out; omega); (case aL => have := HL.out; omega); intro v6 w6 ho hb hg hat; obtain ⟨g6, cap6, he⟩ := block_N ho (by rw [HLP.out]; omega); rw [HLP.out] at he; subst he; have HO6 := Aside0.mk ho; have HB6 := Aside0.mk hb; have HG6 := Aside0.mk hg; have HM6 := Aside0.mk (blk_grown HR4.out.blk hg (fun h => HR4.out.row.1 m h.symm rfl)); have m0 := (blk_cell HM6.out 0).trans (rfl : _ = some (Value.slice (some ⟨g, 0, none⟩) ps.length cap)); have fm := blk_frozen HM6.out 0; clear ho hb hg hat)))
          | fail)
        obtain ⟨w7, hw7⟩ : ∃ w7, w7 = w6.setCell ⟨m, 0, none⟩ (.slice (some ⟨g6, 0, none⟩) (ps.length + 2) cap6) := ⟨_, rfl⟩
        have HO7 := Aside0.mk (show Kd.R kN 67 w7 base (fun k => k ≠ m) (.slice (some ⟨g6, 0, none⟩) (ps.length + 2) cap6) (ps ++ [leafN p, leafN q]) from by rw [hw7]; exact Kd.R_far (p := ⟨m, 0, none⟩) HO6.out (fun k hk => hk) _)
        have HM7 := Aside0.mk (show w7.heap[m]? = some (.cells #[.slice (some ⟨g6, 0, none⟩) (ps.length + 2) cap6, .int .i64 0] 40 (0, 0)) from by rw [hw7]; exact blk_put HM6.out 0 _ rfl)
        have HB7 := Aside0.mk (show Below base w4 w7 from by rw [hw7]; exact HB6.out.setCell HR.out.hm _)
        have HF7 := Aside0.mk (show ∀ k, k < w4.heap.size → k ≠ m → k ≠ g → w7.heap[k]? = w4.heap[k]? from fun k h1 h2 h3 => by
          rw [hw7, Below.heap_setCell _ _ _ k h2]
          exact HG6.out.block k h1 (by intro e; simp [Value.ownBlock] at e; exact h3 e))
        have HGM := Aside0.mk (show g6 ≠ m from HO6.out.1 g6 (by simp [Value.ownBlock]))
        rw [← hw7]
        clear hw7 m0 fm
        have hx7 : ∃ x, (ps ++ [leafN p, leafN q])[k0]? = some x := ⟨_, List.getElem?_eq_getElem (by rw [HLP.out]; omega)⟩
        obtain ⟨x, hx7⟩ := hx7
        have HX7 := Aside0.mk hx7
        obtain ⟨hcell, hfr, _⟩ := cells_N HO7.out k0 x hx7
        have n0 : w7.cell? ⟨g6, k0 * 4, none⟩ = some (.int .i64 x.p) := hcell 0 _ rfl
        have n1 : w7.cell? ⟨g6, k0 * 4 + 1, none⟩ = some (.bool x.f) := hcell 1 _ rfl
        have n2 : w7.cell? ⟨g6, k0 * 4 + 2, none⟩ = some (.int .i64 x.a) := hcell 2 _ rfl
        have n3 : w7.cell? ⟨g6, k0 * 4 + 3, none⟩ = some (.int .i64 x.b) := hcell 3 _ rfl
        have f0 : w7.frozen? ⟨g6, k0 * 4, none⟩ = false := hfr 0
        have f1 := hfr 1
        have f2 := hfr 2
        have f3 := hfr 3
        have m0 := (blk_cell HM7.out 0).trans (rfl : _ = some (Value.slice (some ⟨g6, 0, none⟩) (ps.length + 2) cap6))
        have hk2 : (k0 : Int) < (ps.length : Int) + 2 := by omega
        have hk3 : k0 < ps.length + 2 := by omega
        clear hx7 hcell hfr c0
        go_wp2_with fail
        go_returns
        obtain ⟨hs, hg⟩ := set_N HO7.out k0 x ⟨0, f, (ps.length : Int), (ps.length : Int) + 1⟩ HX7.out
        have hmg : m ≠ g6 := fun e => HGM.out e.symm
        refine ⟨g6, cap6, splitL ps k0 p q f, t.splitAt k0 p q f ps.length (ps.length + 1), rfl, ⟨?_, ?_, ri_split HR.out.ri HK0.out q f, ?_, HR.out.hm⟩, ?_, by rw [splitL_len]; exact Nat.le_refl _, ?_, ?_⟩
        · rw [splitL_len]
          exact blk_far (blk_far (blk_far (blk_far HM7.out hmg _) hmg _) hmg _) hmg _
        · rw [splitL_len]
          exact hs
        · rw [BT.plain_splitAt k0 p q f _ _ t HON.out]; exact HGS.out
        · exact BT.plain_splitAt k0 p q f _ _ t HON.out
        · have h6 : base ≤ g6 := Kd.R_base HO7.out g6 (by simp [Value.ownBlock])
          exact (((((HB3.out.mono HR.out.up).trans (HB34.out.mono HR3.out.up)).trans HB7.out).setCell h6 _).setCell h6 _ |>.setCell h6 _).setCell h6 _
        · intro k o ho hty
          have k1 : k < w.heap.size := blk_lt ho
          have h3 : w3.heap[k]? = some o := blk_below ho HB3.out
          have h4 : w4.heap[k]? = some o := blk_below h3 HB34.out
          have e1 : k ≠ m := by
            rintro rfl
            rw [HR4.out.blk] at h4
            exact (hty _ _ (Option.some.inj h4).symm).1 rfl
          have e2 : k ≠ g := by
            rintro rfl
            obtain ⟨inner, hown⟩ := Kd.R_own HR4.out.row
            obtain ⟨cs, hcs⟩ := own_typed hown k (by simp [Value.ownBlock])
            rw [hcs] at h4
            exact (hty _ _ (Option.some.inj h4).symm).2 rfl
          have h7 : w7.heap[k]? = some o := (HF7.out k (blk_lt h4) e1 e2).trans h4
          have e3 : k ≠ g6 := by
            rintro rfl
            obtain ⟨inner, hown⟩ := Kd.R_own HO7.out
            obtain ⟨cs, hcs⟩ := own_typed hown k (by simp [Value.ownBlock])
            rw [hcs] at h7
            exact (hty _ _ (Option.some.inj h7).symm).2 rfl
          rw [Below.heap_setCell _ _ _ k e3, Below.heap_setCell _ _ _ k e3, Below.heap_setCell _ _ _ k e3, Below.heap_setCell _ _ _ k e3]
          exact h7
end
end Go.Proofs.Ytnidcnmeonjjbaa.LayRefC
