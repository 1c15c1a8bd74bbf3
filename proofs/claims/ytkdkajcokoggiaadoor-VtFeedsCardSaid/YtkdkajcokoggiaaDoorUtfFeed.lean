/- utf.Decoder.Feed, Flush as contracts: what is told and what is under way; the library's two tables hold what their texts lay. -/
import Derived.Test.YtkdkajcokoggiaaDoorUtfDec
import Derived.Laws.CopyOwn
namespace Go.Proofs.YtkdkajcokoggiaaDoor.UtfFeed
open Go.RowKit Go.Proofs.YtkdkajcokoggiaaDoor.Kit Go.Proofs.YtkdkajcokoggiaaDoor.Plain Go.Proofs.YtkdkajcokoggiaaDoor.Mine Go.Proofs.YtkdkajcokoggiaaDoor.UtfPure Go.Proofs.YtkdkajcokoggiaaDoor.UtfFull Go.Proofs.YtkdkajcokoggiaaDoor.UtfDec Go.Proofs.YtkdkajcokoggiaaDoorW.PrintWords Go.Proofs.YtkdkajcokoggiaaDoorW.PrintLast Go.Proofs.YtkdkajcokoggiaaDoorW.PrintMore
open Go.Lib (firstT accLo accHi Utf8Tabs firstT_cases slowN decodeN)
set_option linter.unusedVariables false
set_option linter.unusedSimpArgs false
/-- The four cells of a Decoder under way with bytes. -/
def dcells (p : List Int) : Array Value := #[.int .u8 (p.getD 0 0), .int .u8 (p.getD 1 0), .int .u8 (p.getD 2 0), .int .i64 p.length]
def dval (p : List Int) : Value := .agg (dcells p)
theorem info_i32 : (Tryd.prog.info? 21).map (fun i => (i.zero, i.size, i.bytes)) = some (some (.int .i32 0), 1, 4) := by kernel_rfl
/-- A Decoder's block, read as its bytes. -/
theorem dblock_C {W : World} {g : Nat} {p : List Int} (h : W.heap[g]? = some (.cells (dcells p) 25 (0, 0))) (hp : p.length ≤ 3) : Kd.C (Kd.int .u8) W (some ⟨g, 0, none⟩) p.length p := by
  refine Kd.C_of_reads (enc := Value.int .u8) (d := (0 : Int)) (h1 := fun _ => rfl) ⟨rfl, by omega, fun _ => ⟨_, rfl, fun j hj => ?_⟩⟩
  have e : (⟨g, 0, none⟩ : Addr).add j = ⟨g, j, none⟩ := by unfold Addr.add; split <;> simp_all
  rw [e, blk_cell h j]
  match j, hj with
  | 0, _ => rfl
  | 1, _ => rfl
  | 2, _ => rfl
  | j + 3, hj => omega
/-- A Decoder's block, a result's block, and what lay before. -/
def FS (w W : World) (gd gr : Nat) (p : List Int) : Prop :=
  Below w.heap.size w W ∧ w.heap.size ≤ gd ∧ gd < gr ∧ W.heap[gd]? = some (.cells (dcells p) 25 (0, 0)) ∧ W.heap[gr]? = some (.cells #[.int .u8 0, .int .u8 0, .int .u8 0, .int .i64 0] 25 (0, 0))
theorem fs_below {w W W' : World} {gd gr : Nat} {p : List Int} (h : FS w W gd gr p) (hb : Below W.heap.size W W') : FS w W' gd gr p := by
  obtain ⟨h1, h2, h3, h4, h5⟩ := h
  exact ⟨below_step h1 hb, h2, h3, blk_below h4 hb, blk_below h5 hb⟩
theorem dcells_pad (q : List Int) (h : q.length ≤ 3) : splice [.int .u8 0, .int .u8 0, .int .u8 0, .int .i64 0] 0 (nums .u8 q) = [.int .u8 (q.getD 0 0), .int .u8 (q.getD 1 0), .int .u8 (q.getD 2 0), .int .i64 0] := by
  match q, h with
  | [], _ => rfl
  | [a], _ => rfl
  | [a, b], _ => rfl
  | [a, b, c], _ => rfl
  | _ :: _ :: _ :: _ :: _, h => simp at h
/-- What the walk needs to know behind the copy. -/
theorem after_copy {w w4 wc w6 w7 : World} {gd gr g : Nat} {p q : List Int} (hl : q.length ≤ 3)
    (HG : Hid (w7.heap[g]? = some (.cells (splice [Value.int .u8 0, .int .u8 0, .int .u8 0, .int .i64 0] 0 (nums .u8 q)).toArray 25 (0, 0)))) (HF : Aside0 (FS w w4 gd gr p)) (HB5 : Aside0 (Below w4.heap.size w4 wc)) (HB6 : Aside0 (Below wc.heap.size wc w6)) (HW : Aside0 (Below g w6 w7)) (HGE : Aside0 (g = wc.heap.size)) :
    w7.cell? ⟨g, 0, none⟩ = some (.int .u8 (q.getD 0 0)) ∧ w7.cell? ⟨g, 1, none⟩ = some (.int .u8 (q.getD 1 0)) ∧ w7.cell? ⟨g, 2, none⟩ = some (.int .u8 (q.getD 2 0)) ∧ w7.cell? ⟨g, 3, none⟩ = some (.int .i64 0) ∧ w7.frozen? ⟨g, 3, none⟩ = false ∧
    w7.cell? ⟨gr, 0, none⟩ = some (.int .u8 0) ∧ w7.cell? ⟨gr, 1, none⟩ = some (.int .u8 0) ∧ w7.cell? ⟨gr, 2, none⟩ = some (.int .u8 0) ∧ w7.cell? ⟨gr, 3, none⟩ = some (.int .i64 0) ∧
    w7.frozen? ⟨gr, 0, none⟩ = false ∧ w7.frozen? ⟨gr, 1, none⟩ = false ∧ w7.frozen? ⟨gr, 2, none⟩ = false ∧ w7.frozen? ⟨gr, 3, none⟩ = false ∧
    Aside0 (w7.heap[g]? = some (.cells #[.int .u8 (q.getD 0 0), .int .u8 (q.getD 1 0), .int .u8 (q.getD 2 0), .int .i64 0] 25 (0, 0))) ∧ Aside0 (FS w w7 gd gr p ∧ gr < w4.heap.size ∧ Below wc.heap.size wc w7 ∧ gr ≠ g) := by
  have h9 := HG.out
  rw [dcells_pad q hl] at h9
  have hb7 : Below wc.heap.size wc w7 := HB6.out.trans (by rw [← HGE.out]; exact HW.out)
  have hW4 := below_then HB5.out HB5.out.size hb7
  have hF := fs_below HF.out hW4
  have hgr := blk_lt HF.out.2.2.2.2
  have hne : gr ≠ g := by have := HB5.out.size; have := HGE.out; omega
  exact ⟨(blk_cell h9 0).trans rfl, (blk_cell h9 1).trans rfl, (blk_cell h9 2).trans rfl, (blk_cell h9 3).trans rfl, blk_frozen h9 3, (blk_cell hF.2.2.2.2 0).trans rfl, (blk_cell hF.2.2.2.2 1).trans rfl, (blk_cell hF.2.2.2.2 2).trans rfl, (blk_cell hF.2.2.2.2 3).trans rfl,
    blk_frozen hF.2.2.2.2 0, blk_frozen hF.2.2.2.2 1, blk_frozen hF.2.2.2.2 2, blk_frozen hF.2.2.2.2 3, ⟨h9⟩, ⟨hF, hgr, hb7, hne⟩⟩
theorem copy_src {w : World} {g : Nat} {A : Option Addr} {b : List Int} (h : Kd.C (Kd.int .u8) w A b.length b) : 0 < (nums .u8 b).length → (some ⟨g, 0, none⟩ : Option Addr) = some ⟨g, 0, none⟩ ∧ ∃ ad, A = some ad ∧ ∀ j v, (nums .u8 b)[j]? = some v → w.cell? (ad.add j) = some v := by
  intro hp
  have hl : 0 < b.length := by simpa [nums] using hp
  obtain ⟨ad, e, _⟩ := Kd.at_int h (0 : Int) (by omega) (by omega)
  refine ⟨rfl, ad, e, fun j v hj => ?_⟩
  have hjl : j < b.length := by have := (List.getElem?_eq_some_iff.1 hj).1; simpa [nums] using this
  obtain ⟨ad2, e2, hc⟩ := Kd.at_int h (j : Int) (by omega) (by omega)
  rw [e] at e2
  cases e2
  rw [Int.toNat_natCast, rd_nth b j hjl] at hc
  rw [hc]
  have h2 := (List.getElem?_eq_some_iff.1 hj).2
  simp only [nums, List.getElem_map] at h2
  rw [h2]
set_option maxHeartbeats 3200000 in
set_option maxRecDepth 100000 in
theorem feed_c (p : List Int) (c : Int) (w : World) (hT : Utf8Tabs 0 1 w) (hp : Bytes p) (hl : p.length ≤ 3) (hc : 0 ≤ c ∧ c < 256) :
    Calls Tryd.prog 38 #[dval p, .int .u8 c] w fun e w' => ∃ v : Value, e = .returned (.tuple #[dval (UtfPure.drain (p ++ [c])).2, v]) ∧ Kd.R (Kd.int .i32) 21 w' w.heap.size (fun _ => True) v (UtfPure.drain (p ++ [c])).1 ∧ Below w.heap.size w w' := by
  have hu := Tryd.underlying25
  have HT := Aside0.mk hT
  have HP := Aside0.mk hp
  have hpl : (p.length : Int) ≤ 3 := by omega
  have HL := Aside0.mk hl
  have HC := Aside0.mk hc
  have hd : dcells p = #[.int .u8 (p.getD 0 0), .int .u8 (p.getD 1 0), .int .u8 (p.getD 2 0), .int .i64 p.length] := rfl
  unfold dval
  obtain ⟨q0, hq0⟩ : ∃ q0, q0 = p.getD 0 0 := ⟨_, rfl⟩
  obtain ⟨q1, hq1⟩ : ∃ q1, q1 = p.getD 1 0 := ⟨_, rfl⟩
  obtain ⟨q2, hq2⟩ : ∃ q2, q2 = p.getD 2 0 := ⟨_, rfl⟩
  rw [← hq0, ← hq1, ← hq2] at hd
  rw [hd]
  have HD := Aside0.mk hd
  obtain ⟨D, hD⟩ : ∃ D, D = UtfPure.drain (p ++ [c]) := ⟨_, rfl⟩
  rw [← hD]
  have HDD := Aside0.mk hD
  clear hT hp hl hc hd hq0 hq1 hq2 hD
  go_enter Tryd.func38, Tryd.ntmps38
  go_upto_region 1 with fail
  obtain ⟨w2, hw2⟩ : ∃ w2, w2 = (w.alloc (.cells #[.int .u8 q0, .int .u8 q1, .int .u8 q2, .int .i64 p.length] 25)).alloc (.cells #[.int .u8 0, .int .u8 0, .int .u8 0, .int .i64 0] 25) := ⟨_, rfl⟩
  obtain ⟨gd, hgd⟩ : ∃ gd, gd = w.heap.size := ⟨_, rfl⟩
  obtain ⟨gr, hgr⟩ : ∃ gr, gr = w.heap.size + 1 := ⟨_, rfl⟩
  have HF2 := Aside0.mk (show FS w w2 gd gr p from by
    have hb1 := below_alloc (Below.refl w.heap.size w) (.cells #[.int .u8 q0, .int .u8 q1, .int .u8 q2, .int .i64 p.length] 25)
    have hb2 := below_alloc hb1 (.cells #[.int .u8 0, .int .u8 0, .int .u8 0, .int .i64 0] 25)
    have k1 := blk_alloc (blk_new w (.cells #[.int .u8 q0, .int .u8 q1, .int .u8 q2, .int .i64 p.length] 25)) (.cells #[.int .u8 0, .int .u8 0, .int .u8 0, .int .i64 0] 25)
    have k2 := blk_new (w.alloc (.cells #[.int .u8 q0, .int .u8 q1, .int .u8 q2, .int .i64 p.length] 25)) (.cells #[.int .u8 0, .int .u8 0, .int .u8 0, .int .i64 0] 25)
    rw [World.size_alloc] at k2
    subst hw2 hgd hgr
    exact ⟨hb2, Nat.le_refl _, by omega, by rw [HD.out]; exact k1, k2⟩)
  rw [← hw2, ← hgr, ← hgd]
  have hc3 : w2.cell? ⟨gd, 3, none⟩ = some (.int .i64 p.length) := by rw [blk_cell HF2.out.2.2.2.1 3, HD.out]; rfl
  have HSRC := Aside0.mk (dblock_C HF2.out.2.2.2.1 HL.out)
  have HT2 := Aside0.mk (tabs_below HT.out (show Below w.heap.size w w2 from HF2.out.1))
  clear hw2 hgd hgr HT
  go_wp2_with (first
    | ((with_reducible refine gate_builtin (b := .append) (xs := #[.const (.slice none 0 0), .tmp 14]) rfl ?_); at_builtin; go_must ((refine Kd.R_append_row (h1 := fun _ => rfl) (Value.int .u8) (0 : Int) (w0 := w2) w2.heap.size rfl (.const (.slice none 0 0)) (.tmp 14) 42 5 (.int .u8 0) 1 rfl Tryd.underlying42 info_u8 rfl (by decide) (.slice none 0 0) [] p (some ⟨gd, 0, none⟩) p.length 3 (fun _ => True) rfl rfl ?aF (Kd.R_nil _ _ _ _ _) HSRC.out (Below.refl _ _) (Nat.le_refl _) ?aL ?_; (case aF => exact fun _ _ => trivial); (case aL => have := HL.out; simp; omega); intro v1 w3 ho hb hg hat; rw [List.nil_append] at ho; have HO3 := Aside0.mk ho; have HB3 := Aside0.mk hb; clear ho hb hg hat)))
    | ((with_reducible refine gate_builtin (b := .append) (xs := #[.tmp 15, .tmp 17]) rfl ?_); at_builtin; go_must ((refine Kd.R_append (Kd.int .u8) (w0 := w2) w2.heap.size rfl (.tmp 15) (.tmp 17) 42 5 (.int .u8 0) 1 rfl Tryd.underlying42 info_u8 rfl (by decide) (by omega) v1 p c [.int .u8 c] (fun _ => True) (fun _ => False) rfl rfl ?aP (fun _ hk => hk.elim) ?aF HO3.out HB3.out HB3.out.size ?aL ?_; (case aP => rfl); (case aF => exact fun _ _ => trivial); (case aL => have := HL.out; omega); intro v2 w4 ho hb hg hat; have HO4 := Aside0.mk ho; have HB4 := Aside0.mk hb; clear ho hb hg hat)))
    | fail)
  obtain ⟨A4, c4, rfl⟩ := Kd.R_slice HO4.out
  have HRD4 := Aside0.mk (Kd.R_reads' HO4.out).2.2
  have HCC4 := Aside0.mk (Kd.R_reads' HO4.out).2.1
  have HF4 := Aside0.mk (fs_below HF2.out HB4.out)
  have HT4 := Aside0.mk (tabs_below HT2.out HB4.out)
  have HBB := Aside0.mk (show Bytes (p ++ [c]) from fun x hx => (List.mem_append.1 hx).elim (HP.out x) (fun h => by simp at h; rw [h]; exact HC.out))
  have HBLN := Aside0.mk (show (p ++ [c]).length ≤ 4 by have := HL.out; simp; omega)
  obtain ⟨b0, hb0⟩ : ∃ b0, b0 = p ++ [c] := ⟨_, rfl⟩
  rw [← hb0] at HRD4 HCC4 HDD HBB HBLN ⊢
  clear hb0 HO4 HB4 HF2 HT2 HO3 HB3 HSRC hc3
  go_loopg [6, 7] b0.length (fun g v6 v7 W => ∃ (A : Option Addr) (cc : Nat) (bb out : List Int), v6 = .slice A bb.length cc ∧ Aside0 (bb.length ≤ g) ∧ Aside0 (bb.length ≤ cc ∧ bb.length ≤ 4 ∧ out.length + bb.length ≤ 4) ∧ Aside0 (Bytes bb) ∧ Aside0 (Kd.C (Kd.int .u8) w4 A bb.length bb) ∧ Aside0 (D = (out ++ (UtfPure.drain bb).1, (UtfPure.drain bb).2)) ∧
    Aside0 (Kd.R (Kd.int .i32) 21 W w4.heap.size (fun _ => True) v7 out) ∧ Aside0 (Below w4.heap.size w4 W))
  case atStart => exact ⟨A4, c4, b0, [], rfl, ⟨Nat.le_refl _⟩, ⟨⟨HCC4.out, HBLN.out, by have := HBLN.out; simpa using this⟩⟩, HBB, HRD4, ⟨by rw [HDD.out]; rfl⟩, ⟨Kd.R_nil _ _ _ _ _⟩, ⟨Below.refl _ _⟩⟩
  case round =>
    clear HDD HBB HBLN HRD4 HCC4
    obtain ⟨A, cc, bb, out, rfl, HG, HLN, HBB, HRD, HDD, HO, HB⟩ := hrel
    obtain ⟨fb, hfb⟩ : ∃ fb, fb = (decide (0 < bb.length) && full bb) := ⟨_, rfl⟩
    have HFB := Aside0.mk hfb
    clear hfb
    go_upto_region 3 with fail
    go_cut [25] (fun v25 W => v25 = .bool fb ∧ Aside0 (Kd.R (Kd.int .i32) 21 W w4.heap.size (fun _ => True) u7 out) ∧ Aside0 (Below w4.heap.size w4 W))
    case first =>
      by_cases hbb : bb.length = 0
      · have h0 : decide ((0 : Int) < bb.length) = false := decide_eq_false (by omega)
        have h1 : decide (0 < bb.length) = false := decide_eq_false (by omega)
        have HV := Aside0.mk (show fb = false from by rw [HFB.out, h1]; rfl)
        clear hbb
        go_wp2_with fail
        go_meet
        case rel => exact ⟨by rw [HV.out], HO, HB⟩
      · have h0 : decide ((0 : Int) < bb.length) = true := decide_eq_true (by omega)
        have h1 : decide (0 < bb.length) = true := decide_eq_true (by omega)
        have HV := Aside0.mk (show full bb = fb from by rw [HFB.out, h1]; rfl)
        have HFC := Aside0.mk (full_c A cc bb wr (tabs_below HT4.out HB.out) (Kd.C_below HRD.out HB.out) HBB.out (by omega))
        rw [HV.out] at HFC
        clear hbb
        go_wp2_with fail
        refine HFC.out.mono ?_
        rintro e w5 ⟨rfl, hb⟩
        have HB5 := Aside0.mk (below_then HB.out HB.out.size hb)
        have HO5 := Aside0.mk (Kd.R_below HO.out hb)
        clear hb HFC
        go_wp2_with fail
        go_meet
        case rel => exact ⟨rfl, HO5, HB5⟩
    case rest =>
      obtain ⟨rfl, HO5, HB5⟩ := hcut
      clear HO HB
      cases fb with
      | true =>
        have hf := HFB.out.symm
        rw [Bool.and_eq_true] at hf
        have hne : bb ≠ [] := fun h => by rw [h] at hf; simp at hf
        have hpos : 0 < bb.length := of_decide_eq_true hf.1
        have hdo := drain_on HBB.out hne hf.2
        have hw := dec1_width HBB.out hne
        have HDC := Aside0.mk (dec_c A cc bb wc (tabs_below HT4.out HB5.out) (Kd.C_below HRD.out HB5.out) HBB.out hpos)
        have HD2 := Aside0.mk (show D = ((out ++ [((dec1 bb).1 : Int)]) ++ (UtfPure.drain (bb.drop (dec1 bb).2)).1, (UtfPure.drain (bb.drop (dec1 bb).2)).2) from by rw [HDD.out, hdo, List.append_assoc]; rfl)
        obtain ⟨r, hr⟩ : ∃ r, r = (dec1 bb).1 := ⟨_, rfl⟩
        obtain ⟨n, hn⟩ : ∃ n, n = (dec1 bb).2 := ⟨_, rfl⟩
        rw [← hr, ← hn] at HDC HD2
        rw [← hn] at hw
        have hln := HLN.out
        obtain ⟨A', c', hcut, hcl, hA⟩ := cut_from_ex (P := Tryd.prog) (Kd.int .u8) 42 5 (.int .u8 0) 1 Tryd.underlying42 info_u8 A cc bb (n : Int) (by omega) (by omega) hln.1
        rw [Int.toNat_natCast] at hcut hcl hA
        have hrd2 := hA w4 HRD.out
        obtain ⟨b2, hb2⟩ : ∃ b2, b2 = bb.drop n := ⟨_, rfl⟩
        have hb2l : b2.length = bb.length - n := by rw [hb2, List.length_drop]
        rw [← hb2] at hcut hcl hrd2 HD2
        have HCUT := Aside0.mk hcut
        have HRD2 := Aside0.mk hrd2
        have HLN2 := Aside0.mk (show b2.length ≤ c' ∧ b2.length ≤ 4 ∧ (out ++ [(r : Int)]).length + b2.length ≤ 4 from ⟨hcl, by omega, by rw [List.length_append, List.length_singleton]; omega⟩)
        have HBB2 := Aside0.mk (show Bytes b2 from by rw [hb2]; exact HBB.out.drop n)
        have HG2 := Aside0.mk (show b2.length < bb.length by omega)
        have HOL := Aside0.mk (show out.length ≤ 4 by omega)
        clear hf hne hpos hdo hw hr hn hln hcl hA hrd2 hb2 hb2l hcut HFB HDD
        go_upto_region 5 with fail
        refine HDC.out.mono ?_
        rintro e w6 ⟨rfl, hb⟩
        have HB6 := Aside0.mk (below_then HB5.out HB5.out.size hb)
        have HO6 := Aside0.mk (Kd.R_below HO5.out hb)
        clear hb HDC HO5 HB5
        go_upto_region 5 with fail
        have hcut := HCUT.out
        refine start_ (n := 9) (S := fun w' => True) (ds := []) #[false, false, false, false, false, false, false, false, false] (by kernel_rfl) rfl rfl trivial (fun hHeld => ?_)
        refine pure_ (i := 0) (N := some 31) (v := ?_) (a' := ?_) #[true, false, false, false, false, false, false, false, false] rfl rfl (by kernel_rfl) (fun _ _ _ h => h) (Or.inl ⟨by rfl, ?_⟩) ?_ ?_
        rotate_left
        · intro w'
          go_simp
          with_reducible rfl
        rotate_left
        · simp only [Act.put, List.setIfInBounds_toArray, List.set_cons_zero, List.set_cons_succ, i64_w, i32_w]
          rfl
        refine pure_ (i := 1) (N := some 32) (v := ?_) (a' := ?_) #[true, true, false, false, false, false, false, false, false] rfl rfl (by kernel_rfl) (fun _ _ _ h => h) (Or.inl ⟨by rfl, ?_⟩) ?_ ?_
        rotate_left
        · intro w'
          go_simp
          with_reducible rfl
        rotate_left
        · simp only [Act.put, List.setIfInBounds_toArray, List.set_cons_zero, List.set_cons_succ, i64_w, i32_w]
          rfl
        refine pure_ (i := 4) (N := some 35) (v := ?_) (a' := ?_) #[true, true, false, false, true, false, false, false, false] rfl rfl (by kernel_rfl) (fun _ _ _ h => h) (Or.inl ⟨by rfl, ?_⟩) ?_ ?_
        rotate_left
        · intro w'
          go_simp
          with_reducible rfl
        rotate_left
        · simp only [Act.put, List.setIfInBounds_toArray, List.set_cons_zero, List.set_cons_succ, i64_w, i32_w]
          rfl
        refine pure_ (i := 5) (N := some 36) (v := ?_) (a' := ?_) #[true, true, false, false, true, true, false, false, false] rfl rfl (by kernel_rfl) (fun _ _ _ h => h) (Or.inl ⟨by rfl, ?_⟩) ?_ ?_
        rotate_left
        · intro w'
          go_simp
          with_reducible rfl
        rotate_left
        · simp only [Act.put, List.setIfInBounds_toArray, List.set_cons_zero, List.set_cons_succ, i64_w, i32_w]
          rfl
        refine pure_ (i := 6) (N := some 37) (v := ?_) (a' := ?_) #[true, true, false, false, true, true, true, false, false] rfl rfl (by kernel_rfl) (fun _ _ _ h => h) (Or.inl ⟨by rfl, ?_⟩) ?_ ?_
        rotate_left
        · intro w'
          go_simp
          with_reducible rfl
        rotate_left
        · simp only [Act.put, List.setIfInBounds_toArray, List.set_cons_zero, List.set_cons_succ, i64_w, i32_w]
          rfl
        refine one_ (i := 2) (N := some 33) #[true, true, true, false, true, true, true, false, false] rfl rfl (by kernel_rfl) (by decide) (fun K hK => ?_)
        refine value_ (w1 := ?_) (v := ?_) (by rfl) rfl ?_ ?_
        rotate_left 2
        · go_simp
          constructor
          · rfl
          · rfl
        refine hK.out _ _ trivial (fun hHeld => ?_)
        clear hK K
        refine norm_ (a' := ?_) ?_ ?_
        rotate_left
        · show Act.put _ (some 33) _ = _
          simp only [Act.put, List.setIfInBounds_toArray, List.set_cons_zero, List.set_cons_succ, i64_w, i32_w]
          rfl
        refine one_ (i := 3) (N := some 34) #[true, true, true, true, true, true, true, false, false] rfl rfl (by kernel_rfl) (by decide) (fun K hK => ?_)
        refine Kd.R_append_step (Kd.int .i32) (w0 := w4) w4.heap.size (by rfl) (.tmp 31) (.tmp 33) 35 21 (.int .i32 0) 4 rfl Tryd.underlying35 info_i32 rfl (by decide) (by omega) u7 out (r : Int) [.int .i32 (r : Int)] (fun _ => True) (fun _ => False) rfl rfl ?aP (fun _ hk => hk.elim) ?aF (Kd.R_drew HO6.out) (below_drew HB6.out) (below_drew HB6.out).size ?aL ?_; (case aP => rfl); (case aF => exact fun _ _ => trivial); (case aL => have := HOL.out; omega)
        intro v8 w8 ho hb hg hat
        have HO8 := Aside0.mk ho
        have HB8 := Aside0.mk hb
        clear ho hb hg hat
        refine hK.out _ _ trivial (fun hHeld => ?_)
        clear hK K
        refine norm_ (a' := ?_) ?_ ?_
        rotate_left
        · show Act.put _ (some 34) _ = _
          simp only [Act.put, List.setIfInBounds_toArray, List.set_cons_zero, List.set_cons_succ, i64_w, i32_w]
          rfl
        refine pure_ (i := 7) (N := some 7) (v := ?_) (a' := ?_) #[true, true, true, true, true, true, true, true, false] rfl rfl (by kernel_rfl) (fun _ _ _ h => h) (Or.inl ⟨by rfl, ?_⟩) ?_ ?_
        rotate_left
        · intro w'
          go_simp
          with_reducible rfl
        rotate_left
        · simp only [Act.put, List.setIfInBounds_toArray, List.set_cons_zero, List.set_cons_succ, i64_w, i32_w]
          rfl
        refine pure_ (i := 8) (N := some 6) (v := ?_) (a' := ?_) #[true, true, true, true, true, true, true, true, true] rfl rfl (by kernel_rfl) (fun _ _ _ h => h) (Or.inl ⟨by rfl, ?_⟩) ?_ ?_
        rotate_left
        · intro w'
          go_simp
          with_reducible rfl
        rotate_left
        · simp only [Act.put, List.setIfInBounds_toArray, List.set_cons_zero, List.set_cons_succ, i64_w, i32_w]
          rfl
        refine done_ (by kernel_rfl) ?_
        go_wp2_with fail
        go_roundg b2.length
        case measure => have := HG.out; have := HG2.out; omega
        case rel => exact ⟨A', c', b2, out ++ [(r : Int)], rfl, ⟨Nat.le_refl _⟩, HLN2, HBB2, HRD2, HD2, HO8, HB8⟩
      | false =>
        have hfin : bb = [] ∨ full bb = false := by
          have hf := HFB.out.symm
          rcases Bool.and_eq_false_iff.1 hf with h | h
          · have h2 := of_decide_eq_false h
            exact .inl (List.eq_nil_of_length_eq_zero (by omega))
          · exact .inr h
        have hpr := part_runes HBB.out hfin
        have HD2 := Aside0.mk (show D = (out, bb) from by rw [HDD.out, drain_stop hfin]; simp)
        have HL3 := Aside0.mk hpr.1
        clear hfin hpr HDD HFB
        go_upto_region 7 with fail
        obtain ⟨w6, hw6⟩ : ∃ w6, w6 = wc.alloc (.cells #[.int .u8 0, .int .u8 0, .int .u8 0, .int .i64 0] 25) := ⟨_, rfl⟩
        obtain ⟨g, hg⟩ : ∃ g, g = wc.heap.size := ⟨_, rfl⟩
        have hb6 : Below wc.heap.size wc w6 := by rw [hw6]; exact below_alloc (Below.refl _ _) _
        have hk6 : w6.heap[g]? = some (.cells [Value.int .u8 0, .int .u8 0, .int .u8 0, .int .i64 0].toArray 25 (0, 0)) := by rw [hw6, hg]; exact blk_new wc _
        rw [← hw6, ← hg]
        have HB6 := Aside0.mk hb6
        have HK6 := Aside0.mk hk6
        have HG6 := Aside0.mk hg
        have HRD6 := Aside0.mk (Kd.C_below HRD.out (below_then HB5.out HB5.out.size hb6))
        have g0 : w6.cell? ⟨g, 0, none⟩ = some (.int .u8 0) := (blk_cell hk6 0).trans rfl
        have g1 : w6.cell? ⟨g, 1, none⟩ = some (.int .u8 0) := (blk_cell hk6 1).trans rfl
        have g2 : w6.cell? ⟨g, 2, none⟩ = some (.int .u8 0) := (blk_cell hk6 2).trans rfl
        have g3 : w6.cell? ⟨g, 3, none⟩ = some (.int .i64 0) := (blk_cell hk6 3).trans rfl
        clear hw6 hg hb6 hk6
        go_wp2_with (first
          | ((with_reducible refine gate_builtin (b := .copy) (xs := #[.tmp 39, .tmp 40]) rfl ?_); go_must ((refine wpList_copy_splice rfl (.tmp 39) (.tmp 40) 42 42 rfl 5 Tryd.underlying42 (by kernel_rfl) (some ⟨g, 0, none⟩) A 3 3 bb.length cc rfl rfl g 0 _ 25 HK6.out (nums .u8 bb) ?cn ?cp ?cf ?c1 g w6 (Below.refl _ _) (Nat.le_refl _) ?_; (case cn => rw [nums, List.length_map]; exact (Nat.min_eq_left HL3.out).symm); (case c1 => intro v hv; simp only [nums, List.mem_map] at hv; obtain ⟨x, _, rfl⟩ := hv; rfl); (case cf => have := HL3.out; simp [nums]; omega); (case cp => exact copy_src HRD6.out); intro w7 HG7 hB7; have HW7 := Aside0.mk hB7; clear hB7; rw [show (nums .u8 bb).length = bb.length from by rw [nums, List.length_map]]; obtain ⟨k0, k1, k2, k3, f3, r0, r1, r2, r3, s0, s1, s2, s3, HK7, HF7⟩ := after_copy HL3.out HG7 HF4 HB5 HB6 HW7 HG6; have hne1 : ¬ (gr = g) := HF7.out.2.2.2; have hne2 : ¬ (g = gr) := fun h => hne1 h.symm; clear g0 g1 g2 g3)))
          | fail)
        have hF := HF7.out.1
        have hb0 : Below w.heap.size w w7 := hF.1
        have hge : w.heap.size ≤ gr := Nat.le_trans hF.2.1 (Nat.le_of_lt hF.2.2.1)
        have hgg : w.heap.size ≤ g := by have h1 := HG6.out; have h2 := HB5.out.size; have h3 := HF7.out.2.1; omega
        have ho7 := Kd.R_mono (ok' := fun k => k ≠ gr ∧ k ≠ g) (Kd.R_below (Kd.R_bound HO5.out) HF7.out.2.2.1) (fun k hk => ⟨by have h1 := hk.2.1; have h2 := HF7.out.2.1; omega, by have h1 := hk.2.2.1; have h2 := HG6.out; omega⟩)
        have hoE := Kd.R_keep (Kd.R_keep ho7 ((KeepBut.refl w7 g none).set_ 3 (.int .i64 bb.length)) (fun k hk => hk.2)) (((((KeepBut.refl (w7.setCell ⟨g, 3, none⟩ (.int .i64 bb.length)) gr none).set_ 0 (.int .u8 (bb.getD 0 0))).set_ 1 (.int .u8 (bb.getD 1 0))).set_ 2 (.int .u8 (bb.getD 2 0))).set_ 3 (.int .i64 bb.length)) (fun k hk => hk.1)
        have hbE := below_set (below_set (below_set (below_set (below_set hb0 hgg (j := 3) (v := .int .i64 bb.length)) hge (j := 0) (v := .int .u8 (bb.getD 0 0))) hge (j := 1) (v := .int .u8 (bb.getD 1 0))) hge (j := 2) (v := .int .u8 (bb.getD 2 0))) hge (j := 3) (v := .int .i64 bb.length)
        have hrE := blk_put (blk_put (blk_put (blk_put ((Below.heap_setCell w7 ⟨g, 3, none⟩ (.int .i64 bb.length) gr HF7.out.2.2.2).trans hF.2.2.2.2) 0 (.int .u8 (bb.getD 0 0)) rfl) 1 (.int .u8 (bb.getD 1 0)) rfl) 2 (.int .u8 (bb.getD 2 0)) rfl) 3 (.int .i64 bb.length) rfl
        obtain rfl : D = _ := HD2.out
        exact bodyPost_ret (results_ct Tryd.results38 _ _ gr 25 #[.int .u8 (bb.getD 0 0), .int .u8 (bb.getD 1 0), .int .u8 (bb.getD 2 0), .int .i64 bb.length] (0, 0) _ rfl hrE hu rfl (by kernel_rfl)) rfl ⟨u7, rfl, Kd.R_mono (Kd.R_lower hoE (by have := HF4.out.1.size; exact this)) (fun _ _ => trivial), hbE⟩
set_option maxHeartbeats 1600000 in
set_option maxRecDepth 100000 in
theorem flush_c (p : List Int) (w : World) (hl : p.length ≤ 3) :
    Calls Tryd.prog 36 #[dval p] w fun e w' => ∃ v : Value, e = .returned (.tuple #[dval [], v]) ∧ Kd.R (Kd.int .i32) 21 w' w.heap.size (fun _ => True) v (List.replicate p.length 65533) ∧ Below w.heap.size w w' := by
  have hu := Tryd.underlying25
  have hpl : (p.length : Int) ≤ 3 := by omega
  have HL := Aside0.mk hl
  have hd : dcells p = #[.int .u8 (p.getD 0 0), .int .u8 (p.getD 1 0), .int .u8 (p.getD 2 0), .int .i64 p.length] := rfl
  unfold dval
  obtain ⟨q0, hq0⟩ : ∃ q0, q0 = p.getD 0 0 := ⟨_, rfl⟩
  obtain ⟨q1, hq1⟩ : ∃ q1, q1 = p.getD 1 0 := ⟨_, rfl⟩
  obtain ⟨q2, hq2⟩ : ∃ q2, q2 = p.getD 2 0 := ⟨_, rfl⟩
  rw [← hq0, ← hq1, ← hq2] at hd
  rw [hd, show dcells [] = #[.int .u8 0, .int .u8 0, .int .u8 0, .int .i64 0] from rfl]
  have HD := Aside0.mk hd
  obtain ⟨n, hn⟩ : ∃ n, n = p.length := ⟨_, rfl⟩
  rw [← hn] at hpl
  rw [← hn]
  have HN := Aside0.mk hn
  clear hl hd hq0 hq1 hq2 hn
  go_enter Tryd.func36, Tryd.ntmps36
  go_upto_region 1 with fail
  obtain ⟨w2, hw2⟩ : ∃ w2, w2 = (w.alloc (.cells #[.int .u8 q0, .int .u8 q1, .int .u8 q2, .int .i64 n] 25)).alloc (.cells #[.int .u8 0, .int .u8 0, .int .u8 0, .int .i64 0] 25) := ⟨_, rfl⟩
  obtain ⟨gd, hgd⟩ : ∃ gd, gd = w.heap.size := ⟨_, rfl⟩
  obtain ⟨gr, hgr⟩ : ∃ gr, gr = w.heap.size + 1 := ⟨_, rfl⟩
  have HF2 := Aside0.mk (show FS w w2 gd gr p ∧ gr < w2.heap.size from by
    have hb1 := below_alloc (Below.refl w.heap.size w) (.cells #[.int .u8 q0, .int .u8 q1, .int .u8 q2, .int .i64 n] 25)
    have hb2 := below_alloc hb1 (.cells #[.int .u8 0, .int .u8 0, .int .u8 0, .int .i64 0] 25)
    have k1 := blk_alloc (blk_new w (.cells #[.int .u8 q0, .int .u8 q1, .int .u8 q2, .int .i64 n] 25)) (.cells #[.int .u8 0, .int .u8 0, .int .u8 0, .int .i64 0] 25)
    have k2 := blk_new (w.alloc (.cells #[.int .u8 q0, .int .u8 q1, .int .u8 q2, .int .i64 n] 25)) (.cells #[.int .u8 0, .int .u8 0, .int .u8 0, .int .i64 0] 25)
    rw [World.size_alloc] at k2
    subst hw2 hgd hgr
    exact ⟨⟨hb2, Nat.le_refl _, by omega, by rw [HD.out, ← HN.out]; exact k1, k2⟩, blk_lt k2⟩)
  rw [← hw2, ← hgr, ← hgd]
  have hc3 : w2.cell? ⟨gd, 3, none⟩ = some (.int .i64 n) := by rw [blk_cell HF2.out.1.2.2.2.1 3, HD.out, HN.out]; rfl
  clear hw2 hgd hgr
  go_wp2_with fail
  go_loopg [4, 7] n (fun g v4 v7 W => ∃ (i : Nat), v7 = .int .i64 (i : Int) ∧ Aside0 (g + i = n) ∧ Aside0 (Kd.R (Kd.int .i32) 21 W w2.heap.size (fun _ => True) v4 (List.replicate i 65533)) ∧ Aside0 (Below w2.heap.size w2 W))
  case atStart => exact ⟨0, rfl, ⟨by omega⟩, ⟨Kd.R_nil _ _ _ _ _⟩, ⟨Below.refl _ _⟩⟩
  case round =>
    obtain ⟨i, rfl, HG, HO, HB⟩ := hrel
    have hgi := HG.out
    by_cases hi : i < n
    · obtain ⟨g0, rfl⟩ : ∃ g0, gk = g0 + 1 := ⟨gk - 1, by omega⟩
      have hil : (i : Int) < n := by omega
      have HI := Aside0.mk (show i < 3 by omega)
      clear hgi hi
      go_wp2_with (first
        | ((with_reducible refine gate_builtin (b := .append) (xs := #[.tmp 9, .tmp 10]) rfl ?_); at_builtin; go_must ((refine Kd.R_append (Kd.int .i32) (w0 := w2) w2.heap.size rfl (.tmp 9) (.tmp 10) 35 21 (.int .i32 0) 4 rfl Tryd.underlying35 info_i32 rfl (by decide) (by omega) u4 (List.replicate i 65533) 65533 [.int .i32 65533] (fun _ => True) (fun _ => False) rfl rfl ?aP (fun _ hk => hk.elim) ?aF HO.out HB.out HB.out.size ?aL ?_; (case aP => rfl); (case aF => exact fun _ _ => trivial); (case aL => have := HI.out; simp; omega); intro v8 w8 ho hb hg hat; have HO8 := Aside0.mk ho; have HB8 := Aside0.mk hb; clear ho hb hg hat)))
        | fail)
      go_roundg g0
      case measure => omega
      case rel => exact ⟨i + 1, by first | go_num | (congr 1; unfold wrap64; omega), ⟨by have := HG.out; omega⟩, ⟨by rw [List.replicate_succ']; exact HO8.out⟩, HB8⟩
    · have hil : (n : Int) ≤ i := by omega
      have hin : i = n := by have := HG.out; omega
      subst hin
      have hF3 := fs_below HF2.out.1 HB.out
      have hk := hF3.2.2.2.2
      have r0 : wr.cell? ⟨gr, 0, none⟩ = some (.int .u8 0) := (blk_cell hk 0).trans rfl
      have r1 : wr.cell? ⟨gr, 1, none⟩ = some (.int .u8 0) := (blk_cell hk 1).trans rfl
      have r2 : wr.cell? ⟨gr, 2, none⟩ = some (.int .u8 0) := (blk_cell hk 2).trans rfl
      have r3 : wr.cell? ⟨gr, 3, none⟩ = some (.int .i64 0) := (blk_cell hk 3).trans rfl
      have s0 := blk_frozen hk 0
      have s1 := blk_frozen hk 1
      have s2 := blk_frozen hk 2
      have s3 := blk_frozen hk 3
      have HF3 := Aside0.mk hF3
      clear hF3 hgi hk
      go_wp2
      have hF := HF3.out
      have hge : w.heap.size ≤ gr := Nat.le_trans hF.2.1 (Nat.le_of_lt hF.2.2.1)
      have ho7 := Kd.R_mono (ok' := fun k => k ≠ gr) (Kd.R_bound HO.out) (fun k hk => by have h1 := hk.2.1; have h2 := HF2.out.2; omega)
      have hoE := Kd.R_keep ho7 (((((KeepBut.refl wr gr none).set_ 0 (.int .u8 0)).set_ 1 (.int .u8 0)).set_ 2 (.int .u8 0)).set_ 3 (.int .i64 0)) (fun k hk => hk)
      have hbE := below_set (below_set (below_set (below_set hF.1 hge (j := 0) (v := .int .u8 0)) hge (j := 1) (v := .int .u8 0)) hge (j := 2) (v := .int .u8 0)) hge (j := 3) (v := .int .i64 0)
      have hrE := blk_put (blk_put (blk_put (blk_put hF.2.2.2.2 0 (.int .u8 0) rfl) 1 (.int .u8 0) rfl) 2 (.int .u8 0) rfl) 3 (.int .i64 0) rfl
      exact bodyPost_ret (results_ct Tryd.results36 _ _ gr 25 #[.int .u8 0, .int .u8 0, .int .u8 0, .int .i64 0] (0, 0) _ rfl hrE hu rfl (by kernel_rfl)) rfl ⟨u4, rfl, Kd.R_mono (Kd.R_lower hoE (by have := HF2.out.1.1.size; exact this)) (fun _ _ => trivial), hbE⟩
end Go.Proofs.YtkdkajcokoggiaaDoor.UtfFeed
