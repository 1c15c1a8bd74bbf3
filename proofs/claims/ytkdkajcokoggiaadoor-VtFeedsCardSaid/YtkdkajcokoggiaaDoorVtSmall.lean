/- vt.at, vt.printed, the parser's finish and some as contracts. -/
import Derived.Test.YtkdkajcokoggiaaDoorVtPure
import Derived.Test.YtkdkajcokoggiaaDoorUtfFeed
namespace Go.Proofs.YtkdkajcokoggiaaDoor.VtSmall
open Go.RowKit Go.Lib Go.Proofs.YtkdkajcokoggiaaDoor.Kit Go.Proofs.YtkdkajcokoggiaaDoor.Plain Go.Proofs.YtkdkajcokoggiaaDoor.Mine Go.Proofs.YtkdkajcokoggiaaDoor.UtfPure Go.Proofs.YtkdkajcokoggiaaDoor.VtPure Go.Proofs.YtkdkajcokoggiaaDoorW.PrintWords Go.Proofs.YtkdkajcokoggiaaDoorW.PrintLast Go.Proofs.YtkdkajcokoggiaaDoorW.PrintMore
open Go.Proofs.YtkdkajcokoggiaaDoor.PVtParts (S37 k37 k37_open k37_openM k37_mk k37_mkM)
set_option linter.unusedVariables false
set_option linter.unusedSimpArgs false
/-- A parser as a value; its parameters' slice. -/
def pcells (v : PR) (pv : Value) : Array Value := #[.int .i64 v.st, .int .u8 (v.u[0]?.getD 0), .int .u8 (v.u[1]?.getD 0), .int .u8 (v.u[2]?.getD 0), .int .i64 v.u.length, .string v.mr, pv, .string v.tx, .int .i64 v.wi]
def pval (v : PR) (pv : Value) : Value := .agg (pcells v pv)
theorem info37 : (Tryd.prog.info? 37).map (fun i => (i.zero, i.size, i.bytes)) = some (some (.agg #[(.int .i64 0), (.int .i32 0), (.int .u8 0), (.string ⟨#[]⟩), (.slice none 0 0), (.string ⟨#[]⟩)]), 6, 72) := by kernel_rfl
/-- What a byte tells: the parser that is left, and the acts. -/
def PT (w : World) (A0 : Option Addr) (n0 : Nat) (r : PR × List S37) (e : Ending) (w' : World) : Prop := ∃ (u : Value) (A : Option Addr) (n cp : Nat), e = .returned (.tuple #[pval r.1 (.slice A n cp), u]) ∧ Kd.C (Kd.int .i64) w' A n r.1.ps ∧ Kd.R k37 37 w' w.heap.size (fun _ => True) u r.2 ∧ Below w.heap.size w w' ∧ ∀ ad, A = some ad → (A = A0 ∧ n = n0) ∨ w.heap.size ≤ ad.block
set_option maxHeartbeats 800000 in
set_option maxRecDepth 100000 in
theorem at_c (s : Int) (w : World) : Calls Tryd.prog 22 #[.int .i64 s] w fun e w' => e = .returned (pval (atP s) (.slice none 0 0)) ∧ Below w.heap.size w w' := by
  have hu := Tryd.underlying28
  go_enter Tryd.func22, Tryd.ntmps22
  go_wp2
  have hb := below_alloc (Below.refl w.heap.size w) (.cells (pcells (atP s) (.slice none 0 0)) 28)
  have hg := blk_new w (.cells (pcells (atP s) (.slice none 0 0)) 28)
  exact bodyPost_ret (results_single Tryd.results22 (.cell w.heap.size 28 (pcells (atP s) (.slice none 0 0)) (0, 0) _ rfl hg hu rfl (by kernel_rfl) .nil)) rfl ⟨rfl, hb⟩
theorem ne_own {u v : Value} {n k : Nat} (h : u.ownBlock = v.ownBlock ∨ ∃ b, u.ownBlock = some b ∧ n ≤ b) (hk : k < n ∧ some k ≠ v.ownBlock) : some k ≠ u.ownBlock := by
  rcases h with e | ⟨b, e, hb⟩
  · rw [e]; exact hk.2
  · rw [e]
    intro e2
    have h1 := Option.some.inj e2
    have h2 := hk.1
    omega
theorem own_on {u v x : Value} {n m : Nat} (h : u.ownBlock = v.ownBlock ∨ ∃ b, u.ownBlock = some b ∧ n ≤ b) (h2 : x.ownBlock = u.ownBlock ∨ ∃ b, x.ownBlock = some b ∧ m ≤ b) (hm : n ≤ m) : x.ownBlock = v.ownBlock ∨ ∃ b, x.ownBlock = some b ∧ n ≤ b := by
  rcases h2 with e | ⟨b, e, hb⟩
  · rw [e]; exact h
  · exact .inr ⟨b, e, Nat.le_trans hm hb⟩
set_option maxHeartbeats 1600000 in
set_option maxRecDepth 100000 in
theorem printed_c (base : Nat) (out : List S37) (v : Value) (A : Option Addr) (c : Nat) (l : List Int) (w : World) (hv : Kd.R k37 37 w base (fun _ => True) v out) (base2 : Nat) (hl : Kd.R (Kd.int .i32) 21 w base2 (fun k => some k ≠ v.ownBlock) (.slice A l.length c) l) (hb : base ≤ w.heap.size) (hsz : out.length + l.length ≤ 10000) :
    Calls Tryd.prog 37 #[v, .slice A l.length c] w fun e w' => ∃ v', e = .returned v' ∧ Kd.R k37 37 w' base (fun _ => True) v' (out ++ printedP l) ∧ Below base w w' := by
  have hu := Tryd.underlying37
  have HV := Aside0.mk hv
  have HL := Aside0.mk (Kd.R_mono (ok' := fun k => k < w.heap.size ∧ some k ≠ v.ownBlock) (Kd.R_bound hl) (fun k hk => ⟨hk.2.2.1, hk.1⟩))
  have HB := Aside0.mk hb
  have HSZ := Aside0.mk hsz
  have hlI : (l.length : Int) ≤ 10000 := by omega
  clear hv hl hb hsz
  go_enter Tryd.func37, Tryd.ntmps37
  go_wp2_with fail
  go_loopg [0, 9] l.length (fun gk v0 v9 W => ∃ (i : Nat) (u : Value), u = v0 ∧ v9 = .int .i64 (i : Int) ∧ Aside0 (gk + i = l.length) ∧ Aside0 (Kd.R k37 37 W base (fun _ => True) u (out ++ printedP (l.take i))) ∧ Aside0 (Kd.R (Kd.int .i32) 21 W base2 (fun k => k < w.heap.size ∧ some k ≠ v.ownBlock) (.slice A l.length c) l) ∧ Aside0 (Below base w W) ∧ Aside0 (u.ownBlock = v.ownBlock ∨ ∃ b, u.ownBlock = some b ∧ w.heap.size ≤ b))
  case atStart => exact ⟨0, v, rfl, rfl, ⟨by omega⟩, ⟨by rw [List.take_zero]; show Kd.R _ _ _ _ _ _ (out ++ []); rw [List.append_nil]; exact HV.out⟩, HL, ⟨Below.refl _ _⟩, ⟨.inl rfl⟩⟩
  case round =>
    obtain ⟨i, u, rfl, rfl, HG, HO, HLL, HBB, HUO⟩ := hrel
    have hgi := HG.out
    by_cases hi : i < l.length
    · obtain ⟨g0, rfl⟩ : ∃ g0, gk = g0 + 1 := ⟨gk - 1, by omega⟩
      obtain ⟨ad, ead, hc0⟩ := Kd.at_int (Kd.R_reads' HLL.out).2.2 (i : Int) (by omega) (by omega)
      rw [Int.toNat_natCast] at hc0
      obtain ⟨x, hx⟩ : ∃ x, x = rd l (i : Int) := ⟨_, rfl⟩
      rw [← hx] at hc0
      have hxl : l.take (i + 1) = l.take i ++ [x] := by
        rw [List.take_succ_eq_append_getElem hi, hx, rd, Int.toNat_natCast, List.getD_eq_getElem?_getD, List.getElem?_eq_getElem hi]; rfl
      have HX := Aside0.mk (show (out ++ printedP (l.take i)) ++ [printA x] = out ++ printedP (l.take (i + 1)) from by rw [hxl]; unfold printedP; rw [List.map_append, List.append_assoc]; rfl)
      have HXL := Aside0.mk (show ((out ++ printedP (l.take i)).length + 1) * 72 ≤ 140737488355328 from by unfold printedP; rw [List.length_append, List.length_map, List.length_take]; have := HSZ.out; omega)
      have HBW := Aside0.mk (Nat.le_trans HB.out HBB.out.size)
      have hil : (i : Int) < l.length := by omega
      subst ead
      clear hx hxl hi hgi
      go_wp2_with (first
        | ((with_reducible refine gate_builtin (b := .append) (xs := #[.tmp 13, .tmp 16]) rfl ?_); at_builtin; go_must ((refine Kd.R_append k37 (w0 := wr) base rfl (.tmp 13) (.tmp 16) 29 37 (.agg #[(.int .i64 0), (.int .i32 0), (.int .u8 0), (.string ⟨#[]⟩), (.slice none 0 0), (.string ⟨#[]⟩)]) 72 rfl Tryd.underlying29 info37 rfl (by decide) (by omega) u (out ++ printedP (l.take i)) (printA x) [.int .i64 0, .int .i32 x, .int .u8 0, .string ⟨#[]⟩, .slice none 0 0, .string ⟨#[]⟩] (fun _ => True) (fun _ => False) rfl (by first | rfl | (go_simp; done) | (go_simp; rfl)) ?aP (fun _ hk => hk.elim) ?aF HO.out (Below.refl _ _) HBW.out HXL.out ?_; (case aP => exact k37_mkM _ _ _ (printA x) (Kd.R_nil _ _ _ _ _)); (case aF => exact fun _ _ => trivial); intro v1 w8 ho hb hg hat; rw [HX.out] at ho; have HO8 := Aside0.mk ho; have HB8 := Aside0.mk hb; have HG8 := Aside0.mk hg; have HA8 := Aside0.mk hat; clear ho hb hg hat)))
        | fail)
      go_roundg g0
      case measure => omega
      case rel => exact ⟨i + 1, v1, rfl, by first | go_num | (congr 1; unfold wrap64; omega), ⟨by have := HG.out; omega⟩, HO8, ⟨Kd.R_step HLL.out (fun k hk hlt => HG8.out.block k hlt (ne_own HUO.out hk))⟩, ⟨HBB.out.trans HB8.out⟩, ⟨own_on HUO.out HA8.out HBB.out.size⟩⟩
    · have hil : (l.length : Int) ≤ i := by omega
      have hx := HO.out
      rw [List.take_of_length_le (by omega)] at hx
      have HXX := Aside0.mk hx
      clear hx hgi hi
      go_wp2
      go_ret
      exact ⟨_, rfl, HXX.out, HBB.out⟩
theorem C_block {w W : World} {A : Option Addr} {n : Nat} {xs : List Int} (h : Kd.C (Kd.int .i64) w A n xs) (hb : 0 < n → ∀ ad, A = some ad → W.heap[ad.block]? = w.heap[ad.block]?) : Kd.C (Kd.int .i64) W A n xs := by
  refine ⟨h.1, h.2.1, fun hn => ?_⟩
  obtain ⟨ad, e, hc⟩ := h.2.2 hn
  refine ⟨ad, e, fun j p hp => ?_⟩
  obtain ⟨cs, h1, h2, h3⟩ := hc j p hp
  refine ⟨cs, h1, h2, fun i u hu => ?_⟩
  have hbk : ∀ k, (ad.add k).block = ad.block := fun k => by unfold Addr.add; split <;> rfl
  exact (World.cell?_of_block (w := w) (by rw [hbk]; exact hb hn ad e)).trans (h3 i u hu)
/-! A method's two blocks: the parser's own one, and the result's. -/
def V2 (w W : World) (g gr : Nat) (pc rc : Array Value) : Prop := W.heap[g]? = some (.cells pc 28 (0, 0)) ∧ W.heap[gr]? = some (.cells rc 28 (0, 0)) ∧ w.heap.size ≤ g ∧ w.heap.size ≤ gr ∧ g ≠ gr ∧ Below w.heap.size w W
section
variable {w W W' : World} {g gr : Nat} {pc rc : Array Value}
theorem V2.on (h : V2 w W g gr pc rc) (hb : Below W.heap.size W W') : V2 w W' g gr pc rc := ⟨blk_below h.1 hb, blk_below h.2.1 hb, h.2.2.1, h.2.2.2.1, h.2.2.2.2.1, below_kept h.2.2.2.2.2 hb⟩
theorem V2.drew (h : V2 w W g gr pc rc) : V2 w W.drew g gr pc rc := h.on (below_drew (Below.refl _ _))
theorem V2.grow (h : V2 w W g gr pc rc) (hg : W.grownBy W' none) (hb : Below w.heap.size w W') : V2 w W' g gr pc rc :=
  ⟨(hg.block g (blk_lt h.1) (by simp)).trans h.1, (hg.block gr (blk_lt h.2.1) (by simp)).trans h.2.1, h.2.2.1, h.2.2.2.1, h.2.2.2.2.1, hb⟩
theorem V2.enter (w : World) (pc rc : Array Value) : V2 w ((w.alloc (.cells pc 28)).alloc (.cells rc 28)) w.heap.size (w.heap.size + 1) pc rc := by
  have e : (w.alloc (.cells pc 28)).heap.size = w.heap.size + 1 := Array.size_push _
  have h2 := blk_new (w.alloc (.cells pc 28)) (.cells rc 28)
  rw [e] at h2
  exact ⟨blk_alloc (blk_new w _) _, h2, Nat.le_refl _, by omega, by omega, below_alloc (below_alloc (Below.refl _ _) _) _⟩
theorem V2.set_p (h : V2 w W g gr pc rc) (i : Nat) (u : Value) {pc' : Array Value} (e : pc.setIfInBounds i u = pc') : V2 w (W.setCell ⟨g, i, none⟩ u) g gr pc' rc :=
  ⟨blk_put h.1 i u e, ((KeepBut.refl W g none).set_ i u).blk h.2.1 (Ne.symm h.2.2.2.2.1) (by simp), h.2.2.1, h.2.2.2.1, h.2.2.2.2.1, h.2.2.2.2.2.setCell h.2.2.1 _⟩
theorem V2.set_r (h : V2 w W g gr pc rc) (i : Nat) (u : Value) {rc' : Array Value} (e : rc.setIfInBounds i u = rc') : V2 w (W.setCell ⟨gr, i, none⟩ u) g gr pc rc' :=
  ⟨((KeepBut.refl W gr none).set_ i u).blk h.1 h.2.2.2.2.1 (by simp), blk_put h.2.1 i u e, h.2.2.1, h.2.2.2.1, h.2.2.2.2.1, h.2.2.2.2.2.setCell h.2.2.2.1 _⟩
/-- The whole result is stored. -/
theorem V2.ret {r0 r1 r2 r3 r4 r5 r6 r7 r8 : Value} (h : V2 w W g gr pc #[r0, r1, r2, r3, r4, r5, r6, r7, r8]) (v0 v1 v2 v3 v4 v5 v6 v7 v8 : Value) :
    V2 w (((((((((W.setCell ⟨gr, 0, none⟩ v0).setCell ⟨gr, 1, none⟩ v1).setCell ⟨gr, 2, none⟩ v2).setCell ⟨gr, 3, none⟩ v3).setCell ⟨gr, 4, none⟩ v4).setCell ⟨gr, 5, none⟩ v5).setCell ⟨gr, 6, none⟩ v6).setCell ⟨gr, 7, none⟩ v7).setCell ⟨gr, 8, none⟩ v8) g gr pc #[v0, v1, v2, v3, v4, v5, v6, v7, v8] := by
  have h0 : V2 w (W.setCell ⟨gr, 0, none⟩ v0) g gr pc #[v0, r1, r2, r3, r4, r5, r6, r7, r8] := h.set_r 0 v0 rfl
  have h1 : V2 w ((W.setCell ⟨gr, 0, none⟩ v0).setCell ⟨gr, 1, none⟩ v1) g gr pc #[v0, v1, r2, r3, r4, r5, r6, r7, r8] := h0.set_r 1 v1 rfl
  have h2 : V2 w (((W.setCell ⟨gr, 0, none⟩ v0).setCell ⟨gr, 1, none⟩ v1).setCell ⟨gr, 2, none⟩ v2) g gr pc #[v0, v1, v2, r3, r4, r5, r6, r7, r8] := h1.set_r 2 v2 rfl
  have h3 : V2 w ((((W.setCell ⟨gr, 0, none⟩ v0).setCell ⟨gr, 1, none⟩ v1).setCell ⟨gr, 2, none⟩ v2).setCell ⟨gr, 3, none⟩ v3) g gr pc #[v0, v1, v2, v3, r4, r5, r6, r7, r8] := h2.set_r 3 v3 rfl
  have h4 : V2 w (((((W.setCell ⟨gr, 0, none⟩ v0).setCell ⟨gr, 1, none⟩ v1).setCell ⟨gr, 2, none⟩ v2).setCell ⟨gr, 3, none⟩ v3).setCell ⟨gr, 4, none⟩ v4) g gr pc #[v0, v1, v2, v3, v4, r5, r6, r7, r8] := h3.set_r 4 v4 rfl
  have h5 : V2 w ((((((W.setCell ⟨gr, 0, none⟩ v0).setCell ⟨gr, 1, none⟩ v1).setCell ⟨gr, 2, none⟩ v2).setCell ⟨gr, 3, none⟩ v3).setCell ⟨gr, 4, none⟩ v4).setCell ⟨gr, 5, none⟩ v5) g gr pc #[v0, v1, v2, v3, v4, v5, r6, r7, r8] := h4.set_r 5 v5 rfl
  have h6 : V2 w (((((((W.setCell ⟨gr, 0, none⟩ v0).setCell ⟨gr, 1, none⟩ v1).setCell ⟨gr, 2, none⟩ v2).setCell ⟨gr, 3, none⟩ v3).setCell ⟨gr, 4, none⟩ v4).setCell ⟨gr, 5, none⟩ v5).setCell ⟨gr, 6, none⟩ v6) g gr pc #[v0, v1, v2, v3, v4, v5, v6, r7, r8] := h5.set_r 6 v6 rfl
  have h7 : V2 w ((((((((W.setCell ⟨gr, 0, none⟩ v0).setCell ⟨gr, 1, none⟩ v1).setCell ⟨gr, 2, none⟩ v2).setCell ⟨gr, 3, none⟩ v3).setCell ⟨gr, 4, none⟩ v4).setCell ⟨gr, 5, none⟩ v5).setCell ⟨gr, 6, none⟩ v6).setCell ⟨gr, 7, none⟩ v7) g gr pc #[v0, v1, v2, v3, v4, v5, v6, v7, r8] := h6.set_r 7 v7 rfl
  have h8 : V2 w (((((((((W.setCell ⟨gr, 0, none⟩ v0).setCell ⟨gr, 1, none⟩ v1).setCell ⟨gr, 2, none⟩ v2).setCell ⟨gr, 3, none⟩ v3).setCell ⟨gr, 4, none⟩ v4).setCell ⟨gr, 5, none⟩ v5).setCell ⟨gr, 6, none⟩ v6).setCell ⟨gr, 7, none⟩ v7).setCell ⟨gr, 8, none⟩ v8) g gr pc #[v0, v1, v2, v3, v4, v5, v6, v7, v8] := h7.set_r 8 v8 rfl
  exact h8
theorem keep9 (W : World) (gr : Nat) (v0 v1 v2 v3 v4 v5 v6 v7 v8 : Value) : KeepBut W (((((((((W.setCell ⟨gr, 0, none⟩ v0).setCell ⟨gr, 1, none⟩ v1).setCell ⟨gr, 2, none⟩ v2).setCell ⟨gr, 3, none⟩ v3).setCell ⟨gr, 4, none⟩ v4).setCell ⟨gr, 5, none⟩ v5).setCell ⟨gr, 6, none⟩ v6).setCell ⟨gr, 7, none⟩ v7).setCell ⟨gr, 8, none⟩ v8) gr none := by
  have h0 : KeepBut W (W.setCell ⟨gr, 0, none⟩ v0) gr none := (KeepBut.refl W gr none).set_ 0 v0
  have h1 : KeepBut W ((W.setCell ⟨gr, 0, none⟩ v0).setCell ⟨gr, 1, none⟩ v1) gr none := h0.set_ 1 v1
  have h2 : KeepBut W (((W.setCell ⟨gr, 0, none⟩ v0).setCell ⟨gr, 1, none⟩ v1).setCell ⟨gr, 2, none⟩ v2) gr none := h1.set_ 2 v2
  have h3 : KeepBut W ((((W.setCell ⟨gr, 0, none⟩ v0).setCell ⟨gr, 1, none⟩ v1).setCell ⟨gr, 2, none⟩ v2).setCell ⟨gr, 3, none⟩ v3) gr none := h2.set_ 3 v3
  have h4 : KeepBut W (((((W.setCell ⟨gr, 0, none⟩ v0).setCell ⟨gr, 1, none⟩ v1).setCell ⟨gr, 2, none⟩ v2).setCell ⟨gr, 3, none⟩ v3).setCell ⟨gr, 4, none⟩ v4) gr none := h3.set_ 4 v4
  have h5 : KeepBut W ((((((W.setCell ⟨gr, 0, none⟩ v0).setCell ⟨gr, 1, none⟩ v1).setCell ⟨gr, 2, none⟩ v2).setCell ⟨gr, 3, none⟩ v3).setCell ⟨gr, 4, none⟩ v4).setCell ⟨gr, 5, none⟩ v5) gr none := h4.set_ 5 v5
  have h6 : KeepBut W (((((((W.setCell ⟨gr, 0, none⟩ v0).setCell ⟨gr, 1, none⟩ v1).setCell ⟨gr, 2, none⟩ v2).setCell ⟨gr, 3, none⟩ v3).setCell ⟨gr, 4, none⟩ v4).setCell ⟨gr, 5, none⟩ v5).setCell ⟨gr, 6, none⟩ v6) gr none := h5.set_ 6 v6
  have h7 : KeepBut W ((((((((W.setCell ⟨gr, 0, none⟩ v0).setCell ⟨gr, 1, none⟩ v1).setCell ⟨gr, 2, none⟩ v2).setCell ⟨gr, 3, none⟩ v3).setCell ⟨gr, 4, none⟩ v4).setCell ⟨gr, 5, none⟩ v5).setCell ⟨gr, 6, none⟩ v6).setCell ⟨gr, 7, none⟩ v7) gr none := h6.set_ 7 v7
  have h8 : KeepBut W (((((((((W.setCell ⟨gr, 0, none⟩ v0).setCell ⟨gr, 1, none⟩ v1).setCell ⟨gr, 2, none⟩ v2).setCell ⟨gr, 3, none⟩ v3).setCell ⟨gr, 4, none⟩ v4).setCell ⟨gr, 5, none⟩ v5).setCell ⟨gr, 6, none⟩ v6).setCell ⟨gr, 7, none⟩ v7).setCell ⟨gr, 8, none⟩ v8) gr none := h7.set_ 8 v8
  exact h8
end
def zcells : Array Value := #[.int .i64 0, .int .u8 0, .int .u8 0, .int .u8 0, .int .i64 0, .string ⟨#[]⟩, .slice none 0 0, .string ⟨#[]⟩, .int .i64 0]
theorem reps_one {α : Type} {R : α → List Value → Prop} {size : Nat} {p : α} {cs : List Value} (hl : cs.length = size) (h : R p cs) : Reps R size [p] cs := Reps.snoc (Reps.none R size) h hl
theorem at0_c (s : Int) (w : World) : Calls Tryd.prog 22 #[.int .i64 s] w fun e w' => e = .returned (.agg #[.int .i64 s, .int .u8 0, .int .u8 0, .int .u8 0, .int .i64 0, .string ⟨#[]⟩, .slice none 0 0, .string ⟨#[]⟩, .int .i64 0]) ∧ Below w.heap.size w w' := at_c s w
theorem V2.tx {w W : World} {g gr : Nat} {pc rc : Array Value} {v : PR} {pv : Value} (h : V2 w W g gr pc rc) (e : pc = pcells v pv) : W.cell? ⟨g, 7, none⟩ = some (.string v.tx) := by
  subst e
  exact (blk_cell h.1 7).trans rfl
theorem V2.mr {w W : World} {g gr : Nat} {pc rc : Array Value} {v : PR} {pv : Value} (h : V2 w W g gr pc rc) (e : pc = pcells v pv) : W.cell? ⟨g, 5, none⟩ = some (.string v.mr) := by
  subst e
  exact (blk_cell h.1 5).trans rfl
theorem V2.cells {w W : World} {g gr : Nat} {pc rc : Array Value} {v : PR} {pv : Value} (h : V2 w W g gr pc rc) (e : pc = pcells v pv) :
    W.cell? ⟨g, 0, none⟩ = some (.int .i64 v.st) ∧ W.cell? ⟨g, 1, none⟩ = some (.int .u8 (v.u[0]?.getD 0)) ∧ W.cell? ⟨g, 2, none⟩ = some (.int .u8 (v.u[1]?.getD 0)) ∧ W.cell? ⟨g, 3, none⟩ = some (.int .u8 (v.u[2]?.getD 0)) ∧ W.cell? ⟨g, 4, none⟩ = some (.int .i64 v.u.length) ∧ W.cell? ⟨g, 5, none⟩ = some (.string v.mr) ∧ W.cell? ⟨g, 6, none⟩ = some pv ∧ W.cell? ⟨g, 7, none⟩ = some (.string v.tx) ∧ W.cell? ⟨g, 8, none⟩ = some (.int .i64 v.wi) := by
  subst e
  exact ⟨(blk_cell h.1 0).trans rfl, (blk_cell h.1 1).trans rfl, (blk_cell h.1 2).trans rfl, (blk_cell h.1 3).trans rfl, (blk_cell h.1 4).trans rfl, (blk_cell h.1 5).trans rfl, (blk_cell h.1 6).trans rfl, (blk_cell h.1 7).trans rfl, (blk_cell h.1 8).trans rfl⟩
theorem V2.zero {w W : World} {g gr : Nat} {pc : Array Value} (h : V2 w W g gr pc zcells) :
    W.cell? ⟨gr, 0, none⟩ = some (.int .i64 0) ∧ W.cell? ⟨gr, 1, none⟩ = some (.int .u8 0) ∧ W.cell? ⟨gr, 2, none⟩ = some (.int .u8 0) ∧ W.cell? ⟨gr, 3, none⟩ = some (.int .u8 0) ∧ W.cell? ⟨gr, 4, none⟩ = some (.int .i64 0) ∧ W.cell? ⟨gr, 5, none⟩ = some (.string ⟨#[]⟩) ∧ W.cell? ⟨gr, 6, none⟩ = some (.slice none 0 0) ∧ W.cell? ⟨gr, 7, none⟩ = some (.string ⟨#[]⟩) ∧ W.cell? ⟨gr, 8, none⟩ = some (.int .i64 0) :=
  ⟨(blk_cell h.2.1 0).trans rfl, (blk_cell h.2.1 1).trans rfl, (blk_cell h.2.1 2).trans rfl, (blk_cell h.2.1 3).trans rfl, (blk_cell h.2.1 4).trans rfl, (blk_cell h.2.1 5).trans rfl, (blk_cell h.2.1 6).trans rfl, (blk_cell h.2.1 7).trans rfl, (blk_cell h.2.1 8).trans rfl⟩
theorem V2.thaw {w W : World} {g gr : Nat} {pc rc : Array Value} (h : V2 w W g gr pc rc) :
    W.frozen? ⟨gr, 0, none⟩ = false ∧ W.frozen? ⟨gr, 1, none⟩ = false ∧ W.frozen? ⟨gr, 2, none⟩ = false ∧ W.frozen? ⟨gr, 3, none⟩ = false ∧ W.frozen? ⟨gr, 4, none⟩ = false ∧ W.frozen? ⟨gr, 5, none⟩ = false ∧ W.frozen? ⟨gr, 6, none⟩ = false ∧ W.frozen? ⟨gr, 7, none⟩ = false ∧ W.frozen? ⟨gr, 8, none⟩ = false :=
  ⟨blk_frozen h.2.1 0, blk_frozen h.2.1 1, blk_frozen h.2.1 2, blk_frozen h.2.1 3, blk_frozen h.2.1 4, blk_frozen h.2.1 5, blk_frozen h.2.1 6, blk_frozen h.2.1 7, blk_frozen h.2.1 8⟩
theorem V2.thawp {w W : World} {g gr : Nat} {pc rc : Array Value} (h : V2 w W g gr pc rc) :
    W.frozen? ⟨g, 0, none⟩ = false ∧ W.frozen? ⟨g, 1, none⟩ = false ∧ W.frozen? ⟨g, 2, none⟩ = false ∧ W.frozen? ⟨g, 3, none⟩ = false ∧ W.frozen? ⟨g, 4, none⟩ = false ∧ W.frozen? ⟨g, 5, none⟩ = false ∧ W.frozen? ⟨g, 6, none⟩ = false ∧ W.frozen? ⟨g, 7, none⟩ = false ∧ W.frozen? ⟨g, 8, none⟩ = false :=
  ⟨blk_frozen h.1 0, blk_frozen h.1 1, blk_frozen h.1 2, blk_frozen h.1 3, blk_frozen h.1 4, blk_frozen h.1 5, blk_frozen h.1 6, blk_frozen h.1 7, blk_frozen h.1 8⟩
theorem V2.ret0 {w W : World} {g gr : Nat} {pc : Array Value} (h : V2 w W g gr pc zcells) : V2 w (((((((((W.setCell ⟨gr, 0, none⟩ (.int .i64 0)).setCell ⟨gr, 1, none⟩ (.int .u8 0)).setCell ⟨gr, 2, none⟩ (.int .u8 0)).setCell ⟨gr, 3, none⟩ (.int .u8 0)).setCell ⟨gr, 4, none⟩ (.int .i64 0)).setCell ⟨gr, 5, none⟩ (.string ⟨#[]⟩)).setCell ⟨gr, 6, none⟩ (.slice none 0 0)).setCell ⟨gr, 7, none⟩ (.string ⟨#[]⟩)).setCell ⟨gr, 8, none⟩ (.int .i64 0)) g gr pc zcells := V2.ret h _ _ _ _ _ _ _ _ _
set_option maxHeartbeats 1600000 in
set_option maxRecDepth 100000 in
theorem finish_c (v : PR) (pv : Value) (s : Int) (w : World) :
    Calls Tryd.prog 21 #[pval v pv, .int .i64 s] w fun e w' => ∃ u, e = .returned (.tuple #[pval (finishP v s).1 (.slice none 0 0), u]) ∧ Kd.R k37 37 w' w.heap.size (fun _ => True) u (finishP v s).2 ∧ Below w.heap.size w w' := by
  have hup := Tryd.underlying28
  have hua := Tryd.underlying37
  obtain ⟨st, u, mk, ps, tx, wi⟩ := v
  unfold pval
  obtain ⟨pc, hpc⟩ : ∃ pc, pc = pcells ⟨st, u, mk, ps, tx, wi⟩ pv := ⟨_, rfl⟩
  rw [← hpc]
  obtain ⟨kd, hkd⟩ : ∃ kd : Int, kd = if s = 6 then 5 else 4 := ⟨_, rfl⟩
  have HKD := Aside0.mk hkd
  have HPC := Aside0.mk hpc
  go_enter Tryd.func21, Tryd.ntmps21
  go_upto_region 0 with fail
  go_cut [2, 4, 5] (fun v2 v4 v5 W => ∃ g gr : Nat, v2 = .pointer (some ⟨g, 0, none⟩) ∧ v4 = .pointer (some ⟨gr, 0, none⟩) ∧ v5 = .slice none 0 0 ∧ Aside0 (V2 w W g gr pc zcells))
  case first =>
    go_wp2_with fail
    go_meet
    case rel => exact ⟨_, _, rfl, rfl, rfl, ⟨by rw [hpc]; exact V2.enter w _ zcells⟩⟩
  case rest =>
    obtain ⟨g, gr, rfl, rfl, rfl, HV⟩ := hcut
    clear hpc
    have hcs : (s = 6 ∧ kd = 5) ∨ (s ≠ 6 ∧ kd = 4) := by by_cases h : s = 6 <;> simp [h, hkd]
    have HCS := Aside0.mk hcs
    clear hkd hcs
    rcases HCS.out with ⟨h, rfl⟩ | ⟨h, rfl⟩
    · subst h
      go_upto_region 4 with fail
      have HVd := Aside0.mk HV.out.drew
      refine start_ (n := 8) (S := fun w' => w'.cell? ⟨g, 7, none⟩ = some (.string tx)) (ds := []) #[false, false, false, false, false, false, false, false] (by kernel_rfl) rfl rfl ((V2.tx HVd.out HPC.out)) (fun hHeld => ?_)
      refine pure_ (i := 1) (N := some 10) (v := ?_) (a' := ?_) #[false, true, false, false, false, false, false, false] rfl rfl (by kernel_rfl) (fun _ _ _ h => h) (Or.inl ⟨by rfl, ?_⟩) ?_ ?_
      rotate_left
      · intro w'
        go_simp
        with_reducible rfl
      rotate_left
      · simp only [Act.put, List.setIfInBounds_toArray, List.set_cons_zero, List.set_cons_succ, i64_w, i32_w]
        rfl
      refine pure_ (i := 2) (N := some 11) (v := ?_) (a' := ?_) #[false, true, true, false, false, false, false, false] rfl rfl (by kernel_rfl) (fun _ _ _ h => h) (Or.inl ⟨by rfl, ?_⟩) ?_ ?_
      rotate_left
      · intro w'
        go_simp
        with_reducible rfl
      rotate_left
      · simp only [Act.put, List.setIfInBounds_toArray, List.set_cons_zero, List.set_cons_succ, i64_w, i32_w]
        rfl
      refine take_ (i := 3) (N := some 12) (v := ?_) (a' := ?_) #[false, true, true, true, false, false, false, false] rfl rfl (by kernel_rfl) (fun _ _ _ h => h) (Or.inl ⟨by rfl, ?_⟩) hHeld ?_ ?_
      rotate_left
      · intro w' s0
        go_simp
        with_reducible rfl
      rotate_left
      · simp only [Act.put, List.setIfInBounds_toArray, List.set_cons_zero, List.set_cons_succ, i64_w, i32_w]
        rfl
      refine pure_ (i := 4) (N := some 13) (v := ?_) (a' := ?_) #[false, true, true, true, true, false, false, false] rfl rfl (by kernel_rfl) (fun _ _ _ h => h) (Or.inl ⟨by rfl, ?_⟩) ?_ ?_
      rotate_left
      · intro w'
        go_simp
        with_reducible rfl
      rotate_left
      · simp only [Act.put, List.setIfInBounds_toArray, List.set_cons_zero, List.set_cons_succ, i64_w, i32_w]
        rfl
      refine join_ (σ := Value) 1 #[true, true, true, true, true, true, true, false] (fun s => [(9, .agg #[.int .i64 0, .int .u8 0, .int .u8 0, .int .u8 0, .int .i64 0, .string ⟨#[]⟩, .slice none 0 0, .string ⟨#[]⟩, .int .i64 0]), (14, s)]) (fun s w' => V2 w w' g gr pc zcells ∧ Kd.R k37 37 w' w.heap.size (fun k => k ≠ g ∧ k ≠ gr) s [strA 5 tx]) ?_ ?_
      rotate_left
      · intro hCont
        refine two_ (i := 0) (j := 5) (Ni := some 9) (Nj := some 14) #[true, true, true, true, true, false, false, false] #[false, true, true, true, true, true, false, false] rfl rfl rfl rfl (by kernel_rfl) (by decide) (by decide) (fun K hK => ?_) (fun K hK => ?_)
        · skip
          refine goes_ Tryd.func22 (by kernel_rfl) rfl #[.int .i64 0] (by rfl) rfl rfl (by simp only [List.map_toArray, List.map_cons, List.map_nil]; rfl) ?_
          with_reducible refine ((at0_c 0 _)).mono ?_
          rintro e wa ⟨rfl, hb⟩
          refine ⟨_, rfl, ?_⟩
          have HVa := Aside0.mk (HVd.out.on hb)
          clear hb
          refine hK.out _ _ ((V2.tx HVa.out HPC.out)) (fun hHeld => ?_)
          clear hK K
          refine norm_ (a' := ?_) ?_ ?_
          rotate_left
          · show Act.put _ (some 9) _ = _
            simp only [Act.put, List.setIfInBounds_toArray, List.set_cons_zero, List.set_cons_succ, i64_w, i32_w]
            rfl
          refine two_ (i := 5) (j := 6) (Ni := some 14) (Nj := none) #[true, true, true, true, true, true, false, false] #[true, true, true, true, true, false, true, false] rfl rfl rfl rfl (by kernel_rfl) (by decide) (by decide) (fun K hK => ?_) (fun K hK => ?_)
          · skip
            refine Kd.R_lit_step k37 (w0 := w) w.heap.size 37 (by rfl) rfl (xs := [strA 5 tx]) (inner := [.int .i64 5, .int .i32 0, .int .u8 0, .string ⟨#[]⟩, .slice none 0 0, .string tx]) (ok := fun k => k ≠ g ∧ k ≠ gr) (okp := fun _ => False) ?lr ?lp (fun _ h => h.elim) ?lf HVa.out.2.2.2.2.2 HVa.out.2.2.2.2.2.size (by simp) ?_; (case lr => first | (go_simp; done) | (go_simp; rfl)); (case lp => exact reps_one rfl (k37_mkM _ _ _ (strA 5 tx) (Kd.R_nil _ _ _ _ _))); (case lf => exact ⟨Ne.symm (Nat.ne_of_lt (blk_lt HVa.out.1)), Ne.symm (Nat.ne_of_lt (blk_lt HVa.out.2.1))⟩)
            intro vl wl ho hb hg hw
            have HVl := Aside0.mk (HVa.out.grow hg hb)
            have HRl := Aside0.mk ho
            clear ho hb hg hw
            refine hK.out _ _ ((V2.tx HVl.out HPC.out)) (fun hHeld => ?_)
            clear hK K
            refine norm_ (a' := ?_) ?_ ?_
            rotate_left
            · show Act.put _ (some 14) _ = _
              simp only [Act.put, List.setIfInBounds_toArray, List.set_cons_zero, List.set_cons_succ, i64_w, i32_w]
              rfl
            refine one_ (i := 6) (N := none) #[true, true, true, true, true, true, true, false] rfl rfl (by kernel_rfl) (by decide) (fun K hK => ?_)
            obtain ⟨z0, z1, z2, z3, z4, z5, z6, z7, z8⟩ := HVl.out.zero
            obtain ⟨y0, y1, y2, y3, y4, y5, y6, y7, y8⟩ := HVl.out.thaw
            refine skip_ (w1 := ?_) (by rfl) rfl ?_ ?_
            rotate_left
            · go_simp
              rfl
            have HVs := Aside0.mk HVl.out.ret0
            refine hK.out _ _ ((V2.tx HVs.out HPC.out)) (fun hHeld => ?_)
            clear hK K
            exact norm_ (by simp only [putAll, Act.put, List.setIfInBounds_toArray, List.set_cons_zero, List.set_cons_succ]) (hCont vl _ ⟨HVs.out, Kd.R_keep HRl.out (keep9 _ _ _ _ _ _ _ _ _ _ _) (fun k h => h.2)⟩)
          · skip
            obtain ⟨z0, z1, z2, z3, z4, z5, z6, z7, z8⟩ := HVa.out.zero
            obtain ⟨y0, y1, y2, y3, y4, y5, y6, y7, y8⟩ := HVa.out.thaw
            refine skip_ (w1 := ?_) (by rfl) rfl ?_ ?_
            rotate_left
            · go_simp
              rfl
            have HVs := Aside0.mk HVa.out.ret0
            refine hK.out _ _ ((V2.tx HVs.out HPC.out)) (fun hHeld => ?_)
            clear hK K
            refine one_ (i := 5) (N := some 14) #[true, true, true, true, true, true, true, false] rfl rfl (by kernel_rfl) (by decide) (fun K hK => ?_)
            refine Kd.R_lit_step k37 (w0 := w) w.heap.size 37 (by rfl) rfl (xs := [strA 5 tx]) (inner := [.int .i64 5, .int .i32 0, .int .u8 0, .string ⟨#[]⟩, .slice none 0 0, .string tx]) (ok := fun k => k ≠ g ∧ k ≠ gr) (okp := fun _ => False) ?lr ?lp (fun _ h => h.elim) ?lf HVs.out.2.2.2.2.2 HVs.out.2.2.2.2.2.size (by simp) ?_; (case lr => first | (go_simp; done) | (go_simp; rfl)); (case lp => exact reps_one rfl (k37_mkM _ _ _ (strA 5 tx) (Kd.R_nil _ _ _ _ _))); (case lf => exact ⟨Ne.symm (Nat.ne_of_lt (blk_lt HVs.out.1)), Ne.symm (Nat.ne_of_lt (blk_lt HVs.out.2.1))⟩)
            intro vl wl ho hb hg hw
            have HVl := Aside0.mk (HVs.out.grow hg hb)
            have HRl := Aside0.mk ho
            clear ho hb hg hw
            refine hK.out _ _ ((V2.tx HVl.out HPC.out)) (fun hHeld => ?_)
            clear hK K
            refine norm_ (a' := ?_) ?_ ?_
            rotate_left
            · show Act.put _ (some 14) _ = _
              simp only [Act.put, List.setIfInBounds_toArray, List.set_cons_zero, List.set_cons_succ, i64_w, i32_w]
              rfl
            exact norm_ (by simp only [putAll, Act.put, List.setIfInBounds_toArray, List.set_cons_zero, List.set_cons_succ]) (hCont vl _ ⟨HVl.out, HRl.out⟩)
        · skip
          refine Kd.R_lit_step k37 (w0 := w) w.heap.size 37 (by rfl) rfl (xs := [strA 5 tx]) (inner := [.int .i64 5, .int .i32 0, .int .u8 0, .string ⟨#[]⟩, .slice none 0 0, .string tx]) (ok := fun k => k ≠ g ∧ k ≠ gr) (okp := fun _ => False) ?lr ?lp (fun _ h => h.elim) ?lf HVd.out.2.2.2.2.2 HVd.out.2.2.2.2.2.size (by simp) ?_; (case lr => first | (go_simp; done) | (go_simp; rfl)); (case lp => exact reps_one rfl (k37_mkM _ _ _ (strA 5 tx) (Kd.R_nil _ _ _ _ _))); (case lf => exact ⟨Ne.symm (Nat.ne_of_lt (blk_lt HVd.out.1)), Ne.symm (Nat.ne_of_lt (blk_lt HVd.out.2.1))⟩)
          intro vl wl ho hb hg hw
          have HVl := Aside0.mk (HVd.out.grow hg hb)
          have HRl := Aside0.mk ho
          clear ho hb hg hw
          refine hK.out _ _ ((V2.tx HVl.out HPC.out)) (fun hHeld => ?_)
          clear hK K
          refine norm_ (a' := ?_) ?_ ?_
          rotate_left
          · show Act.put _ (some 14) _ = _
            simp only [Act.put, List.setIfInBounds_toArray, List.set_cons_zero, List.set_cons_succ, i64_w, i32_w]
            rfl
          refine one_ (i := 0) (N := some 9) #[true, true, true, true, true, true, false, false] rfl rfl (by kernel_rfl) (by decide) (fun K hK => ?_)
          refine goes_ Tryd.func22 (by kernel_rfl) rfl #[.int .i64 0] (by rfl) rfl rfl (by simp only [List.map_toArray, List.map_cons, List.map_nil]; rfl) ?_
          with_reducible refine ((at0_c 0 _)).mono ?_
          rintro e wa ⟨rfl, hb⟩
          refine ⟨_, rfl, ?_⟩
          have HVa := Aside0.mk (HVl.out.on hb)
          have HRa := Aside0.mk (Kd.R_below HRl.out hb)
          clear hb
          refine hK.out _ _ ((V2.tx HVa.out HPC.out)) (fun hHeld => ?_)
          clear hK K
          refine norm_ (a' := ?_) ?_ ?_
          rotate_left
          · show Act.put _ (some 9) _ = _
            simp only [Act.put, List.setIfInBounds_toArray, List.set_cons_zero, List.set_cons_succ, i64_w, i32_w]
            rfl
          refine one_ (i := 6) (N := none) #[true, true, true, true, true, true, true, false] rfl rfl (by kernel_rfl) (by decide) (fun K hK => ?_)
          obtain ⟨z0, z1, z2, z3, z4, z5, z6, z7, z8⟩ := HVa.out.zero
          obtain ⟨y0, y1, y2, y3, y4, y5, y6, y7, y8⟩ := HVa.out.thaw
          refine skip_ (w1 := ?_) (by rfl) rfl ?_ ?_
          rotate_left
          · go_simp
            rfl
          have HVs := Aside0.mk HVa.out.ret0
          refine hK.out _ _ ((V2.tx HVs.out HPC.out)) (fun hHeld => ?_)
          clear hK K
          exact norm_ (by simp only [putAll, Act.put, List.setIfInBounds_toArray, List.set_cons_zero, List.set_cons_succ]) (hCont vl _ ⟨HVs.out, Kd.R_keep HRa.out (keep9 _ _ _ _ _ _ _ _ _ _ _) (fun k h => h.2)⟩)
      rintro vs ws ⟨hvs, hrs⟩
      have HVz := Aside0.mk hvs
      have HRz := Aside0.mk hrs
      have hHeld : ws.cell? ⟨g, 7, none⟩ = some (.string tx) := (V2.tx HVz.out HPC.out)
      clear hvs hrs
      refine norm_ (a' := ?_) ?_ ?_
      rotate_left
      · simp only [putAll, Act.put, List.setIfInBounds_toArray, List.set_cons_zero, List.set_cons_succ]
        rfl
      refine pure_ (i := 7) (N := some 5) (v := ?_) (a' := ?_) #[true, true, true, true, true, true, true, true] rfl rfl (by kernel_rfl) (fun _ _ _ h => h) (Or.inl ⟨by rfl, ?_⟩) ?_ ?_
      rotate_left
      · intro w'
        go_simp
        with_reducible rfl
      rotate_left
      · simp only [Act.put, List.setIfInBounds_toArray, List.set_cons_zero, List.set_cons_succ, i64_w, i32_w]
        rfl
      refine done_ (by kernel_rfl) ?_
      go_wp2
      exact bodyPost_ret (results_ct Tryd.results21 _ _ gr 28 zcells (0, 0) _ rfl HVz.out.2.1 hup rfl (by kernel_rfl)) rfl ⟨vs, rfl, Kd.R_mono HRz.out (fun _ _ => trivial), HVz.out.2.2.2.2.2⟩
    · have hb : (s == 6) = false := beq_eq_false_iff_ne.mpr h
      have HNE := Aside0.mk h
      clear h
      go_upto_region 4 with fail
      have HVd := Aside0.mk HV.out.drew
      refine start_ (n := 8) (S := fun w' => w'.cell? ⟨g, 7, none⟩ = some (.string tx)) (ds := []) #[false, false, false, false, false, false, false, false] (by kernel_rfl) rfl rfl ((V2.tx HVd.out HPC.out)) (fun hHeld => ?_)
      refine pure_ (i := 1) (N := some 10) (v := ?_) (a' := ?_) #[false, true, false, false, false, false, false, false] rfl rfl (by kernel_rfl) (fun _ _ _ h => h) (Or.inl ⟨by rfl, ?_⟩) ?_ ?_
      rotate_left
      · intro w'
        go_simp
        with_reducible rfl
      rotate_left
      · simp only [Act.put, List.setIfInBounds_toArray, List.set_cons_zero, List.set_cons_succ, i64_w, i32_w]
        rfl
      refine pure_ (i := 2) (N := some 11) (v := ?_) (a' := ?_) #[false, true, true, false, false, false, false, false] rfl rfl (by kernel_rfl) (fun _ _ _ h => h) (Or.inl ⟨by rfl, ?_⟩) ?_ ?_
      rotate_left
      · intro w'
        go_simp
        with_reducible rfl
      rotate_left
      · simp only [Act.put, List.setIfInBounds_toArray, List.set_cons_zero, List.set_cons_succ, i64_w, i32_w]
        rfl
      refine take_ (i := 3) (N := some 12) (v := ?_) (a' := ?_) #[false, true, true, true, false, false, false, false] rfl rfl (by kernel_rfl) (fun _ _ _ h => h) (Or.inl ⟨by rfl, ?_⟩) hHeld ?_ ?_
      rotate_left
      · intro w' s0
        go_simp
        with_reducible rfl
      rotate_left
      · simp only [Act.put, List.setIfInBounds_toArray, List.set_cons_zero, List.set_cons_succ, i64_w, i32_w]
        rfl
      refine pure_ (i := 4) (N := some 13) (v := ?_) (a' := ?_) #[false, true, true, true, true, false, false, false] rfl rfl (by kernel_rfl) (fun _ _ _ h => h) (Or.inl ⟨by rfl, ?_⟩) ?_ ?_
      rotate_left
      · intro w'
        go_simp
        with_reducible rfl
      rotate_left
      · simp only [Act.put, List.setIfInBounds_toArray, List.set_cons_zero, List.set_cons_succ, i64_w, i32_w]
        rfl
      refine join_ (σ := Value) 1 #[true, true, true, true, true, true, true, false] (fun s => [(9, .agg #[.int .i64 0, .int .u8 0, .int .u8 0, .int .u8 0, .int .i64 0, .string ⟨#[]⟩, .slice none 0 0, .string ⟨#[]⟩, .int .i64 0]), (14, s)]) (fun s w' => V2 w w' g gr pc zcells ∧ Kd.R k37 37 w' w.heap.size (fun k => k ≠ g ∧ k ≠ gr) s [strA 4 tx]) ?_ ?_
      rotate_left
      · intro hCont
        refine two_ (i := 0) (j := 5) (Ni := some 9) (Nj := some 14) #[true, true, true, true, true, false, false, false] #[false, true, true, true, true, true, false, false] rfl rfl rfl rfl (by kernel_rfl) (by decide) (by decide) (fun K hK => ?_) (fun K hK => ?_)
        · skip
          refine goes_ Tryd.func22 (by kernel_rfl) rfl #[.int .i64 0] (by rfl) rfl rfl (by simp only [List.map_toArray, List.map_cons, List.map_nil]; rfl) ?_
          with_reducible refine ((at0_c 0 _)).mono ?_
          rintro e wa ⟨rfl, hb⟩
          refine ⟨_, rfl, ?_⟩
          have HVa := Aside0.mk (HVd.out.on hb)
          clear hb
          refine hK.out _ _ ((V2.tx HVa.out HPC.out)) (fun hHeld => ?_)
          clear hK K
          refine norm_ (a' := ?_) ?_ ?_
          rotate_left
          · show Act.put _ (some 9) _ = _
            simp only [Act.put, List.setIfInBounds_toArray, List.set_cons_zero, List.set_cons_succ, i64_w, i32_w]
            rfl
          refine two_ (i := 5) (j := 6) (Ni := some 14) (Nj := none) #[true, true, true, true, true, true, false, false] #[true, true, true, true, true, false, true, false] rfl rfl rfl rfl (by kernel_rfl) (by decide) (by decide) (fun K hK => ?_) (fun K hK => ?_)
          · skip
            refine Kd.R_lit_step k37 (w0 := w) w.heap.size 37 (by rfl) rfl (xs := [strA 4 tx]) (inner := [.int .i64 4, .int .i32 0, .int .u8 0, .string ⟨#[]⟩, .slice none 0 0, .string tx]) (ok := fun k => k ≠ g ∧ k ≠ gr) (okp := fun _ => False) ?lr ?lp (fun _ h => h.elim) ?lf HVa.out.2.2.2.2.2 HVa.out.2.2.2.2.2.size (by simp) ?_; (case lr => first | (go_simp; done) | (go_simp; rfl)); (case lp => exact reps_one rfl (k37_mkM _ _ _ (strA 4 tx) (Kd.R_nil _ _ _ _ _))); (case lf => exact ⟨Ne.symm (Nat.ne_of_lt (blk_lt HVa.out.1)), Ne.symm (Nat.ne_of_lt (blk_lt HVa.out.2.1))⟩)
            intro vl wl ho hb hg hw
            have HVl := Aside0.mk (HVa.out.grow hg hb)
            have HRl := Aside0.mk ho
            clear ho hb hg hw
            refine hK.out _ _ ((V2.tx HVl.out HPC.out)) (fun hHeld => ?_)
            clear hK K
            refine norm_ (a' := ?_) ?_ ?_
            rotate_left
            · show Act.put _ (some 14) _ = _
              simp only [Act.put, List.setIfInBounds_toArray, List.set_cons_zero, List.set_cons_succ, i64_w, i32_w]
              rfl
            refine one_ (i := 6) (N := none) #[true, true, true, true, true, true, true, false] rfl rfl (by kernel_rfl) (by decide) (fun K hK => ?_)
            obtain ⟨z0, z1, z2, z3, z4, z5, z6, z7, z8⟩ := HVl.out.zero
            obtain ⟨y0, y1, y2, y3, y4, y5, y6, y7, y8⟩ := HVl.out.thaw
            refine skip_ (w1 := ?_) (by rfl) rfl ?_ ?_
            rotate_left
            · go_simp
              rfl
            have HVs := Aside0.mk HVl.out.ret0
            refine hK.out _ _ ((V2.tx HVs.out HPC.out)) (fun hHeld => ?_)
            clear hK K
            exact norm_ (by simp only [putAll, Act.put, List.setIfInBounds_toArray, List.set_cons_zero, List.set_cons_succ]) (hCont vl _ ⟨HVs.out, Kd.R_keep HRl.out (keep9 _ _ _ _ _ _ _ _ _ _ _) (fun k h => h.2)⟩)
          · skip
            obtain ⟨z0, z1, z2, z3, z4, z5, z6, z7, z8⟩ := HVa.out.zero
            obtain ⟨y0, y1, y2, y3, y4, y5, y6, y7, y8⟩ := HVa.out.thaw
            refine skip_ (w1 := ?_) (by rfl) rfl ?_ ?_
            rotate_left
            · go_simp
              rfl
            have HVs := Aside0.mk HVa.out.ret0
            refine hK.out _ _ ((V2.tx HVs.out HPC.out)) (fun hHeld => ?_)
            clear hK K
            refine one_ (i := 5) (N := some 14) #[true, true, true, true, true, true, true, false] rfl rfl (by kernel_rfl) (by decide) (fun K hK => ?_)
            refine Kd.R_lit_step k37 (w0 := w) w.heap.size 37 (by rfl) rfl (xs := [strA 4 tx]) (inner := [.int .i64 4, .int .i32 0, .int .u8 0, .string ⟨#[]⟩, .slice none 0 0, .string tx]) (ok := fun k => k ≠ g ∧ k ≠ gr) (okp := fun _ => False) ?lr ?lp (fun _ h => h.elim) ?lf HVs.out.2.2.2.2.2 HVs.out.2.2.2.2.2.size (by simp) ?_; (case lr => first | (go_simp; done) | (go_simp; rfl)); (case lp => exact reps_one rfl (k37_mkM _ _ _ (strA 4 tx) (Kd.R_nil _ _ _ _ _))); (case lf => exact ⟨Ne.symm (Nat.ne_of_lt (blk_lt HVs.out.1)), Ne.symm (Nat.ne_of_lt (blk_lt HVs.out.2.1))⟩)
            intro vl wl ho hb hg hw
            have HVl := Aside0.mk (HVs.out.grow hg hb)
            have HRl := Aside0.mk ho
            clear ho hb hg hw
            refine hK.out _ _ ((V2.tx HVl.out HPC.out)) (fun hHeld => ?_)
            clear hK K
            refine norm_ (a' := ?_) ?_ ?_
            rotate_left
            · show Act.put _ (some 14) _ = _
              simp only [Act.put, List.setIfInBounds_toArray, List.set_cons_zero, List.set_cons_succ, i64_w, i32_w]
              rfl
            exact norm_ (by simp only [putAll, Act.put, List.setIfInBounds_toArray, List.set_cons_zero, List.set_cons_succ]) (hCont vl _ ⟨HVl.out, HRl.out⟩)
        · skip
          refine Kd.R_lit_step k37 (w0 := w) w.heap.size 37 (by rfl) rfl (xs := [strA 4 tx]) (inner := [.int .i64 4, .int .i32 0, .int .u8 0, .string ⟨#[]⟩, .slice none 0 0, .string tx]) (ok := fun k => k ≠ g ∧ k ≠ gr) (okp := fun _ => False) ?lr ?lp (fun _ h => h.elim) ?lf HVd.out.2.2.2.2.2 HVd.out.2.2.2.2.2.size (by simp) ?_; (case lr => first | (go_simp; done) | (go_simp; rfl)); (case lp => exact reps_one rfl (k37_mkM _ _ _ (strA 4 tx) (Kd.R_nil _ _ _ _ _))); (case lf => exact ⟨Ne.symm (Nat.ne_of_lt (blk_lt HVd.out.1)), Ne.symm (Nat.ne_of_lt (blk_lt HVd.out.2.1))⟩)
          intro vl wl ho hb hg hw
          have HVl := Aside0.mk (HVd.out.grow hg hb)
          have HRl := Aside0.mk ho
          clear ho hb hg hw
          refine hK.out _ _ ((V2.tx HVl.out HPC.out)) (fun hHeld => ?_)
          clear hK K
          refine norm_ (a' := ?_) ?_ ?_
          rotate_left
          · show Act.put _ (some 14) _ = _
            simp only [Act.put, List.setIfInBounds_toArray, List.set_cons_zero, List.set_cons_succ, i64_w, i32_w]
            rfl
          refine one_ (i := 0) (N := some 9) #[true, true, true, true, true, true, false, false] rfl rfl (by kernel_rfl) (by decide) (fun K hK => ?_)
          refine goes_ Tryd.func22 (by kernel_rfl) rfl #[.int .i64 0] (by rfl) rfl rfl (by simp only [List.map_toArray, List.map_cons, List.map_nil]; rfl) ?_
          with_reducible refine ((at0_c 0 _)).mono ?_
          rintro e wa ⟨rfl, hb⟩
          refine ⟨_, rfl, ?_⟩
          have HVa := Aside0.mk (HVl.out.on hb)
          have HRa := Aside0.mk (Kd.R_below HRl.out hb)
          clear hb
          refine hK.out _ _ ((V2.tx HVa.out HPC.out)) (fun hHeld => ?_)
          clear hK K
          refine norm_ (a' := ?_) ?_ ?_
          rotate_left
          · show Act.put _ (some 9) _ = _
            simp only [Act.put, List.setIfInBounds_toArray, List.set_cons_zero, List.set_cons_succ, i64_w, i32_w]
            rfl
          refine one_ (i := 6) (N := none) #[true, true, true, true, true, true, true, false] rfl rfl (by kernel_rfl) (by decide) (fun K hK => ?_)
          obtain ⟨z0, z1, z2, z3, z4, z5, z6, z7, z8⟩ := HVa.out.zero
          obtain ⟨y0, y1, y2, y3, y4, y5, y6, y7, y8⟩ := HVa.out.thaw
          refine skip_ (w1 := ?_) (by rfl) rfl ?_ ?_
          rotate_left
          · go_simp
            rfl
          have HVs := Aside0.mk HVa.out.ret0
          refine hK.out _ _ ((V2.tx HVs.out HPC.out)) (fun hHeld => ?_)
          clear hK K
          exact norm_ (by simp only [putAll, Act.put, List.setIfInBounds_toArray, List.set_cons_zero, List.set_cons_succ]) (hCont vl _ ⟨HVs.out, Kd.R_keep HRa.out (keep9 _ _ _ _ _ _ _ _ _ _ _) (fun k h => h.2)⟩)
      rintro vs ws ⟨hvs, hrs⟩
      have HVz := Aside0.mk hvs
      have HRz := Aside0.mk hrs
      have hHeld : ws.cell? ⟨g, 7, none⟩ = some (.string tx) := (V2.tx HVz.out HPC.out)
      clear hvs hrs
      refine norm_ (a' := ?_) ?_ ?_
      rotate_left
      · simp only [putAll, Act.put, List.setIfInBounds_toArray, List.set_cons_zero, List.set_cons_succ]
        rfl
      refine pure_ (i := 7) (N := some 5) (v := ?_) (a' := ?_) #[true, true, true, true, true, true, true, true] rfl rfl (by kernel_rfl) (fun _ _ _ h => h) (Or.inl ⟨by rfl, ?_⟩) ?_ ?_
      rotate_left
      · intro w'
        go_simp
        with_reducible rfl
      rotate_left
      · simp only [Act.put, List.setIfInBounds_toArray, List.set_cons_zero, List.set_cons_succ, i64_w, i32_w]
        rfl
      refine done_ (by kernel_rfl) ?_
      go_wp2
      exact bodyPost_ret (results_ct Tryd.results21 _ _ gr 28 zcells (0, 0) _ rfl HVz.out.2.1 hup rfl (by kernel_rfl)) rfl ⟨vs, rfl, by unfold finishP; rw [if_neg HNE.out]; exact Kd.R_mono HRz.out (fun _ _ => trivial), HVz.out.2.2.2.2.2⟩
theorem finish_p (v : PR) (pv : Value) (A0 : Option Addr) (n0 : Nat) (s : Int) (w : World) : Calls Tryd.prog 21 #[pval v pv, .int .i64 s] w (PT w A0 n0 (finishP v s)) := by
  refine (finish_c v pv s w).mono ?_
  rintro e w1 ⟨u, rfl, h1, h2⟩
  exact ⟨u, none, 0, 0, rfl, Kd.C_nil _ _, h1, h2, fun _ h => nomatch h⟩
end Go.Proofs.YtkdkajcokoggiaaDoor.VtSmall
