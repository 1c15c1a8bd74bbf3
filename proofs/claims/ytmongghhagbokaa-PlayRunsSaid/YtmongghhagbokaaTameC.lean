/- A list of events made right, as the document has it: what it is, as a contract; no condition but that the list can be read. -/
import Derived.Test.YtmongghhagbokaaEventListR
import Derived.Test.YtmongghhagbokaaEvInfo
namespace Go.Proofs.Ytmongghhagbokaa.Tame
open Go.RowKit Go.Proofs.Ytmongghhagbokaa.Kit Go.Proofs.Ytmongghhagbokaa.Plain Go.Proofs.Ytmongghhagbokaa.Mine Go.Proofs.Ytmongghhagbokaa.Event Go.Proofs.Ytmongghhagbokaa.EventRef Go.Proofs.Ytmongghhagbokaa.EventList Go.Proofs.Ytmongghhagbokaa.EventListR Go.Proofs.YtmongghhagbokaaW.PrintWords Go.Proofs.YtmongghhagbokaaW.PrintLast Go.Proofs.YtmongghhagbokaaW.PrintMore
open Go.Proofs.Ytmongghhagbokaa.PPlayRights (S54 z54 k54 k54_open k54_mk k54_mkM rd_T54 at_T54 info54)
set_option linter.unusedVariables false
set_option linter.unusedSimpArgs false
theorem low2 (n : Int) : Go.bits .and .i64 n 3 = n % 4 := by
  have h127 : (BitVec.ofInt 64 3).toNat = 2 ^ 2 - 1 := by decide
  have key : (BitVec.ofInt 64 n &&& BitVec.ofInt 64 3).toNat = (n % ((2 ^ 64 : Nat) : Int)).toNat % 2 ^ 2 := by
    rw [BitVec.toNat_and, BitVec.toNat_ofInt, h127, Nat.and_two_pow_sub_one_eq_mod]
  show IntKind.i64.wrap ((BitVec.ofInt 64 n &&& BitVec.ofInt 64 3).toNat : Nat) = n % 4
  rw [key, IntKind.wrap_i64]
  omega
theorem low16 (n : Int) : Go.bits .and .i64 n 65535 = n % 65536 := by
  have h127 : (BitVec.ofInt 64 65535).toNat = 2 ^ 16 - 1 := by decide
  have key : (BitVec.ofInt 64 n &&& BitVec.ofInt 64 65535).toNat = (n % ((2 ^ 64 : Nat) : Int)).toNat % 2 ^ 16 := by
    rw [BitVec.toNat_and, BitVec.toNat_ofInt, h127, Nat.and_two_pow_sub_one_eq_mod]
  show IntKind.i64.wrap ((BitVec.ofInt 64 n &&& BitVec.ofInt 64 65535).toNat : Nat) = n % 65536
  rw [key, IntKind.wrap_i64]
  omega
theorem low7i (n : Int) : Go.bits .and .i64 n 127 = n % 128 := by
  have h127 : (BitVec.ofInt 64 127).toNat = 2 ^ 7 - 1 := by decide
  have key : (BitVec.ofInt 64 n &&& BitVec.ofInt 64 127).toNat = (n % ((2 ^ 64 : Nat) : Int)).toNat % 2 ^ 7 := by
    rw [BitVec.toNat_and, BitVec.toNat_ofInt, h127, Nat.and_two_pow_sub_one_eq_mod]
  show IntKind.i64.wrap ((BitVec.ofInt 64 n &&& BitVec.ofInt 64 127).toNat : Nat) = n % 128
  rw [key, IntKind.wrap_i64]
  omega
/-- One event made right behind a time. -/
def tame1 (t : Int) (x : S54) : S54 :=
  if x.f1 % 4 = 2 then ⟨t + x.f0 % 65536, 2, ByteArray.empty, x.f3 % 128 + 1, x.f4 % 128 + 1⟩ else ⟨t + x.f0 % 65536, x.f1 % 4, if 400 < x.f2.size then x.f2.extract 0 400 else x.f2, 0, 0⟩
def tame : Int → List S54 → List S54
  | _, [] => []
  | t, x :: l => tame1 t x :: tame (t + x.f0 % 65536) l
theorem tame_cons (t : Int) (x : S54) (l : List S54) : tame t (x :: l) = tame1 t x :: tame (t + x.f0 % 65536) l := rfl
theorem tame_len (l : List S54) : ∀ t : Int, (tame t l).length = l.length := by
  induction l with
  | nil => intro t; rfl
  | cons x l ih => intro t; rw [tame_cons, List.length_cons, List.length_cons, ih]
/-- What is made right is right, and no time is above 65535 for each event. -/
theorem tame_right (l : List S54) : ∀ t : Int, 0 ≤ t → t + 65536 * l.length < 4611686018427387904 → listR t (tame t l) = true := by
  induction l with
  | nil => intro t _ _; rfl
  | cons x l ih =>
    intro t h0 h1
    have hm : 0 ≤ x.f0 % 65536 ∧ x.f0 % 65536 < 65536 := by omega
    rw [List.length_cons] at h1
    have h2 := ih (t + x.f0 % 65536) (by omega) (by push_cast at h1; omega)
    have hf : (tame1 t x).f0 = t + x.f0 % 65536 := by unfold tame1; split <;> rfl
    rw [tame_cons, listR_cons, hf, h2, decide_eq_true (by omega : t ≤ t + x.f0 % 65536)]
    have hr : right (tame1 t x) = true := by
      unfold right rightB
      rw [decide_eq_true_iff]
      unfold tame1
      by_cases h3 : x.f1 % 4 = 2
      · rw [if_pos h3]
        refine ⟨by show 0 ≤ t + x.f0 % 65536; omega, by show t + x.f0 % 65536 < _; push_cast at h1; omega, by simp, .inl ⟨rfl, rfl, ?_⟩⟩
        show 1 ≤ x.f3 % 128 + 1 ∧ x.f3 % 128 + 1 ≤ 1000 ∧ 1 ≤ x.f4 % 128 + 1 ∧ x.f4 % 128 + 1 ≤ 1000
        omega
      · rw [if_neg h3]
        refine ⟨by show 0 ≤ t + x.f0 % 65536; omega, by show t + x.f0 % 65536 < _; push_cast at h1; omega, ?_, .inr ⟨by show x.f1 % 4 = 0 ∨ x.f1 % 4 = 1 ∨ x.f1 % 4 = 3; omega, rfl, rfl⟩⟩
        show (if 400 < x.f2.size then x.f2.extract 0 400 else x.f2).size ≤ 400
        split
        · rw [ByteArray.size_extract]; omega
        · omega
    rw [hr]
    rfl
set_option maxHeartbeats 3200000 in
set_option maxRecDepth 100000 in
theorem tame_c (A : Option Addr) (c : Nat) (l : List S54) (w : World) (hr : Kd.C k54 w A l.length l) (hl : l.length ≤ 1000) :
    Calls Try.prog 9 #[.slice A l.length c] w fun e w' => ∃ v : Value, e = .returned v ∧ Kd.R k54 54 w' w.heap.size (fun _ => True) v (tame 0 l) ∧ Below w.heap.size w w' := by
  have HR := Aside0.mk hr
  have hlb : (l.length : Int) ≤ 1000 := by omega
  have hu := Try.underlying54
  clear hr hl
  go_enter Try.func9, Try.ntmps9
  go_wp2
  go_loopg [3, 4, 5] (l.length) (fun g v3 v4 v5 W => ∃ (i : Nat) (t : Int) (xs : List S54), v5 = .int .i64 (i : Int) ∧ v4 = .int .i64 t ∧ Aside0 (g + i = l.length) ∧ Aside0 (0 ≤ t ∧ t ≤ 65535 * i) ∧ Aside0 (tame 0 l = xs ++ tame t (l.drop i)) ∧ Aside0 (xs.length = i) ∧ Aside0 (Kd.R k54 54 W w.heap.size (fun _ => True) v3 xs) ∧ Aside0 (Below w.heap.size w W))
  case atStart => exact ⟨0, 0, [], rfl, rfl, ⟨by omega⟩, ⟨by simp⟩, ⟨rfl⟩, ⟨rfl⟩, ⟨Kd.R_nil _ _ _ _ _⟩, ⟨Below.refl _ _⟩⟩
  case round =>
    obtain ⟨i, t, xs, rfl, rfl, HG, HT, HL, HXL, HO, HB⟩ := hrel
    have hgi := HG.out
    have hxl := HXL.out
    by_cases hi : i < l.length
    · obtain ⟨g0, rfl⟩ : ∃ g0, gk = g0 + 1 := ⟨gk - 1, by omega⟩
      obtain ⟨ad, ead, hc0, hc1, hc2, hc3, hc4⟩ := at_ev (Kd.C_below HR.out HB.out) i hi
      have hd : l.drop i = l[i] :: l.drop (i + 1) := List.drop_eq_getElem_cons hi
      obtain ⟨x, hx⟩ : ∃ x, x = l[i] := ⟨_, rfl⟩
      have hl := HL.out
      rw [hd, ← hx, tame_cons] at hl
      rw [← hx] at hc0 hc1 hc2 hc3 hc4
      have hil : (i : Int) < l.length := by omega
      have HI := Aside0.mk hi
      obtain ⟨xt, xk, xd, xw, xh⟩ := x
      dsimp only at hc0 hc1 hc2 hc3 hc4
      obtain ⟨a, ha⟩ : ∃ a, Go.bits .and .i64 xt 65535 = a := ⟨_, rfl⟩
      obtain ⟨k4, hk4⟩ : ∃ k4, Go.bits .and .i64 xk 3 = k4 := ⟨_, rfl⟩
      obtain ⟨aw, haw⟩ : ∃ aw, Go.bits .and .i64 xw 127 = aw := ⟨_, rfl⟩
      obtain ⟨ah, hah⟩ : ∃ ah, Go.bits .and .i64 xh 127 = ah := ⟨_, rfl⟩
      have ha' := (low16 xt).symm.trans ha
      have hk4' := (low2 xk).symm.trans hk4
      have haw' := (low7i xw).symm.trans haw
      have hah' := (low7i xh).symm.trans hah
      have b1 : 0 ≤ a ∧ a ≤ 65535 := by omega
      have b2 : 0 ≤ aw ∧ aw ≤ 127 := by omega
      have b3 : 0 ≤ ah ∧ ah ≤ 127 := by omega
      have hht := HT.out
      have b4 : 0 ≤ t := hht.1
      have b5 : t ≤ 100000000 := by omega
      obtain ⟨b11, b12⟩ := b1
      obtain ⟨b21, b22⟩ := b2
      obtain ⟨b31, b32⟩ := b3
      have hnt : (t + a : Int) ≤ 65535 * ((i + 1 : Nat) : Int) := by push_cast; omega
      have HNT := Aside0.mk hnt
      have hl2 : tame 0 l = (xs ++ [tame1 t ⟨xt, xk, xd, xw, xh⟩]) ++ tame (t + a) (l.drop (i + 1)) := by
        rw [hl, List.append_assoc]
        simp only [List.singleton_append, ha']
      have HLL := Aside0.mk hl2
      have hp : tame1 t ⟨xt, xk, xd, xw, xh⟩ = if k4 = 2 then ⟨t + a, 2, ByteArray.empty, aw + 1, ah + 1⟩ else ⟨t + a, k4, if 400 < xd.size then xd.extract 0 400 else xd, 0, 0⟩ := by
        unfold tame1
        simp only [ha', hk4', haw', hah']
      have HPP := Aside0.mk hp
      subst ead
      clear hl hd hx hgi hi HL ha' hk4' haw' hah' hht hnt hl2 hp
      go_upto_region 6 with fail
      go_cut [6] (fun v6 W => ∃ g : Nat, v6 = .pointer (some ⟨g, 0, none⟩) ∧ Aside0 (w.heap.size ≤ g) ∧ Aside0 (W.heap[g]? = some (.cells #[.int .i64 xt, .int .i64 xk, .string xd, .int .i64 xw, .int .i64 xh] 54 (0, 0))) ∧ Aside0 (Kd.R k54 54 W w.heap.size (fun k => k ≠ g) u3 xs) ∧ Aside0 (Below w.heap.size w W))
      case first =>
        go_wp2_with (first
          | ((with_reducible refine gate_dst (N := 6) rfl ?_); refine box_event ?hg (N := 6) ?hd (cs := #[.int .i64 0, .int .i64 0, .string (⟨#[]⟩ : ByteArray), .int .i64 0, .int .i64 0]) (t := 54) ?hr ?_; (case hd => rfl); (case hg => rfl); (case hr => first | (go_simp; done) | (go_simp; rfl)); intro g hg w3 hbox hb; have HB3 := Aside0.mk (below_step HB.out hb); have BK := Aside0.mk hbox; have GE := Aside0.mk (show w.heap.size ≤ g from by rw [hg]; exact HB.out.size); have HO3 := Aside0.mk (Kd.R_mono (ok' := fun k => k ≠ g) (Kd.R_below (Kd.R_bound HO.out) hb) (fun k hk => (by have h7 := hk.2.2.1; omega))); have b0 : w3.cell? ⟨g, 0, none⟩ = some (.int .i64 0) := (blk_cell BK.out 0).trans rfl; have b1 : w3.cell? ⟨g, 1, none⟩ = some (.int .i64 0) := (blk_cell BK.out 1).trans rfl; have b2 : w3.cell? ⟨g, 2, none⟩ = some (.string (⟨#[]⟩ : ByteArray)) := (blk_cell BK.out 2).trans rfl; have b3 : w3.cell? ⟨g, 3, none⟩ = some (.int .i64 0) := (blk_cell BK.out 3).trans rfl; have b4 : w3.cell? ⟨g, 4, none⟩ = some (.int .i64 0) := (blk_cell BK.out 4).trans rfl; have f0 := blk_frozen BK.out 0; have f1 := blk_frozen BK.out 1; have f2 := blk_frozen BK.out 2; have f3 := blk_frozen BK.out 3; have f4 := blk_frozen BK.out 4; clear hb hbox hg)
          | fail)
        go_meet
        case rel => exact ⟨g, rfl, GE, ⟨blk_ev rfl BK.out _ _ _ _ _⟩, ⟨Kd.R_keep HO3.out (by repeat (first | exact KeepBut.refl _ _ _ | refine KeepBut.set_ ?_ _ _)) (fun k hk => hk)⟩, ⟨below_set (below_set (below_set (below_set (below_set HB3.out GE.out) GE.out) GE.out) GE.out) GE.out⟩⟩
      case rest =>
        obtain ⟨g, rfl, GE, BK, HO3, HB3⟩ := hcut
        clear hc0 hc1 hc2 hc3 hc4 HO HB HR
        go_upto_region 7 with fail
        go_cut [] (fun W => Aside0 (W.heap[g]? = some (.cells #[.int .i64 xt, .int .i64 k4, .string xd, .int .i64 xw, .int .i64 xh] 54 (0, 0))) ∧ Aside0 (Kd.R k54 54 W w.heap.size (fun k => k ≠ g) u3 xs) ∧ Aside0 (Below w.heap.size w W))
        case first =>
          have d1 : wc.cell? ⟨g, 1, none⟩ = some (.int .i64 xk) := (blk_cell BK.out 1).trans rfl
          have e1 := blk_frozen BK.out 1
          go_wp2
          go_meet
          case rel => exact ⟨⟨blk_put BK.out 1 _ rfl⟩, ⟨Kd.R_keep HO3.out ((KeepBut.refl _ _ _).set_ _ _) (fun k hk => hk)⟩, ⟨below_set HB3.out GE.out⟩⟩
        case rest =>
          clear HO3 HB3 BK
          obtain ⟨BK, HO3, HB3⟩ := hcut
          go_upto_region 8 with fail
          go_cut [] (fun W => Aside0 (W.heap[g]? = some (.cells #[.int .i64 (t + a), .int .i64 k4, .string xd, .int .i64 xw, .int .i64 xh] 54 (0, 0))) ∧ Aside0 (Kd.R k54 54 W w.heap.size (fun k => k ≠ g) u3 xs) ∧ Aside0 (Below w.heap.size w W))
          case first =>
            have d0 : wc.cell? ⟨g, 0, none⟩ = some (.int .i64 xt) := (blk_cell BK.out 0).trans rfl
            have e0 := blk_frozen BK.out 0
            go_wp2
            go_meet
            case rel => exact ⟨⟨blk_put BK.out 0 _ rfl⟩, ⟨Kd.R_keep HO3.out ((KeepBut.refl _ _ _).set_ _ _) (fun k hk => hk)⟩, ⟨below_set HB3.out GE.out⟩⟩
          case rest =>
          clear HO3 HB3 BK
          obtain ⟨BK, HO3, HB3⟩ := hcut
          have hcase : (k4 = 2 ∧ 400 < (xd.size : Int)) ∨ (k4 = 2 ∧ (xd.size : Int) ≤ 400) ∨ (k4 ≠ 2 ∧ 400 < (xd.size : Int)) ∨ (k4 ≠ 2 ∧ (xd.size : Int) ≤ 400) := by omega
          clear ha hk4
          have d0 : wc.cell? ⟨g, 0, none⟩ = some (.int .i64 (t + a)) := (blk_cell BK.out 0).trans rfl
          have d1 : wc.cell? ⟨g, 1, none⟩ = some (.int .i64 k4) := (blk_cell BK.out 1).trans rfl
          have d2 : wc.cell? ⟨g, 2, none⟩ = some (.string xd) := (blk_cell BK.out 2).trans rfl
          have d3 : wc.cell? ⟨g, 3, none⟩ = some (.int .i64 xw) := (blk_cell BK.out 3).trans rfl
          have d4 : wc.cell? ⟨g, 4, none⟩ = some (.int .i64 xh) := (blk_cell BK.out 4).trans rfl
          have e2 := blk_frozen BK.out 2
          have e3 := blk_frozen BK.out 3
          have e4 := blk_frozen BK.out 4
          rcases hcase with ⟨rfl, hsz⟩ | ⟨rfl, hsz⟩ | ⟨hk, hsz⟩ | ⟨hk, hsz⟩
          ·
            have HTE := Aside0.mk (show tame1 t ⟨xt, xk, xd, xw, xh⟩ = (⟨(t + a), 2, (⟨#[]⟩ : ByteArray), (aw + 1), (ah + 1)⟩ : S54) from by rw [HPP.out]; rw [if_pos rfl]; rfl)
            clear HPP
            go_wp2_with (first
              | ((with_reducible refine gate_builtin (b := .append) (xs := #[.tmp 53, .tmp 55]) rfl ?_); at_builtin; go_must ((refine Kd.R_append k54 (w0 := w) w.heap.size rfl (.tmp 53) (.tmp 55) 22 54 (.agg #[(.int .i64 0), (.int .i64 0), (.string ⟨#[]⟩), (.int .i64 0), (.int .i64 0)]) 48 rfl Try.underlying22 info54 rfl (by decide) (by omega) u3 xs (⟨(t + a), 2, (⟨#[]⟩ : ByteArray), (aw + 1), (ah + 1)⟩ : S54) [.int .i64 (t + a), .int .i64 2, .string (⟨#[]⟩ : ByteArray), .int .i64 (aw + 1), .int .i64 (ah + 1)] (fun _ => True) (fun _ => False) rfl (by first | rfl | (go_simp; done) | (go_simp; rfl)) ?aP (fun _ hk => hk.elim) ?aF (Kd.R_mono (ok' := fun _ => True) (Kd.R_keep HO3.out (by repeat (first | exact KeepBut.refl _ _ _ | refine KeepBut.set_ ?_ _ _)) (fun k hk => hk)) (fun _ _ => trivial)) (by repeat (first | exact HB3.out | refine below_set ?_ GE.out)) (by first | exact HB3.out.size | (simp; exact HB3.out.size)) ?aL ?_; (case aP => exact k54_mkM _ _ _ (⟨(t + a), 2, (⟨#[]⟩ : ByteArray), (aw + 1), (ah + 1)⟩ : S54)); (case aF => exact fun _ _ => trivial); (case aL => have := HXL.out; have := HI.out; omega); intro v1 w8 ho hb hg hat; have HO8 := Aside0.mk ho; have HB8 := Aside0.mk hb; clear ho hb hg hat)))
              | fail)
            rw [← HTE.out] at HO8
            go_roundg g0
            case measure => omega
            case rel => exact ⟨i + 1, t + a, xs ++ [tame1 t ⟨xt, xk, xd, xw, xh⟩], by first | go_num | (congr 1; unfold wrap64; omega), rfl, ⟨by have := HG.out; omega⟩, ⟨⟨by omega, HNT.out⟩⟩, HLL, ⟨by rw [List.length_append, HXL.out]; rfl⟩, HO8, HB8⟩
          ·
            have HTE := Aside0.mk (show tame1 t ⟨xt, xk, xd, xw, xh⟩ = (⟨(t + a), 2, (⟨#[]⟩ : ByteArray), (aw + 1), (ah + 1)⟩ : S54) from by rw [HPP.out]; rw [if_pos rfl]; rfl)
            clear HPP
            go_wp2_with (first
              | ((with_reducible refine gate_builtin (b := .append) (xs := #[.tmp 53, .tmp 55]) rfl ?_); at_builtin; go_must ((refine Kd.R_append k54 (w0 := w) w.heap.size rfl (.tmp 53) (.tmp 55) 22 54 (.agg #[(.int .i64 0), (.int .i64 0), (.string ⟨#[]⟩), (.int .i64 0), (.int .i64 0)]) 48 rfl Try.underlying22 info54 rfl (by decide) (by omega) u3 xs (⟨(t + a), 2, (⟨#[]⟩ : ByteArray), (aw + 1), (ah + 1)⟩ : S54) [.int .i64 (t + a), .int .i64 2, .string (⟨#[]⟩ : ByteArray), .int .i64 (aw + 1), .int .i64 (ah + 1)] (fun _ => True) (fun _ => False) rfl (by first | rfl | (go_simp; done) | (go_simp; rfl)) ?aP (fun _ hk => hk.elim) ?aF (Kd.R_mono (ok' := fun _ => True) (Kd.R_keep HO3.out (by repeat (first | exact KeepBut.refl _ _ _ | refine KeepBut.set_ ?_ _ _)) (fun k hk => hk)) (fun _ _ => trivial)) (by repeat (first | exact HB3.out | refine below_set ?_ GE.out)) (by first | exact HB3.out.size | (simp; exact HB3.out.size)) ?aL ?_; (case aP => exact k54_mkM _ _ _ (⟨(t + a), 2, (⟨#[]⟩ : ByteArray), (aw + 1), (ah + 1)⟩ : S54)); (case aF => exact fun _ _ => trivial); (case aL => have := HXL.out; have := HI.out; omega); intro v1 w8 ho hb hg hat; have HO8 := Aside0.mk ho; have HB8 := Aside0.mk hb; clear ho hb hg hat)))
              | fail)
            rw [← HTE.out] at HO8
            go_roundg g0
            case measure => omega
            case rel => exact ⟨i + 1, t + a, xs ++ [tame1 t ⟨xt, xk, xd, xw, xh⟩], by first | go_num | (congr 1; unfold wrap64; omega), rfl, ⟨by have := HG.out; omega⟩, ⟨⟨by omega, HNT.out⟩⟩, HLL, ⟨by rw [List.length_append, HXL.out]; rfl⟩, HO8, HB8⟩
          ·
            have hk2 : ((k4 : Int) == 2) = false := beq_eq_false_iff_ne.mpr hk
            have HTE := Aside0.mk (show tame1 t ⟨xt, xk, xd, xw, xh⟩ = (⟨(t + a), k4, (xd.extract 0 400), (0 : Int), (0 : Int)⟩ : S54) from by rw [HPP.out]; rw [if_neg hk]; congr 1; exact if_pos (by omega))
            clear HPP
            go_wp2_with (first
              | ((with_reducible refine gate_builtin (b := .append) (xs := #[.tmp 53, .tmp 55]) rfl ?_); at_builtin; go_must ((refine Kd.R_append k54 (w0 := w) w.heap.size rfl (.tmp 53) (.tmp 55) 22 54 (.agg #[(.int .i64 0), (.int .i64 0), (.string ⟨#[]⟩), (.int .i64 0), (.int .i64 0)]) 48 rfl Try.underlying22 info54 rfl (by decide) (by omega) u3 xs (⟨(t + a), k4, (xd.extract 0 400), (0 : Int), (0 : Int)⟩ : S54) [.int .i64 (t + a), .int .i64 k4, .string (xd.extract 0 400), .int .i64 0, .int .i64 0] (fun _ => True) (fun _ => False) rfl (by first | rfl | (go_simp; done) | (go_simp; rfl)) ?aP (fun _ hk => hk.elim) ?aF (Kd.R_mono (ok' := fun _ => True) (Kd.R_keep HO3.out (by repeat (first | exact KeepBut.refl _ _ _ | refine KeepBut.set_ ?_ _ _)) (fun k hk => hk)) (fun _ _ => trivial)) (by repeat (first | exact HB3.out | refine below_set ?_ GE.out)) (by first | exact HB3.out.size | (simp; exact HB3.out.size)) ?aL ?_; (case aP => exact k54_mkM _ _ _ (⟨(t + a), k4, (xd.extract 0 400), (0 : Int), (0 : Int)⟩ : S54)); (case aF => exact fun _ _ => trivial); (case aL => have := HXL.out; have := HI.out; omega); intro v1 w8 ho hb hg hat; have HO8 := Aside0.mk ho; have HB8 := Aside0.mk hb; clear ho hb hg hat)))
              | fail)
            rw [← HTE.out] at HO8
            go_roundg g0
            case measure => omega
            case rel => exact ⟨i + 1, t + a, xs ++ [tame1 t ⟨xt, xk, xd, xw, xh⟩], by first | go_num | (congr 1; unfold wrap64; omega), rfl, ⟨by have := HG.out; omega⟩, ⟨⟨by omega, HNT.out⟩⟩, HLL, ⟨by rw [List.length_append, HXL.out]; rfl⟩, HO8, HB8⟩
          ·
            have hk2 : ((k4 : Int) == 2) = false := beq_eq_false_iff_ne.mpr hk
            have HTE := Aside0.mk (show tame1 t ⟨xt, xk, xd, xw, xh⟩ = (⟨(t + a), k4, (xd), (0 : Int), (0 : Int)⟩ : S54) from by rw [HPP.out]; rw [if_neg hk]; congr 1; exact if_neg (by omega))
            clear HPP
            go_wp2_with (first
              | ((with_reducible refine gate_builtin (b := .append) (xs := #[.tmp 53, .tmp 55]) rfl ?_); at_builtin; go_must ((refine Kd.R_append k54 (w0 := w) w.heap.size rfl (.tmp 53) (.tmp 55) 22 54 (.agg #[(.int .i64 0), (.int .i64 0), (.string ⟨#[]⟩), (.int .i64 0), (.int .i64 0)]) 48 rfl Try.underlying22 info54 rfl (by decide) (by omega) u3 xs (⟨(t + a), k4, (xd), (0 : Int), (0 : Int)⟩ : S54) [.int .i64 (t + a), .int .i64 k4, .string (xd), .int .i64 0, .int .i64 0] (fun _ => True) (fun _ => False) rfl (by first | rfl | (go_simp; done) | (go_simp; rfl)) ?aP (fun _ hk => hk.elim) ?aF (Kd.R_mono (ok' := fun _ => True) (Kd.R_keep HO3.out (by repeat (first | exact KeepBut.refl _ _ _ | refine KeepBut.set_ ?_ _ _)) (fun k hk => hk)) (fun _ _ => trivial)) (by repeat (first | exact HB3.out | refine below_set ?_ GE.out)) (by first | exact HB3.out.size | (simp; exact HB3.out.size)) ?aL ?_; (case aP => exact k54_mkM _ _ _ (⟨(t + a), k4, (xd), (0 : Int), (0 : Int)⟩ : S54)); (case aF => exact fun _ _ => trivial); (case aL => have := HXL.out; have := HI.out; omega); intro v1 w8 ho hb hg hat; have HO8 := Aside0.mk ho; have HB8 := Aside0.mk hb; clear ho hb hg hat)))
              | fail)
            rw [← HTE.out] at HO8
            go_roundg g0
            case measure => omega
            case rel => exact ⟨i + 1, t + a, xs ++ [tame1 t ⟨xt, xk, xd, xw, xh⟩], by first | go_num | (congr 1; unfold wrap64; omega), rfl, ⟨by have := HG.out; omega⟩, ⟨⟨by omega, HNT.out⟩⟩, HLL, ⟨by rw [List.length_append, HXL.out]; rfl⟩, HO8, HB8⟩
    · have hil : (l.length : Int) ≤ i := by omega
      have hl := HL.out
      rw [List.drop_eq_nil_of_le (by omega)] at hl
      have HLL := Aside0.mk (show tame 0 l = xs from hl.trans (List.append_nil _))
      clear hl hgi hxl
      go_wp2
      go_ret
      exact ⟨_, rfl, by rw [HLL.out]; exact HO.out, HB.out⟩
end Go.Proofs.Ytmongghhagbokaa.Tame
