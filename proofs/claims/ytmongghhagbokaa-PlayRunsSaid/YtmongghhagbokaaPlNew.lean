/- play.New as a contract: a player, or none. -/
import Derived.Test.YtmongghhagbokaaPlDue
namespace Go.Proofs.Ytmongghhagbokaa.PlNew
open Go.RowKit Go.Proofs.Ytmongghhagbokaa.Kit Go.Proofs.Ytmongghhagbokaa.Plain Go.Proofs.Ytmongghhagbokaa.Mine Go.Proofs.Ytmongghhagbokaa.Event Go.Proofs.Ytmongghhagbokaa.EventRef Go.Proofs.Ytmongghhagbokaa.EventList Go.Proofs.Ytmongghhagbokaa.EvUntil Go.Proofs.Ytmongghhagbokaa.PlScale Go.Proofs.Ytmongghhagbokaa.PlNow Go.Proofs.Ytmongghhagbokaa.PlDue Go.Proofs.YtmongghhagbokaaW.PrintWords Go.Proofs.YtmongghhagbokaaW.PrintLast Go.Proofs.YtmongghhagbokaaW.PrintMore
open Go.Proofs.Ytmongghhagbokaa.PPlayRights (S54 z54 k54 k54_open k54_mk k54_mkM rd_T54 at_T54 info54)
set_option linter.unusedVariables false
set_option linter.unusedSimpArgs false
/-- May a player be made? -/
def okNew (a p q : Int) (l : List S54) : Bool := decide (0 ≤ a ∧ a < 4611686018427387904) && (speedB p q && listR 0 l)
set_option maxHeartbeats 1600000 in
set_option maxRecDepth 100000 in
theorem new_bad (A : Option Addr) (c : Nat) (l : List S54) (a p q : Int) (w : World) (hC : Kd.C k54 w A l.length l) (h : okNew a p q l = false) :
    Calls Try.prog 10 #[.slice A l.length c, .int .i64 a, .int .i64 p, .int .i64 q] w fun e w' => e = .returned (.tuple #[.pointer none, .int .i64 3]) ∧ Below w.heap.size w w' := by
  have HS := Aside0.mk (fun W => speed_c p q W)
  have HL := Aside0.mk (fun W (h : Kd.C k54 W A l.length l) => list_c A c l W h)
  have HC := Aside0.mk hC
  have HH := Aside0.mk h
  clear hC h
  by_cases h1 : a < 0
  · clear HH
    go_enter Try.func10, Try.ntmps10
    go_wp2
    go_ret2
    exact ⟨rfl, Below.refl _ _⟩
  have h1' : 0 ≤ a := by omega
  clear h1
  by_cases h2 : 4611686018427387904 ≤ a
  · clear HH
    go_enter Try.func10, Try.ntmps10
    go_wp2
    go_ret2
    exact ⟨rfl, Below.refl _ _⟩
  have h2' : a ≤ 4611686018427387903 := by omega
  have hd : decide (0 ≤ a ∧ a < 4611686018427387904) = true := decide_eq_true ⟨by omega, by omega⟩
  have hh := HH.out
  unfold okNew at hh
  rw [hd, Bool.true_and] at hh
  have HHH := Aside0.mk hh
  clear h2 hd hh HH
  obtain ⟨s, hs⟩ : ∃ s, s = speedB p q := ⟨_, rfl⟩
  obtain ⟨r, hr⟩ : ∃ r, r = listR 0 l := ⟨_, rfl⟩
  rw [← hs] at HS HHH
  rw [← hr] at HL HHH
  clear hs hr
  go_enter Try.func10, Try.ntmps10
  go_wp2_with fail
  refine (HS.out _).mono ?_
  rintro e w2 ⟨rfl, hb⟩
  have HB2 := Aside0.mk hb
  have HC2 := Aside0.mk (Kd.C_below HC.out hb)
  clear hb
  cases s with
  | false =>
    go_wp2
    go_ret2
    exact ⟨rfl, HB2.out⟩
  | true =>
    have hr2 := HHH.out
    rw [Bool.true_and] at hr2
    subst hr2
    go_wp2_with fail
    refine (HL.out _ HC2.out).mono ?_
    rintro e w3 ⟨rfl, hb⟩
    have HB3 := Aside0.mk (below_kept HB2.out hb)
    clear hb
    go_wp2
    go_ret2
    exact ⟨rfl, HB3.out⟩
set_option maxHeartbeats 1600000 in
set_option maxRecDepth 100000 in
theorem new_ok (A : Option Addr) (c : Nat) (l : List S54) (st p q : Nat) (w : World) (hC : Kd.C k54 w A l.length l) (hl : l.length ≤ 1000) (hst : st < 4611686018427387904) (hs : speedB p q = true) (hr : listR 0 l = true) :
    Calls Try.prog 10 #[.slice A l.length c, .int .i64 st, .int .i64 p, .int .i64 q] w fun e w' => ∃ (g : Nat) (A2 : Option Addr) (c2 : Nat), e = .returned (.tuple #[.pointer (some ⟨g, 0, none⟩), .int .i64 0]) ∧ w.heap.size ≤ g ∧ PC w' g (.slice A2 l.length c2) st p q 0 (countT (st : Int) l) false ∧ Kd.R k54 54 w' w.heap.size (fun k => k ≠ g) (.slice A2 l.length c2) l ∧ Below w.heap.size w w' := by
  have hu := Try.underlying57
  have HS := Aside0.mk (fun W => speed_c p q W)
  have HL := Aside0.mk (fun W (h : Kd.C k54 W A l.length l) => list_c A c l W h)
  have HU := Aside0.mk (fun W (h : Kd.C k54 W A l.length l) => until_c A c l (st : Int) W h (by omega) (listR_rising l 0 hr))
  rw [hs] at HS
  rw [hr] at HL
  have HC := Aside0.mk hC
  have HLL := Aside0.mk hl
  obtain ⟨k, hk⟩ : ∃ k, k = countT (st : Int) l := ⟨_, rfl⟩
  rw [← hk] at HU
  rw [← hk]
  have h1 : (0 : Int) ≤ st := by omega
  have h2 : (st : Int) ≤ 4611686018427387903 := by omega
  have n1 : decide ((4611686018427387904 : Int) ≤ st) = false := decide_eq_false (by omega)
  clear hC hl hst hs hr hk
  go_enter Try.func10, Try.ntmps10
  go_wp2_with fail
  refine (HS.out _).mono ?_
  rintro e w2 ⟨rfl, hb⟩
  have HB2 := Aside0.mk hb
  have HC2 := Aside0.mk (Kd.C_below HC.out hb)
  clear hb
  go_wp2_with fail
  refine (HL.out _ HC2.out).mono ?_
  rintro e w3 ⟨rfl, hb⟩
  have HB3 := Aside0.mk (below_kept HB2.out hb)
  have HC3 := Aside0.mk (Kd.C_below HC2.out hb)
  clear hb
  go_wp2_with (first
    | ((with_reducible refine gate_builtin (b := .append) (xs := #[.const (.slice none 0 0), .tmp 27]) rfl ?_); at_builtin; go_must ((refine Kd.R_append_rows k54 (w0 := w3) w3.heap.size rfl (.const (.slice none 0 0)) (.tmp 27) 22 54 (.agg #[(.int .i64 0), (.int .i64 0), (.string ⟨#[]⟩), (.int .i64 0), (.int .i64 0)]) 48 rfl Try.underlying22 info54 rfl (by decide) (by omega) (.slice none 0 0) [] l A l.length c (fun _ => True) (fun _ => False) rfl rfl (Kd.R_nil _ _ _ _ _) HC3.out ?aK (fun _ hk => hk.elim) ?aF (Below.refl _ _) (Nat.le_refl _) ?aL ?_; (case aK => exact fun x cs h => by rw [k54_open h]; exact k54_mkM _ _ _ x); (case aF => exact fun _ _ => trivial); (case aL => have := HLL.out; simp; omega); intro v4 w4 ho hb hg hat; rw [List.nil_append] at ho; have HO4 := Aside0.mk ho; have HB4 := Aside0.mk hb; have HC4 := Aside0.mk (Kd.C_below HC3.out hb); clear ho hb hg hat)))
    | fail)
  refine (HU.out w4 HC4.out).mono ?_
  rintro e w5 ⟨rfl, hb⟩
  obtain ⟨A4, c4, rfl⟩ := Kd.R_slice HO4.out
  have HO5 := Aside0.mk (Kd.R_below HO4.out hb)
  have HB5 := Aside0.mk (below_then (below_then HB3.out HB3.out.size HB4.out) (Nat.le_trans HB3.out.size HB4.out.size) hb)
  clear hb
  go_wp2
  go_ret2
  have hb6 := below_alloc (Below.refl w5.heap.size w5) (.cells #[.slice A4 l.length c4, .int .i64 st, .int .i64 p, .int .i64 q, .int .i64 (0 : Nat), .int .i64 k, .bool false] 57)
  refine ⟨w5.heap.size, A4, c4, rfl, HB5.out.size, blk_new w5 _, Kd.R_lower (Kd.R_below (Kd.R_mono (ok' := fun j => j ≠ w5.heap.size) (Kd.R_bound HO5.out) (fun j hj => by have := hj.2.2.1; omega)) hb6) HB3.out.size, below_then HB5.out HB5.out.size hb6⟩
end Go.Proofs.Ytmongghhagbokaa.PlNew
