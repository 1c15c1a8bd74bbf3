/- What Split of package crc does, as a contract: it tells what its plain twin tells; no condition but the size that it states. -/
import Derived.Test.YtmomfoedbkapfaaCrcCode
namespace Go.Proofs.Ytmomfoedbkapfaa.CrcSplit
open Go.RowKit Go.Proofs.Ytmomfoedbkapfaa.Kit Go.Proofs.Ytmomfoedbkapfaa.Plain Go.Proofs.Ytmomfoedbkapfaa.Crc Go.Proofs.Ytmomfoedbkapfaa.CrcCode Go.Proofs.Ytmomfoedbkapfaa.Mine Go.Proofs.Ytmomfoedbkapfaa.Vary Go.Proofs.YtmomfoedbkapfaaW.PrintWords Go.Proofs.YtmomfoedbkapfaaW.PrintLast Go.Proofs.YtmomfoedbkapfaaW.PrintMore
set_option linter.unusedVariables false
set_option linter.unusedSimpArgs false

/-- Slices of bytes. -/
abbrev KB := Kd.slice 5 (Kd.int .u8)
def SplitPost (w : World) (b : List Int) (e : Ending) (w' : World) : Prop :=
  ∃ v : Value, e = .returned (.tuple #[v, .int .i64 ((split (b.length + 1) b).2 : Int)]) ∧ Kd.R KB 22 w' w.heap.size (fun k => w.heap.size ≤ k) v (split (b.length + 1) b).1 ∧ Below w.heap.size w w'
set_option maxHeartbeats 800000 in
set_option maxRecDepth 100000 in
theorem split_c (A : Option Addr) (c : Nat) (b : List Int) (w : World) (hr : Kd.C (Kd.int .u8) w A b.length b) (hc : b.length ≤ c) (hb : ∀ x ∈ b, 0 ≤ x ∧ x < 256) (hs : b.length < 1000000000) :
    Calls Try.prog 13 #[.slice A b.length c] w (SplitPost w b) := by
  have HR := Aside0.mk hr
  have HBY := Aside0.mk hb
  clear hr hb
  go_enter Try.func13, Try.ntmps13
  go_wp2_with fail
  go_loopg [4, 5] (b.length + 1) (fun g v4 v5 W => ∃ (at_ : Nat) (l : List (List Int)), v5 = .int .i64 (at_ : Int) ∧ Aside0 (at_ ≤ b.length) ∧ Aside0 (b.length - at_ < g) ∧ Aside0 (5 * l.length ≤ at_) ∧ Aside0 (split (b.length + 1) b = (l ++ (split g (b.drop at_)).1, at_ + (split g (b.drop at_)).2)) ∧ Aside0 (Kd.R KB 22 W w.heap.size (fun k => w.heap.size ≤ k) v4 l) ∧ Aside0 (Below w.heap.size w W))
  case atStart => exact ⟨0, [], rfl, ⟨by omega⟩, ⟨by omega⟩, ⟨by simp⟩, ⟨by simp⟩, ⟨Kd.R_nil _ _ _ _ _⟩, ⟨Below.refl _ _⟩⟩
  case round =>
    obtain ⟨at_, l, rfl, HA, HG, HL, HS, HO, HB⟩ := hrel
    obtain ⟨g0, rfl⟩ : ∃ g0, gk = g0 + 1 := ⟨gk - 1, by have := HG.out; omega⟩
    have hat := HA.out
    obtain ⟨A1, c1, hcut1, hc1, hr1⟩ := cut_from_ex (P := Try.prog) (Kd.int .u8) 22 5 (.int .u8 0) 1 Try.underlying22 info_u8 A c b (at_ : Int) (by omega) (by omega) hc
    rw [Int.toNat_natCast] at hcut1 hc1 hr1
    have hdl : (b.drop at_).length = b.length - at_ := List.length_drop
    have hdb : ∀ y ∈ b.drop at_, 0 ≤ y ∧ y < 256 := fun y hy => HBY.out y (List.mem_of_mem_drop hy)
    have hdd : ∀ m, b.drop (at_ + m) = (b.drop at_).drop m := fun m => by rw [List.drop_drop]
    have hsp := HS.out
    obtain ⟨d, hd⟩ : ∃ d, d = b.drop at_ := ⟨_, rfl⟩
    rw [← hd] at hcut1 hc1 hr1 hdl hdb hdd hsp
    have hcall := next_c A1 c1 d wr (hr1 _ (Kd.C_below HR.out HB.out)) hc1 hdb (by omega)
    have HCALL := Aside0.mk hcall
    have HDL := Aside0.mk hdl
    have HDD := Aside0.mk hdd
    have HSP := Aside0.mk hsp
    clear hcall hdl hdd hdb hsp hd hc1 hr1
    go_wp2_with fail
    refine HCALL.out.mono ?_
    rintro e w1 ⟨Af, cf, rfl, hf, hb1⟩
    have HF := Aside0.mk hf
    have HB1 := Aside0.mk (below_then HB.out HB.out.size hb1)
    have HO1 := Aside0.mk (Kd.R_below HO.out hb1)
    have HOL := Aside0.mk (Kd.R_lt HO.out)
    have HZ := Aside0.mk HB.out.size
    have HB11 := Aside0.mk hb1
    have hns := next_some d (next d).1 (next d).2 rfl
    have hsplit : split (g0 + 1) d = if (next d).2 = 0 then ([], 0) else ((next d).1 :: (split g0 (d.drop (next d).2)).1, (next d).2 + (split g0 (d.drop (next d).2)).2) := rfl
    obtain ⟨m, hm⟩ : ∃ m, m = (next d).2 := ⟨_, rfl⟩
    obtain ⟨f, hfe⟩ : ∃ f, f = (next d).1 := ⟨_, rfl⟩
    rw [← hm, ← hfe] at hns hsplit
    rw [← hm, ← hfe]
    rw [← hfe] at HF
    have HSP2 := HSP.out
    rw [hsplit] at HSP2
    clear hf hb1 hsplit hm hfe
    have hdl := HDL.out
    by_cases h0 : m = 0
    · have t0 : ((m : Int) == 0) = true := beq_iff_eq.mpr (by omega)
      rw [if_pos h0, List.append_nil, Nat.add_zero] at HSP2
      have HSP3 := Aside0.mk HSP2
      clear HSP2 hns h0 hdl
      go_wp2
      go_ret2
      exact ⟨u4, by rw [HSP3.out]; rfl, by rw [HSP3.out]; exact HO1.out, HB1.out⟩
    · have t0 : ((m : Int) == 0) = false := beq_eq_false_iff_ne.mpr (by omega)
      have hm5 : 5 ≤ m ∧ m ≤ d.length := by
        rcases hns with h | h
        · omega
        · exact ⟨h.1, h.2.1⟩
      rw [if_neg h0, ← HDD.out m] at HSP2
      have HSP3 := Aside0.mk HSP2
      have HSP4 := Aside0.mk (show split (b.length + 1) b = ((l ++ [f]) ++ (split g0 (b.drop (at_ + m))).1, (at_ + m) + (split g0 (b.drop (at_ + m))).2) by
        rw [HSP3.out]; simp only [List.append_assoc, List.singleton_append, Nat.add_assoc])
      have h5 : 5 ≤ m := hm5.1
      have h6 : m ≤ d.length := hm5.2
      clear HSP2 hns h0 hm5
      go_wp2_with (first
        | ((with_reducible refine gate_builtin (b := .append) (xs := #[.tmp 19, .tmp 21]) rfl ?_); at_builtin; go_must ((refine Kd.R_append KB (w0 := w) w.heap.size rfl (.tmp 19) (.tmp 21) 34 22 (.slice none 0 0) 24 rfl Try.underlying34 info_bytes rfl (by decide) (by omega) u4 l f [.slice Af f.length cf] (fun k => w.heap.size ≤ k) (fun k => wr.heap.size ≤ k) rfl rfl ?aP ?aK ?aF HO1.out HB1.out HB1.out.size ?aL ?_; (case aP => exact ⟨_, rfl, Kd.R_lower HF.out HZ.out⟩); (case aK => exact fun k hk => ⟨Nat.le_trans HZ.out hk, fun he => by have := HOL.out k he.symm; omega⟩); (case aF => exact fun k hk => Nat.le_trans HB1.out.size hk); (case aL => have := HL.out; omega); intro v1 w8 ho hb hg hat; have HO8 := Aside0.mk ho; have HB8 := Aside0.mk hb; clear ho hb hg hat)))
        | fail)
      go_roundg g0
      case measure => omega
      case rel => exact ⟨at_ + m, l ++ [f], by go_num, ⟨by omega⟩, ⟨by have := HG.out; omega⟩, ⟨by have := HL.out; simp; omega⟩, HSP4, HO8, HB8⟩
end Go.Proofs.Ytmomfoedbkapfaa.CrcSplit
