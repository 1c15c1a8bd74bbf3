/- A deed of the layout's laws as a kind of element; a deed of a law's slice, opened. -/
import Derived.Test.YtnidcnmeonjjbaaOpens
import Derived.Test.YtnidcnmeonjjbaaLayPure
import Derived.ChangeArms
namespace Go.Proofs.Ytnidcnmeonjjbaa.LayDeedK
open Go.RowKit Go.ChangeShapes Go.WideShapes Go.Deep Go.Proofs.Ytnidcnmeonjjbaa.LayPure Go.Proofs.YtnidcnmeonjjbaaW.PrintWords Go.Proofs.YtnidcnmeonjjbaaW.PrintLast Go.Proofs.YtnidcnmeonjjbaaW.PrintMore
set_option linter.unusedVariables false
structure SD where
  p : Int
  q : Int
  f : Bool
  a : Bool
def zD : SD := ⟨0, 0, false, false⟩
def kD : Kd SD := Kd.iso (Kd.pair (Kd.int .i64) (Kd.pair (Kd.int .i64) (Kd.pair Kd.bool Kd.bool))) (fun x : SD => (x.p, x.q, x.f, x.a))
theorem kD_open {w : World} {x : SD} {cs : List Value} (h : kD.K w x cs) : cs = [.int .i64 x.p, .int .i64 x.q, .bool x.f, .bool x.a] := by
  obtain ⟨_, _, rfl, rfl, ⟨_, _, rfl, rfl, ⟨_, _, rfl, rfl, rfl⟩⟩⟩ := h
  exact rfl
theorem kD_mk (w : World) (x : SD) : kD.K w x [.int .i64 x.p, .int .i64 x.q, .bool x.f, .bool x.a] :=
  ⟨[.int .i64 x.p], _, rfl, rfl, ⟨[.int .i64 x.q], _, rfl, rfl, ⟨[.bool x.f], [.bool x.a], rfl, rfl, rfl⟩⟩⟩
theorem at_D {w : World} {A : Option Addr} {n : Nat} {xs : List SD} (h : Kd.C kD w A n xs) (i : Nat) (hi : i < xs.length) : ∃ (ad : Addr), A = some ad ∧ w.cell? (ad.add (i * 4)) = some (.int .i64 xs[i].p) ∧ w.cell? ⟨(ad.add (i * 4)).block, (ad.add (i * 4)).off + 1, none⟩ = some (.int .i64 xs[i].q) ∧ w.cell? ⟨(ad.add (i * 4)).block, (ad.add (i * 4)).off + 2, none⟩ = some (.bool xs[i].f) ∧ w.cell? ⟨(ad.add (i * 4)).block, (ad.add (i * 4)).off + 3, none⟩ = some (.bool xs[i].a) := by
  have hn : xs.length = n := h.1
  obtain ⟨ad, c, e, _, hK, hc0⟩ := Kd.C_get h zD (i : Int) (by omega) (by omega)
  rw [Int.toNat_natCast, List.getD_eq_getElem?_getD, List.getElem?_eq_getElem hi] at hK
  rw [Int.toNat_natCast] at hc0
  have hc : ∀ j u, c[j]? = some u → w.cell? (ad.add (i * 4 + j)) = some u := hc0
  obtain rfl := kD_open hK
  exact ⟨ad, e, hc 0 _ rfl, by rw [← add_field _ _ 1 (by omega)]; exact hc 1 _ rfl, by rw [← add_field _ _ 2 (by omega)]; exact hc 2 _ rfl, by rw [← add_field _ _ 3 (by omega)]; exact hc 3 _ rfl⟩
def deedwf (x : SD) : Prop := (Lit.int .i64 x.p).wf = true ∧ (Lit.int .i64 x.q).wf = true
section
variable {H : Type} {enc : TypeId × Value → H} {w : World} {base : Nat} {spare : Nat → Bool} {held : Bool}
theorem el_deed {fuel : Nat} {cs : List Value} {x : DataW H × List MemPlace} (h : DataW.trod enc Try.prog w base spare held fuel 29 cs = some x) : ∃ p : SD, kD.K w p cs ∧ deedwf p := by
  obtain ⟨xs, n, _, rfl, hl, hlen, hf⟩ := DataW.trod_struct Try.underlying29 h
  have hc : Try.prog.cellsOf 29 = 4 := by kernel_rfl
  have c3 : Try.prog.cellsOf 3 = 1 := by kernel_rfl
  have c4 : Try.prog.cellsOf 4 = 1 := by kernel_rfl
  rw [hc] at hl
  match cs, hl with
  | [v0, v1, v2, v3], _ =>
    match xs, hlen with
    | [y0, y1, y2, y3], _ =>
      have h0 : DataW.trod enc Try.prog w base spare held _ 3 (([v0, v1, v2, v3].drop 0).take (Try.prog.cellsOf 3)) = some y0 := hf 0 _ rfl
      rw [c3] at h0
      have h1 : DataW.trod enc Try.prog w base spare held _ 3 (([v0, v1, v2, v3].drop 1).take (Try.prog.cellsOf 3)) = some y1 := hf 1 _ rfl
      rw [c3] at h1
      have h2 : DataW.trod enc Try.prog w base spare held _ 4 (([v0, v1, v2, v3].drop 2).take (Try.prog.cellsOf 4)) = some y2 := hf 2 _ rfl
      rw [c4] at h2
      have h3 : DataW.trod enc Try.prog w base spare held _ 4 (([v0, v1, v2, v3].drop 3).take (Try.prog.cellsOf 4)) = some y3 := hf 3 _ rfl
      rw [c4] at h3
      obtain ⟨a0, e0, _, w0⟩ := DataW.trod_int Try.underlying3 h0
      obtain ⟨a1, e1, _, w1⟩ := DataW.trod_int Try.underlying3 h1
      obtain ⟨a2, e2, _⟩ := DataW.trod_bool Try.underlying4 h2
      obtain ⟨a3, e3, _⟩ := DataW.trod_bool Try.underlying4 h3
      simp at e0 e1 e2 e3
      subst e0 e1 e2 e3
      exact ⟨⟨a0, a1, a2, a3⟩, kD_mk w ⟨a0, a1, a2, a3⟩, w0, w1⟩
end
/-! Deeds, one after another. -/
def afterT (t : T) (l : List SD) : T := l.foldl (fun t d => (deedT t d.p d.q d.f d.a).1) t
theorem afterT_take (t : T) (l : List SD) (i : Nat) (h : i < l.length) : afterT t (l.take (i + 1)) = (deedT (afterT t (l.take i)) l[i].p l[i].q l[i].f l[i].a).1 := by
  unfold afterT
  rw [List.take_succ_eq_append_getElem h, List.foldl_append]
  rfl
theorem leaves_deed {t : T} (hg : LayPure.Good t) (p q : Int) (f a : Bool) : ∀ x ∈ (deedT t p q f a).1.leaves, x ∈ t.leaves ∨ x = q := by
  intro x hx
  unfold deedT at hx
  split at hx
  · split at hx
    · split at hx
      · exact .inl hx
      · rename_i g l r
        rw [leaves_without p _ hg.1 (fun e => by cases e)] at hx
        exact .inl (List.mem_filter.1 hx).1
    · exact .inl hx
  · split at hx
    · split at hx
      · exact .inl hx
      · split at hx
        · exact .inl hx
        · rw [leaves_split] at hx
          rcases mem_flat hx with h | h
          · exact .inl h
          · exact .inr h.1
    · exact .inl hx
end Go.Proofs.Ytnidcnmeonjjbaa.LayDeedK
