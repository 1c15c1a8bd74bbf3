/- Small laws for the parser's Feed. -/
import Derived.Test.YtkdkajcokoggiaaDoorVtGround
import Derived.ScopeJumps
import Derived.WalkMore
namespace Go.Proofs.YtkdkajcokoggiaaDoor.VtFeedK
open Go.RowKit Go.Lib Go.Proofs.YtkdkajcokoggiaaDoor.Kit Go.Proofs.YtkdkajcokoggiaaDoor.Plain Go.Proofs.YtkdkajcokoggiaaDoor.Mine Go.Proofs.YtkdkajcokoggiaaDoor.UtfPure Go.Proofs.YtkdkajcokoggiaaDoor.UtfFull Go.Proofs.YtkdkajcokoggiaaDoor.UtfFeed Go.Proofs.YtkdkajcokoggiaaDoor.VtPure Go.Proofs.YtkdkajcokoggiaaDoor.VtSmall Go.Proofs.YtkdkajcokoggiaaDoor.VtEsc Go.Proofs.YtkdkajcokoggiaaDoor.VtStr Go.Proofs.YtkdkajcokoggiaaDoor.VtCsi Go.Proofs.YtkdkajcokoggiaaDoor.VtGround Go.Proofs.YtkdkajcokoggiaaDoorW.PrintWords Go.Proofs.YtkdkajcokoggiaaDoorW.PrintLast Go.Proofs.YtkdkajcokoggiaaDoorW.PrintMore
open Go.Lib (Utf8Tabs)
open Go.Proofs.YtkdkajcokoggiaaDoor.PVtParts (S37 k37 k37_open k37_openM k37_mk k37_mkM)
set_option linter.unusedVariables false
set_option linter.unusedSimpArgs false
theorem size9 (W : World) (gr : Nat) (v0 v1 v2 v3 v4 v5 v6 v7 v8 : Value) : (((((((((W.setCell ⟨gr, 0, none⟩ v0).setCell ⟨gr, 1, none⟩ v1).setCell ⟨gr, 2, none⟩ v2).setCell ⟨gr, 3, none⟩ v3).setCell ⟨gr, 4, none⟩ v4).setCell ⟨gr, 5, none⟩ v5).setCell ⟨gr, 6, none⟩ v6).setCell ⟨gr, 7, none⟩ v7).setCell ⟨gr, 8, none⟩ v8).heap.size = W.heap.size := by simp [World.setCell]
theorem lit_act (W N : World) (base : Nat) (x : S37) (cs : List Value) (hs : N.heap.size = W.heap.size) (hb : base ≤ N.heap.size) (hl : cs.length = 6) (hM : k37.M N base (fun _ => True) x cs) (hM' : ∀ ok, k37.M N base ok x cs) : Kd.R k37 37 (N.alloc (.cells cs.toArray 37)) base (fun _ => True) (.slice (some ⟨W.heap.size, 0, none⟩) 1 1) [x] := by
  rw [← hs]
  refine ⟨fun _ _ => trivial, ?_⟩
  exact (OwnRow.lit (ps := [x]) (inner := cs) N base (reps_one hl (hM' (fun _ => False))) hb (by simp)).imp_ (fun p c hp => k37.M_mono (ok := fun _ => False) (fun k hk => False.elim hk) (Kd.M_alloc hp _))
theorem c_far {w w0 W5 W : World} {A A5 : Option Addr} {n n5 gr : Nat} {xs xs5 : List Int} (h : Kd.C (Kd.int .i64) w A n xs) (h5 : Kd.C (Kd.int .i64) W5 A5 n5 xs5) (hcl : ∀ ad, A5 = some ad → (A5 = A ∧ n5 = n) ∨ w0.heap.size ≤ ad.block) (h1 : gr < w0.heap.size) (h2 : w.heap.size ≤ gr) (hk : KeepBut W5 W gr none) : Kd.C (Kd.int .i64) W A5 n5 xs5 :=
  C_block h5 (fun hn ad e => by
    subst e
    refine hk.2 ad.block (Kd.C_lt h5 hn (by decide)) ?_ (by simp)
    rcases hcl ad rfl with ⟨e1, e2⟩ | h3
    · subst e1
      subst e2
      have := Kd.C_lt h hn (by decide)
      omega
    · omega)
end Go.Proofs.YtkdkajcokoggiaaDoor.VtFeedK
