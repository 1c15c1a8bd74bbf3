/- The parser's Feed as one contract; small laws about what is told. -/
import Derived.Test.YtkdkajcokoggiaaDoorVtFeedA
import Derived.Test.YtkdkajcokoggiaaDoorVtFeedB
import Derived.Test.YtkdkajcokoggiaaDoorVtFeedC
import Derived.Test.YtkdkajcokoggiaaDoorVtInv
namespace Go.Proofs.YtkdkajcokoggiaaDoor.VtFeedAll
open Go.RowKit Go.Lib Go.Proofs.YtkdkajcokoggiaaDoor.Kit Go.Proofs.YtkdkajcokoggiaaDoor.Plain Go.Proofs.YtkdkajcokoggiaaDoor.Mine Go.Proofs.YtkdkajcokoggiaaDoor.UtfPure Go.Proofs.YtkdkajcokoggiaaDoor.UtfPart Go.Proofs.YtkdkajcokoggiaaDoor.VtPure Go.Proofs.YtkdkajcokoggiaaDoor.VtSmall Go.Proofs.YtkdkajcokoggiaaDoor.VtInv Go.Proofs.YtkdkajcokoggiaaDoorW.PrintWords Go.Proofs.YtkdkajcokoggiaaDoorW.PrintLast Go.Proofs.YtkdkajcokoggiaaDoorW.PrintMore
open Go.Lib (Utf8Tabs)
open Go.Proofs.YtkdkajcokoggiaaDoor.PVtParts (S37 k37 k37_open k37_openM k37_mk k37_mkM)
theorem feed_c (v : PR) (h : PForm v) (A : Option Addr) (n cp : Nat) (c : Int) (w : World) (hc : 0 ≤ c ∧ c < 256) (hps : Kd.C (Kd.int .i64) w A n v.ps) (hT : Utf8Tabs 0 1 w) :
    Calls Tryd.prog 14 #[pval v (.slice A n cp), .int .u8 c] w (PT w A n (feedP v c)) := by
  have h0 := h.st0
  have h7 := h.st7
  have hu := h.u
  have h8 := h.ps8
  have h9 := h.psb
  have hm := h.mr2
  have ht := h.tx40
  clear h
  obtain ⟨st, u, mk, ps, tx, wi⟩ := v
  simp only at h0 h7 hu h8 h9 hm ht hps
  rcases (show st = 0 ∨ st = 1 ∨ st = 2 ∨ st = 3 ∨ st = 4 ∨ st = 5 ∨ st = 6 ∨ st = 7 by omega) with rfl | rfl | rfl | rfl | rfl | rfl | rfl | rfl
  · exact VtFeedB.feed_0 A n cp u mk tx ps wi c w hc hps hu.2.2 hu.1 hT
  · exact VtFeedA.feed_1 A n cp u mk tx ps wi c w hc hps
  · exact VtFeedA.feed_2 A n cp u mk tx ps wi c w hc hps
  · exact VtFeedA.feed_3 A n cp u mk tx ps wi c w hc hps h8 h9 hm
  · exact VtFeedA.feed_4 A n cp u mk tx ps wi c w hc hps h8 h9 hm
  · exact VtFeedB.feed_5 A n cp u mk tx ps wi c w hc hps ht
  · exact VtFeedB.feed_6 A n cp u mk tx ps wi c w hc hps ht
  · exact VtFeedC.feed_7 A n cp u mk tx ps wi c w hc hps
end Go.Proofs.YtkdkajcokoggiaaDoor.VtFeedAll
