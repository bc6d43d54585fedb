/- The table of powers of ten out of a row's listed variables. -/
import Derived.Test.YtmahiejfniaahaaDoorRows
import Derived.Lib.LaidTab
import Derived.Lib.AppendIntMem
import Derived.LaidLaws
import Derived.LaidMore
import Derived.Test.YtmahiejfniaahaaDoorHC
set_option linter.unusedVariables false
set_option linter.unusedSimpArgs false
set_option maxRecDepth 100000
namespace Go.Proofs.YtmahiejfniaahaaDoor
open Go.RowKit

theorem tab_third {P : Program} {W : World} {n1 n2 name : String} {d1 d2 : DataW Unit} {k : IntKind} {zs : List Int} {g : Nat} {t e : TypeId} {n : Nat}
    (hg : P.globalNamed name = some g) (hty : (P.globals[g]?).map (·.type) = some t) (ht : P.underlying t = some (.array n e)) (he : P.underlying e = some (.int k)) (hce : P.cellsOf e = 1) (hct : P.cellsOf t = n)
    (h : laidMet P [(n1, d1), (n2, d2), (name, Lib.tabData k zs)] W) : Lib.TabIs P W name k zs := by
  obtain ⟨ps, ⟨g1, t1, cs1, f1, p1, q1, _, _, _, _, h2, _⟩, _⟩ := h
  obtain ⟨g2, t2, cs2, f2, p2, q2, _, _, _, _, h3, _⟩ := h2
  obtain ⟨g', t', cs, fuel, p, q, hg', ht', hvar, hd, _, _⟩ := h3
  obtain rfl := Option.some.inj (hg.symm.trans hg')
  obtain rfl := Option.some.inj (hty.symm.trans ht')
  unfold Lib.TabIs
  rw [hvar, ← Lib.cells_of_tab ht he hce hct hd]
theorem tab_of_laid {W : World} {n1 n2 : String} {d1 d2 : DataW Unit} (h : laidMet Tryd.prog [(n1, d1), (n2, d2), ("internal/strconv.uint64pow10", Rows.laid_internal_strconv_uint64pow10)] W) : TabOk W :=
  tab_third (g := (Tryd.prog.globalNamed "internal/strconv.uint64pow10").getD 0) (t := 127) (e := 117) (n := 20) (by kernel_rfl) (by kernel_rfl) (by kernel_rfl) (by kernel_rfl) (by kernel_rfl) (by kernel_rfl) h
end Go.Proofs.YtmahiejfniaahaaDoor
