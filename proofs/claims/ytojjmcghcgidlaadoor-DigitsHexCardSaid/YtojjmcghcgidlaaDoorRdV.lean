/- What digits.ParseHex and ParseDecimal answer. -/
import Derived.Test.YtojjmcghcgidlaaDoorRdU
namespace Go.Proofs.YtojjmcghcgidlaaDoor.Rd
open Go Go.RowKit
set_option linter.unusedVariables false
set_option linter.unusedSimpArgs false
set_option maxRecDepth 100000

theorem digits_ParseHex (s : ByteArray) : Gives Tryd.prog 8 #[.string s] (.tuple #[W (rd 16 s.data.toList).1, .int .i64 ((rd 16 s.data.toList).2 : Nat)]) := by
  intro w0
  have hst := St.start [] w0
  have hc := digits_read_16 s
  generalize (rd 16 s.data.toList) = r at *
  obtain ⟨m, e⟩ := r
  go_enter Tryd.func8, Tryd.ntmps8
  go_wp2_with ((first | (refine kf gf19 hst (hc) rfl rfl rfl rfl ?_; clear hst; intro w hst) | (refine ka 2 hst tz24 rfl rfl ?_; clear hst; intro b2 w hb2 hst) | (refine kt hst ta24 rfl rfl ?_; clear hst; intro w hst)); try simp only [pz, pn, sz, sc])
  refine bp_ct rfl rfl (la hst ta24) (by rfl) ⟨?_, hst.keeps⟩
  rfl

theorem digits_ParseDecimal (s : ByteArray) : Gives Tryd.prog 14 #[.string s] (.tuple #[W (rd 10 s.data.toList).1, .int .i64 ((rd 10 s.data.toList).2 : Nat)]) := by
  intro w0
  have hst := St.start [] w0
  have hc := digits_read_10 s
  generalize (rd 10 s.data.toList) = r at *
  obtain ⟨m, e⟩ := r
  go_enter Tryd.func14, Tryd.ntmps14
  go_wp2_with ((first | (refine kf gf19 hst (hc) rfl rfl rfl rfl ?_; clear hst; intro w hst) | (refine ka 2 hst tz24 rfl rfl ?_; clear hst; intro b2 w hb2 hst) | (refine kt hst ta24 rfl rfl ?_; clear hst; intro w hst)); try simp only [pz, pn, sz, sc])
  refine bp_ct rfl rfl (la hst ta24) (by rfl) ⟨?_, hst.keeps⟩
  rfl

end Go.Proofs.YtojjmcghcgidlaaDoor.Rd
