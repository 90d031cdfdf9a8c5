/- The body of the law DigitsInts. -/
import Derived.Test.YtojjmcghcgidlaaDoorRgB
import Derived.Test.YtojjmcghcgidlaaDoorRgD
namespace Go.Proofs.YtojjmcghcgidlaaDoor.Rd
open Go Go.RowKit
set_option linter.unusedVariables false
set_option linter.unusedSimpArgs false
set_option maxRecDepth 100000

theorem ref04_Int (s : ByteArray) (hsz : s.size ≤ 1000) : Gives Tryd.prog 17 #[.string s] (.tuple #[.int .i64 (pint s.data.toList).1, .int .i64 ((pint s.data.toList).2 : Nat)]) := by
  cases hl : s.data.toList with
  | nil =>
    have := ref04_Int_empty s hl
    exact this
  | cons c r =>
    by_cases hc : c = 45
    · subst hc; exact ref04_Int_minus s r hl hsz
    · exact ref04_Int_plus s c r hl hc hsz

set_option maxHeartbeats 8000000 in
theorem law_Ints (n : Int) (s : ByteArray) (h0 : -9223372036854775808 ≤ n) (h1 : n ≤ 9223372036854775807) (w0 : World) (ht : Tab10 w0) (hv : ErrV w0) :
    GivesAt Tryd.prog 6 #[.int .i64 n, .string s] (.bool true) w0 := by
  have hst := St.start [] w0
  have h5 := fun w (k : Keeps [] w0 w) => law_awake w (ht.keep k)
  by_cases hs : 100 < s.size
  · have hsz : (100 : Int) < (s.size : Int) := by omega
    clear hs
    go_enter Tryd.func6, Tryd.ntmps6
    go_wp2_with ((first | (refine kg gf11 hst (fun w hst => h5 w hst.keeps) rfl rfl rfl rfl ?_; clear hst; intro w hst) | (refine wl_guard (by rfl) ?_)); try simp only [pz, pn, sz, sc])
    refine bp_t rfl rfl (by rfl) ⟨?_, hst.keeps⟩
    rfl
  · have hsz : ¬ (100 : Int) < (s.size : Int) := by omega
    have hi := fun w (k : Keeps [] w0 w) => digits_Int n h0 h1 w (ht.keep k)
    have hl := Lib.itoa_length_le n h0 h1
    obtain ⟨t, htt⟩ : ∃ t : ByteArray, t = ⟨(Lib.itoa n).toArray⟩ := ⟨_, rfl⟩
    have htl : t.data.toList = Lib.itoa n := by rw [htt]
    have hts : t.size ≤ 21 := by rw [htt]; show (Lib.itoa n).toArray.size ≤ 21; simpa using hl
    have hp1 := fun w (k : Keeps [] w0 w) => digits_ParseInt t (by omega) w (hv.keep k)
    have hp2 := fun w (k : Keeps [] w0 w) => digits_ParseInt s (by omega) w (hv.keep k)
    have hr1 := ref04_Int t (by omega)
    have hr2 := ref04_Int s (by omega)
    rw [htl, pint_itoa n h0 h1] at hp1 hr1
    rw [← htt] at hi
    generalize pint s.data.toList = pp at *
    obtain ⟨pn, pe⟩ := pp
    clear hs hl htt htl hts
    go_enter Tryd.func6, Tryd.ntmps6
    go_wp2_with ((first | (refine kg gf15 hst (fun w hst => hi w hst.keeps) rfl rfl rfl rfl ?_; clear hst; intro w hst) | (refine kg gf16 hst (fun w hst => hp1 w hst.keeps) rfl rfl rfl rfl ?_; clear hst; intro w hst) | (refine kg gf16 hst (fun w hst => hp2 w hst.keeps) rfl rfl rfl rfl ?_; clear hst; intro w hst) | (refine kf gf17 hst (hr1) rfl rfl rfl rfl ?_; clear hst; intro w hst) | (refine kf gf17 hst (hr2) rfl rfl rfl rfl ?_; clear hst; intro w hst) | (refine kg gf11 hst (fun w hst => h5 w hst.keeps) rfl rfl rfl rfl ?_; clear hst; intro w hst) | (refine wl_guard (by rfl) ?_)); try simp only [pz, pn, sz, sc])
    refine bp_t rfl rfl (by rfl) ⟨?_, hst.keeps⟩
    rfl

end Go.Proofs.YtojjmcghcgidlaaDoor.Rd
