/- digits.ParseWord. -/
import Derived.Test.YtojjmcghcgidlaaGreatDoorRfC
namespace Go.Proofs.YtojjmcghcgidlaaGreatDoor.Rd
open Go Go.RowKit
set_option linter.unusedVariables false
set_option linter.unusedSimpArgs false
set_option maxRecDepth 100000

/-- A text without noughts at the front, but for the last one. -/
def shortL (l : List UInt8) : List UInt8 := if Lib.trimLeftB l 48 = [] then [48] else Lib.trimLeftB l 48
/-- The word of a text, and an error's number. -/
def pw (l : List UInt8) (n : Int) : Nat × Nat :=
  if rightB n then (if l.length = (n / 4).toNat ∧ (rd 16 (shortL l)).2 = 0 then ((rd 16 (shortL l)).1 % M2, 0) else (0, 2)) else (0, 1)

theorem strings_TrimLeft0 (s : ByteArray) : Gives Tryz.prog 23 #[.string s, .string ⟨#[48]⟩] (.string ⟨(Lib.trimLeftB s.data.toList 48).toArray⟩) :=
  Gives.of_same fun w => Tryz.strings_TrimLeft_one s 48 (by decide) w

theorem str_empty (l : List UInt8) : (⟨l.toArray⟩ : ByteArray).toList.isEmpty = decide (l = []) := by
  rw [toList_data]
  cases l <;> simp

set_option maxHeartbeats 8000000 in
theorem digits_ParseWord (s : ByteArray) (n : Int) (hsz : s.size ≤ 1000000) : Gives Tryz.prog 6 #[.string s, .int .i64 n] (.tuple #[Wd (pw s.data.toList n).1, .int .i64 ((pw s.data.toList n).2 : Nat)]) := by
  intro w0
  have hst := St.start [] w0
  have hr := digits_right n
  cases hright : rightB n with
  | false =>
    rw [hright] at hr
    have e : pw s.data.toList n = (0, 1) := by unfold pw; rw [hright]; rfl
    rw [e, Wd_zero]
    go_enter Tryz.func6, Tryz.ntmps6
    go_wp2_with ((first | (refine kf gf18 hst (hr) rfl rfl rfl rfl ?_; clear hst; intro w hst) | (refine ka 4 hst tz24 rfl rfl ?_; clear hst; intro b4 w hb4 hst) | (refine kt hst ta24 rfl rfl ?_; clear hst; intro w hst) | (refine ka 7 hst tz34 rfl rfl ?_; clear hst; intro b7 w hb7 hst) | (refine kt hst ta34 rfl rfl ?_; clear hst; intro w hst) | (refine kl hst ta34 rfl ?_)); try simp only [pz, pn, sz, sc])
    refine bp_ct rfl rfl (la hst ta24) (by rfl) ⟨?_, hst.keeps⟩
    rfl
  | true =>
    rw [hright] at hr
    obtain ⟨q, rfl, hq1, hq32⟩ := rightB_true hright
    have ht := strings_TrimLeft0 s
    have eq4 : (4 * (q : Int)).tdiv 4 = (q : Int) := by rw [Int.tdiv_eq_ediv_of_nonneg (by omega)]; omega
    have hem := str_empty (Lib.trimLeftB s.data.toList 48)
    have hp := digits_ParseHex ⟨(shortL s.data.toList).toArray⟩
    have epw : pw s.data.toList (4 * (q : Int)) = if s.data.toList.length = q ∧ (rd 16 (shortL s.data.toList)).2 = 0 then ((rd 16 (shortL s.data.toList)).1 % M2, 0) else (0, 2) := by
      unfold pw; rw [hright, if_pos rfl, show (4 * (q : Int) / 4).toNat = q by omega]
    rw [epw]
    rw [show (⟨(shortL s.data.toList).toArray⟩ : ByteArray).data.toList = shortL s.data.toList from by simp] at hp
    have hlow := wide_Low (rd 16 (shortL s.data.toList)).1
    have hsl : s.data.toList.length = s.size := by simp
    rw [hsl]
    have hss : (if Lib.trimLeftB s.data.toList 48 = [] then (⟨#[48]⟩ : ByteArray) else ⟨(Lib.trimLeftB s.data.toList 48).toArray⟩) = ⟨(shortL s.data.toList).toArray⟩ := by
      unfold shortL; split <;> rfl
    rw [← hss] at hp
    obtain ⟨x, hx⟩ : ∃ x, x = (rd 16 (shortL s.data.toList)).1 := ⟨_, rfl⟩
    obtain ⟨c, hc⟩ : ∃ c, c = (rd 16 (shortL s.data.toList)).2 := ⟨_, rfl⟩
    rw [← hx] at hp hlow ⊢
    rw [← hc] at hp ⊢
    obtain ⟨sz, hsz'⟩ : ∃ sz, sz = s.size := ⟨_, rfl⟩
    rw [← hsz']
    have hsz'' : (s.size : Int) = (sz : Int) := by rw [hsz']
    obtain ⟨D, hD⟩ : ∃ D, D = decide (Lib.trimLeftB s.data.toList 48 = []) := ⟨_, rfl⟩
    rw [← hD] at hem
    have hp' : Gives Tryz.prog 24 #[.string (if D then (⟨#[48]⟩ : ByteArray) else ⟨(Lib.trimLeftB s.data.toList 48).toArray⟩)] (.tuple #[W x, .int .i64 (c : Nat)]) := by
      rw [hD]; simpa using hp
    generalize (⟨(Lib.trimLeftB s.data.toList 48).toArray⟩ : ByteArray) = sT at ht hem hp'
    clear hp hss hx hc hD hsl hright epw hsz'
    have hz : ((c : Int) != 0) = decide (c ≠ 0) := cast_bne0 c
    have hl : ((sz : Int) != (q : Int)) = decide (sz ≠ q) := cast_bne sz q
    by_cases h1 : sz = q
    · by_cases h2 : c = 0
      · subst h1 h2
        rw [if_pos ⟨rfl, rfl⟩]
        cases D
        all_goals
          simp only [if_true, if_false, Bool.false_eq_true] at hp'
          go_enter Tryz.func6, Tryz.ntmps6
          go_wp2_with ((first | (refine kf gf18 hst (hr) rfl rfl rfl rfl ?_; clear hst; intro w hst) | (refine kf gf23 hst (ht) rfl rfl rfl rfl ?_; clear hst; intro w hst) | (refine kf gf24 hst (hp') rfl rfl rfl rfl ?_; clear hst; intro w hst) | (refine kf gf25 hst (hlow) rfl rfl rfl rfl ?_; clear hst; intro w hst) | (refine ka 4 hst tz24 rfl rfl ?_; clear hst; intro b4 w hb4 hst) | (refine kt hst ta24 rfl rfl ?_; clear hst; intro w hst) | (refine ka 7 hst tz34 rfl rfl ?_; clear hst; intro b7 w hb7 hst) | (refine kt hst ta34 rfl rfl ?_; clear hst; intro w hst) | (refine kl hst ta34 rfl ?_)); try simp only [pz, pn, sz, sc])
          refine bp_ct rfl rfl (la hst ta24) (by rfl) ⟨?_, hst.keeps⟩
          rfl
      · rw [if_neg (fun h => h2 h.2), Wd_zero]
        have hz' : ((c : Int) != 0) = true := by rw [hz]; simpa using h2
        subst h1
        clear h2 hz
        cases D
        all_goals
          simp only [if_true, if_false, Bool.false_eq_true] at hp'
          go_enter Tryz.func6, Tryz.ntmps6
          go_wp2_with ((first | (refine kf gf18 hst (hr) rfl rfl rfl rfl ?_; clear hst; intro w hst) | (refine kf gf23 hst (ht) rfl rfl rfl rfl ?_; clear hst; intro w hst) | (refine kf gf24 hst (hp') rfl rfl rfl rfl ?_; clear hst; intro w hst) | (refine kf gf25 hst (hlow) rfl rfl rfl rfl ?_; clear hst; intro w hst) | (refine ka 4 hst tz24 rfl rfl ?_; clear hst; intro b4 w hb4 hst) | (refine kt hst ta24 rfl rfl ?_; clear hst; intro w hst) | (refine ka 7 hst tz34 rfl rfl ?_; clear hst; intro b7 w hb7 hst) | (refine kt hst ta34 rfl rfl ?_; clear hst; intro w hst) | (refine kl hst ta34 rfl ?_)); try simp only [pz, pn, sz, sc])
          refine bp_ct rfl rfl (la hst ta24) (by rfl) ⟨?_, hst.keeps⟩
          rfl
    · rw [if_neg (fun h => h1 h.1), Wd_zero]
      have hl' : ((sz : Int) != (q : Int)) = true := by rw [hl]; simpa using h1
      clear h1 hl hz
      cases D
      all_goals
        simp only [if_true, if_false, Bool.false_eq_true] at hp'
        go_enter Tryz.func6, Tryz.ntmps6
        go_wp2_with ((first | (refine kf gf18 hst (hr) rfl rfl rfl rfl ?_; clear hst; intro w hst) | (refine kf gf23 hst (ht) rfl rfl rfl rfl ?_; clear hst; intro w hst) | (refine kf gf24 hst (hp') rfl rfl rfl rfl ?_; clear hst; intro w hst) | (refine kf gf25 hst (hlow) rfl rfl rfl rfl ?_; clear hst; intro w hst) | (refine ka 4 hst tz24 rfl rfl ?_; clear hst; intro b4 w hb4 hst) | (refine kt hst ta24 rfl rfl ?_; clear hst; intro w hst) | (refine ka 7 hst tz34 rfl rfl ?_; clear hst; intro b7 w hb7 hst) | (refine kt hst ta34 rfl rfl ?_; clear hst; intro w hst) | (refine kl hst ta34 rfl ?_)); try simp only [pz, pn, sz, sc])
        refine bp_ct rfl rfl (la hst ta24) (by rfl) ⟨?_, hst.keeps⟩
        rfl

end Go.Proofs.YtojjmcghcgidlaaGreatDoor.Rd
