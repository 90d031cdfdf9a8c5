/- DigitsWords: tied card. The statement holds: the law answers true for every input, given the kit's model of the program; no further condition. -/
import Derived.Test.YtojjmcghcgidlaaGreatDoorRfG
import Derived.Test.YtojjmcghcgidlaaGreatDoorRwB
import Derived.Test.YtojjmcghcgidlaaGreatDoorCards
import Derived.Test.YtojjmcghcgidlaaGreatDoorTie
import Derived.SevenTiedAt
namespace Go.Proofs.YtojjmcghcgidlaaGreatDoor.RwWords
open Go Go.ChangeShapes Go.WideShapes Go.ChangeAt Go.RowKit Go.Proofs.YtojjmcghcgidlaaGreatDoor.Rd Go.Proofs.YtojjmcghcgidlaaGreatDoor.Rw
open Go.ChangeMaps (open_string shut_string)

theorem law_Words (m : Nat) (n : Int) (s : ByteArray) (hm : m < M2) (hn0 : -9223372036854775808 ≤ n) (hn1 : n ≤ 9223372036854775807) (w0 : World) (ht : Tab10 w0) :
    GivesAt Tryz.prog 3 #[Wd m, .int .i64 n, .string s] (.bool true) w0 := by
  rcases Nat.lt_or_ge 100 s.size with h | h
  · exact law_Words_long m n s h w0 ht
  · cases hr : rightB n with
    | false => exact law_Words_wrong m n s hm hn0 hn1 h hr w0 ht
    | true =>
      obtain ⟨q, rfl, hq1, hq32⟩ := rightB_true hr
      exact law_Words_right m q s hm hq1 hq32 h hr w0 ht

theorem tab_of {W : World} (h : laidMetH Tryz.prog Rows.digitsWordsRow.laid W) : Tab10 W := by
  rw [MakeChecks.laidMetH_plain _ _ _ (by kernel_rfl)] at h
  exact Lib.tabIs_of_head (k := .u64) (zs := Lib.pow10Tab) (rest := _) (g := 5) (t := 129) (e := 22) (n := 20) (by kernel_rfl) (by kernel_rfl) (by kernel_rfl) (by kernel_rfl) (by kernel_rfl) (by kernel_rfl) h.tail.tail

set_option maxRecDepth 100000 in
theorem lifted (os : Os) (started : os.Started) (H : Type) (enc : TypeId × Value → H) :
    ReturnsInHanded {} Tryz.checked os 3 .any (fun w args => (Rows.digitsWordsSpec.pre enc Tryz.prog Tryz.f3 Rows.digitsWordsRow.domain false w args ∧ laidMetH Tryz.prog Rows.digitsWordsRow.laid w) ∧ sizedMet enc Tryz.prog Tryz.f3 (OpenSpec.ofChange Rows.digitsWordsSpec) false w args)
      (Rows.digitsWordsSpec.post enc Tryz.prog Tryz.f3 false true false false) := by
  refine returnsInHanded_of_change_and (C := Tryz.checked) (X := fun w _ => laidMetH Tryz.prog Rows.digitsWordsRow.laid w) (fun _ _ _ hh h => h.of_heap hh) own started (by kernel_rfl) Tryz.func3
    (ChangeSpec.witness_shaped (enc := enc) (C := Tryz.checked) (os := os) (X := fun w _ => laidMetH Tryz.prog Rows.digitsWordsRow.laid w) false (World.laidAll Tryz.prog os Rows.digitsWordsRow.laid) #[Wd 0, .int .i64 0, .string ⟨#[]⟩] 8 (World.laidAll_os _ _ _)
      (World.shaped_of_ZipB (by kernel_rfl) (by kernel_rfl)) (by kernel_rfl) (by kernel_rfl) (by kernel_rfl)
      (by rw [MakeChecks.laidMetH_plain _ _ _ (by kernel_rfl)]; exact laidMet_laidAll _ (by kernel_rfl) (by kernel_rfl))) ?_
  intro W base args ds gs before hval0 hW hc _ hL _
  have hval : ∀ (j : Nat) t v, Tryz.f3.params[j]? = some t → args[j]? = some v → Value.okWide Tryz.prog W .any base t v := hval0
  have hW' := hW
  obtain ⟨p, q, hA0, hV, rfl, _, _⟩ := hW
  have hA : DataW.TrodAll enc Tryz.prog W 0 (fun _ => true) true Tryz.f3.params.toList args.toList ds p := hA0
  rw [Tryz.params3] at hA hval
  obtain ⟨v0, v1, v2, d0, d1, d2, p0, p1, p2, rfl, rfl, rfl, h0, h1, h2⟩ := trodAll_three hA
  obtain ⟨rfl, rfl⟩ := trodVars_none hV
  obtain ⟨m, hm, rfl, rfl, rfl⟩ := open_word Tryz.underlying24 (by kernel_rfl) (by kernel_rfl) (by kernel_rfl) (by kernel_rfl) (hval 0 24 v0 rfl rfl) h0
  obtain ⟨n, rfl, rfl, rfl, hn⟩ := open_int Tryz.underlying3 (hval 1 3 v1 rfl rfl) h1
  obtain ⟨s, rfl, rfl, rfl, hs⟩ := open_string Tryz.underlying9 (hval 2 9 v2 rfl rfl) h2
  simp only [List.append_nil] at hW'
  have hb : -9223372036854775808 ≤ n ∧ n ≤ 9223372036854775807 := by
    have h := hn
    simp [Lit.wf, IntKind.min, IntKind.max, IntKind.signed, IntKind.bits] at h
    omega
  refine (law_Words m n s hm hb.1 hb.2 W (tab_of hL)).mono fun e W' ⟨he, hk⟩ => ?_
  subst he
  exact ⟨_, rfl, post_of_keeps (pa := []) (pv := []) hW' (fun _ _ _ => trodAll_mk1 (shut_bool Tryz.underlying4 _))
    (fun sp _ => trodAll_mk3 (shut_word Tryz.underlying24 (by kernel_rfl) (by kernel_rfl) (by kernel_rfl) (by kernel_rfl)) (shut_int Tryz.underlying3 hn) (shut_string Tryz.underlying9 hs)) (fun _ _ => rfl) rfl hk (ok_one (by kernel_rfl) rfl (okWide_bool_mk Tryz.underlying4 _))⟩

theorem holds : Rows.DigitsWordsSaid :=
  OpenClaim.holds_of_wide 3 Tryz.f3 rfl rfl rfl rfl rfl rfl rfl ⟨rfl, rfl, rfl, rfl, rfl⟩ rfl rfl rfl rfl rfl (by kernel_rfl) Tryz.func3 (by kernel_rfl)
    (of_decide_eq_true (by kernel_rfl)) (by unfold Func.isWrapper; first | (rw [if_pos (by decide +kernel)]; kernel_rfl) | (rw [if_neg (by decide +kernel)]; exact ⟨rfl, rfl⟩))
    (fun os started H enc _ => lifted os started H enc)

theorem card_holds : Rows.DigitsWordsCardSaid :=
  Claim7.holds_tied_plain_at .later [] [.data, .data, .data, .data, .pinned] true Rows.digitsWordsCard.stood.harness Rows.digitsWordsCard.stood.looks holds (fun _ h => by cases h) (by kernel_rfl) (fun _ h => by cases h) digitsWords_row_tie rfl ⟨rfl, rfl⟩ (by kernel_rfl) rfl
    (fun f fn hf hfn => by
      obtain rfl : f = 3 := Option.some.inj ((show Tryz.prog.funcNamed "radicand/radicandlaw04.DigitsWords" = some 3 by kernel_rfl).symm.trans hf) |>.symm
      obtain rfl : fn = Tryz.f3 := (Option.some.inj (Tryz.func3.symm.trans hfn)).symm
      exact ⟨by kernel_rfl, fun j t ht => by
        rw [Tryz.params3] at ht
        have hm : t ∈ [24, 3, 9] := by simpa using Array.mem_of_getElem? ht
        have hall : ([24, 3, 9].all fun u => !Tryz.prog.wantsStandIn u) = true := by kernel_rfl
        exact (show Tryz.prog.wantsStandIn t = false by simpa using List.all_eq_true.1 hall t hm)⟩)
    (by kernel_rfl)

end Go.Proofs.YtojjmcghcgidlaaGreatDoor.RwWords
