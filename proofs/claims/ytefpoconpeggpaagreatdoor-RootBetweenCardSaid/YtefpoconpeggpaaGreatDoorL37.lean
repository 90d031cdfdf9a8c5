/- RootBetween: tied card. The statement holds: the law answers true for every input, given the kit's model of the program; no further condition. -/
import Derived.Test.YtefpoconpeggpaaGreatDoorL36
import Derived.Test.YtefpoconpeggpaaGreatDoorRows
import Derived.Test.YtefpoconpeggpaaGreatDoorCards
import Derived.Test.YtefpoconpeggpaaGreatDoorTie
import Derived.SevenTiedAt
import Derived.ChangeArms
namespace Go.Proofs.YtefpoconpeggpaaGreatDoor.RwRB
open Go Go.ChangeShapes Go.WideShapes Go.ChangeAt Go.RowKit Go.Proofs.YtefpoconpeggpaaGreatDoor.Rd Go.Proofs.YtefpoconpeggpaaGreatDoor.Rw

set_option maxRecDepth 100000 in
theorem lifted (os : Os) (started : os.Started) (H : Type) (enc : TypeId × Value → H) :
    ReturnsInHanded {} Tryz.checked os 4 .any (fun w args => (Rows.rootBetweenSpec.pre enc Tryz.prog Tryz.f4 Rows.rootBetweenRow.domain false w args ∧ laidMetH Tryz.prog Rows.rootBetweenRow.laid w) ∧ sizedMet enc Tryz.prog Tryz.f4 (OpenSpec.ofChange Rows.rootBetweenSpec) false w args)
      (Rows.rootBetweenSpec.post enc Tryz.prog Tryz.f4 false true false false) := by
  refine returnsInHanded_of_change_and (C := Tryz.checked) (X := fun w _ => laidMetH Tryz.prog Rows.rootBetweenRow.laid w) (fun _ _ _ hh h => h.of_heap hh) own started (by kernel_rfl) Tryz.func4
    (ChangeSpec.witness_shaped (enc := enc) (C := Tryz.checked) (os := os) (X := fun w _ => laidMetH Tryz.prog Rows.rootBetweenRow.laid w) false (World.laidAll Tryz.prog os Rows.rootBetweenRow.laid) #[.int .u8 0, .int .i64 0, Wd 0] 8 (World.laidAll_os _ _ _)
      (World.shaped_of_ZipB (by kernel_rfl) (by kernel_rfl)) (by kernel_rfl) (by kernel_rfl) (by kernel_rfl)
      (by rw [MakeChecks.laidMetH_plain _ _ _ (by kernel_rfl)]; exact laidMet_laidAll _ (by kernel_rfl) (by kernel_rfl))) ?_
  intro W base args ds gs before hval0 hW hc _ hL _
  have hval : ∀ (j : Nat) t v, Tryz.f4.params[j]? = some t → args[j]? = some v → Value.okWide Tryz.prog W .any base t v := hval0
  have hW' := hW
  obtain ⟨p, q, hA0, hV, rfl, _, _⟩ := hW
  have hA : DataW.TrodAll enc Tryz.prog W 0 (fun _ => true) true Tryz.f4.params.toList args.toList ds p := hA0
  rw [Tryz.params4] at hA hval
  obtain ⟨v0, v1, v2, d0, d1, d2, p0, p1, p2, rfl, rfl, rfl, h0, h1, h2⟩ := trodAll_three hA
  obtain ⟨rfl, rfl⟩ := trodVars_none hV
  obtain ⟨k, rfl, rfl, rfl, hk⟩ := open_int Tryz.underlying5 (hval 0 5 v0 rfl rfl) h0
  obtain ⟨f, rfl, rfl, rfl, hf⟩ := open_int Tryz.underlying3 (hval 1 3 v1 rfl rfl) h1
  obtain ⟨a, ha, rfl, rfl, rfl⟩ := open_word Tryz.underlying24 (by kernel_rfl) (by kernel_rfl) (by kernel_rfl) (by kernel_rfl) (hval 2 24 v2 rfl rfl) h2
  have hk8 : 0 ≤ k ∧ k < 256 := by
    have h := hk
    simp [Lit.wf, IntKind.min, IntKind.max, IntKind.signed, IntKind.bits] at h
    omega
  obtain ⟨kn, rfl⟩ : ∃ kn : Nat, k = kn := ⟨k.toNat, by omega⟩
  simp only [List.append_nil] at hW'
  refine (law_RootBetween kn (by omega) f a ha W (fmt_of hL)).mono fun e W' ⟨he, hkp⟩ => ?_
  subst he
  exact ⟨_, rfl, post_of_keeps (pa := []) (pv := []) hW' (fun _ _ _ => trodAll_mk1 (shut_bool Tryz.underlying4 _))
    (fun sp _ => trodAll_mk3 (shut_int Tryz.underlying5 hk) (shut_int Tryz.underlying3 hf) (shut_word Tryz.underlying24 (by kernel_rfl) (by kernel_rfl) (by kernel_rfl) (by kernel_rfl))) (fun _ _ => rfl) rfl hkp (ok_one (by kernel_rfl) rfl (okWide_bool_mk Tryz.underlying4 _))⟩

theorem holds : Rows.RootBetweenSaid :=
  OpenClaim.holds_of_wide 4 Tryz.f4 rfl rfl rfl rfl rfl rfl rfl ⟨rfl, rfl, rfl, rfl, rfl⟩ rfl rfl rfl rfl rfl (by kernel_rfl) Tryz.func4 (by kernel_rfl)
    (of_decide_eq_true (by kernel_rfl)) (by unfold Func.isWrapper; first | (rw [if_pos (by decide +kernel)]; kernel_rfl) | (rw [if_neg (by decide +kernel)]; exact ⟨rfl, rfl⟩))
    (fun os started H enc _ => lifted os started H enc)

theorem card_holds : Rows.RootBetweenCardSaid :=
  Claim7.holds_tied_plain_at .later [] [.data] true Rows.rootBetweenCard.stood.harness Rows.rootBetweenCard.stood.looks holds (fun _ h => by cases h) (by kernel_rfl) (fun _ h => by cases h) rootBetween_row_tie rfl ⟨rfl, rfl⟩ (by kernel_rfl) rfl
    (fun f fn hf hfn => by
      obtain rfl : f = 4 := Option.some.inj ((show Tryz.prog.funcNamed "radicand/radicandlaw25.RootBetween" = some 4 by kernel_rfl).symm.trans hf) |>.symm
      obtain rfl : fn = Tryz.f4 := (Option.some.inj (Tryz.func4.symm.trans hfn)).symm
      exact ⟨by kernel_rfl, fun j t ht => by
        rw [Tryz.params4] at ht
        have hm : t ∈ [5, 3, 24] := by simpa using Array.mem_of_getElem? ht
        have hall : ([5, 3, 24].all fun u => !Tryz.prog.wantsStandIn u) = true := by kernel_rfl
        exact (show Tryz.prog.wantsStandIn t = false by simpa using List.all_eq_true.1 hall t hm)⟩)
    (by kernel_rfl)

end Go.Proofs.YtefpoconpeggpaaGreatDoor.RwRB
