/- RootHypots: tied card. The statement holds: the law answers true for every input, given the kit's model of the program; no further condition. -/
import Derived.Test.YtefpoconpeggpaaGreatDoorJ43
import Derived.Test.YtefpoconpeggpaaGreatDoorRows
import Derived.Test.YtefpoconpeggpaaGreatDoorCards
import Derived.Test.YtefpoconpeggpaaGreatDoorTie
import Derived.SevenTiedAt
import Derived.ChangeArms
namespace Go.Proofs.YtefpoconpeggpaaGreatDoor.RwRH
open Go Go.ChangeShapes Go.WideShapes Go.ChangeAt Go.RowKit Go.Proofs.YtefpoconpeggpaaGreatDoor.Rd Go.Proofs.YtefpoconpeggpaaGreatDoor.Rw

set_option maxRecDepth 100000 in
theorem lifted (os : Os) (started : os.Started) (H : Type) (enc : TypeId × Value → H) :
    ReturnsInHanded {} Tryz.checked os 5 .any (fun w args => (Rows.rootHypotsSpec.pre enc Tryz.prog Tryz.f5 Rows.rootHypotsRow.domain false w args ∧ laidMetH Tryz.prog Rows.rootHypotsRow.laid w) ∧ sizedMet enc Tryz.prog Tryz.f5 (OpenSpec.ofChange Rows.rootHypotsSpec) false w args)
      (Rows.rootHypotsSpec.post enc Tryz.prog Tryz.f5 false true false false) := by
  refine returnsInHanded_of_change_and (C := Tryz.checked) (X := fun w _ => laidMetH Tryz.prog Rows.rootHypotsRow.laid w) (fun _ _ _ hh h => h.of_heap hh) own started (by kernel_rfl) Tryz.func5
    (ChangeSpec.witness_shaped (enc := enc) (C := Tryz.checked) (os := os) (X := fun w _ => laidMetH Tryz.prog Rows.rootHypotsRow.laid w) false (World.laidAll Tryz.prog os Rows.rootHypotsRow.laid) #[.agg (caseC 0 0 0 0 0)] 8 (World.laidAll_os _ _ _)
      (World.shaped_of_ZipB (by kernel_rfl) (by kernel_rfl)) (by kernel_rfl) (by kernel_rfl) (by kernel_rfl)
      (by rw [MakeChecks.laidMetH_plain _ _ _ (by kernel_rfl)]; exact laidMet_laidAll _ (by kernel_rfl) (by kernel_rfl))) ?_
  intro W base args ds gs before hval0 hW hc _ hL _
  have hval : ∀ (j : Nat) t v, Tryz.f5.params[j]? = some t → args[j]? = some v → Value.okWide Tryz.prog W .any base t v := hval0
  have hW' := hW
  obtain ⟨p, q, hA0, hV, rfl, _, _⟩ := hW
  have hA : DataW.TrodAll enc Tryz.prog W 0 (fun _ => true) true Tryz.f5.params.toList args.toList ds p := hA0
  rw [Tryz.params5] at hA hval
  obtain ⟨v0, d0, rfl, rfl, h0⟩ := trodAll_one hA
  obtain ⟨rfl, rfl⟩ := trodVars_none hV
  obtain ⟨k, f, m, a, b, ha, hb, rfl, rfl, rfl, wk, wf, wm⟩ := open_case Tryz.underlying26 (by kernel_rfl) (by refine ⟨rfl, ?_, ?_⟩ <;> kernel_rfl) (by refine ⟨rfl, ?_, ?_⟩ <;> kernel_rfl) (by refine ⟨rfl, ?_, ?_⟩ <;> kernel_rfl) (by refine ⟨rfl, ?_, Tryz.underlying24⟩ <;> kernel_rfl) (by refine ⟨rfl, ?_, Tryz.underlying24⟩ <;> kernel_rfl) (by refine ⟨rfl, ?_, ?_⟩ <;> kernel_rfl) (by refine ⟨rfl, ?_, ?_⟩ <;> kernel_rfl) (hval 0 26 v0 rfl rfl) h0
  simp only [List.append_nil] at hW'
  refine (law_RootHypots k f m a b ha hb W (fmt_of hL)).mono fun e W' ⟨he, hkp⟩ => ?_
  subst he
  exact ⟨_, rfl, post_of_keeps (pa := []) (pv := []) hW' (fun _ _ _ => trodAll_mk1 (shut_bool Tryz.underlying4 _))
    (fun sp _ => trodAll_mk1 (shut_case Tryz.underlying26 (by kernel_rfl) (by refine ⟨rfl, ?_, ?_⟩ <;> kernel_rfl) (by refine ⟨rfl, ?_, ?_⟩ <;> kernel_rfl) (by refine ⟨rfl, ?_, ?_⟩ <;> kernel_rfl) (by refine ⟨rfl, ?_, Tryz.underlying24⟩ <;> kernel_rfl) (by refine ⟨rfl, ?_, Tryz.underlying24⟩ <;> kernel_rfl) (by refine ⟨rfl, ?_, ?_⟩ <;> kernel_rfl) (by refine ⟨rfl, ?_, ?_⟩ <;> kernel_rfl) wk wf wm)) (fun _ _ => rfl) rfl hkp (ok_one (by kernel_rfl) rfl (okWide_bool_mk Tryz.underlying4 _))⟩

theorem holds : Rows.RootHypotsSaid :=
  OpenClaim.holds_of_wide 5 Tryz.f5 rfl rfl rfl rfl rfl rfl rfl ⟨rfl, rfl, rfl, rfl, rfl⟩ rfl rfl rfl rfl rfl (by kernel_rfl) Tryz.func5 (by kernel_rfl)
    (of_decide_eq_true (by kernel_rfl)) (by unfold Func.isWrapper; first | (rw [if_pos (by decide +kernel)]; kernel_rfl) | (rw [if_neg (by decide +kernel)]; exact ⟨rfl, rfl⟩))
    (fun os started H enc _ => lifted os started H enc)

theorem card_holds : Rows.RootHypotsCardSaid :=
  Claim7.holds_tied_plain_at .later [] [.data] true Rows.rootHypotsCard.stood.harness Rows.rootHypotsCard.stood.looks holds (fun _ h => by cases h) (by kernel_rfl) (fun _ h => by cases h) rootHypots_row_tie rfl ⟨rfl, rfl⟩ (by kernel_rfl) rfl
    (fun f fn hf hfn => by
      obtain rfl : f = 5 := Option.some.inj ((show Tryz.prog.funcNamed "radicand/radicandlaw25.RootHypots" = some 5 by kernel_rfl).symm.trans hf) |>.symm
      obtain rfl : fn = Tryz.f5 := (Option.some.inj (Tryz.func5.symm.trans hfn)).symm
      exact ⟨by kernel_rfl, fun j t ht => by
        rw [Tryz.params5] at ht
        have hm : t ∈ [26] := by simpa using Array.mem_of_getElem? ht
        have hall : ([26].all fun u => !Tryz.prog.wantsStandIn u) = true := by kernel_rfl
        exact (show Tryz.prog.wantsStandIn t = false by simpa using List.all_eq_true.1 hall t hm)⟩)
    (by kernel_rfl)

end Go.Proofs.YtefpoconpeggpaaGreatDoor.RwRH
