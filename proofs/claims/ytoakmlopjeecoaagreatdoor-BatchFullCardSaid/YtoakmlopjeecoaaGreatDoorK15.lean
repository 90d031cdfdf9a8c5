/- BatchFull: tied card. The statement holds: the law answers true for every input, given the kit's model of the program; no further condition. -/
import Derived.Test.YtoakmlopjeecoaaGreatDoorK13
import Derived.Test.YtoakmlopjeecoaaGreatDoorK14
import Derived.Test.YtoakmlopjeecoaaGreatDoorRows
import Derived.Test.YtoakmlopjeecoaaGreatDoorCards
import Derived.Test.YtoakmlopjeecoaaGreatDoorTie
import Derived.SevenTiedAt
import Derived.ChangeArms
namespace Go.Proofs.YtoakmlopjeecoaaGreatDoor.RwBF
open Go Go.ChangeShapes Go.WideShapes Go.ChangeAt Go.RowKit Go.Proofs.YtoakmlopjeecoaaGreatDoor.Rd Go.Proofs.YtoakmlopjeecoaaGreatDoor.Rw

set_option maxRecDepth 100000 in
theorem lifted (os : Os) (started : os.Started) (H : Type) (enc : TypeId × Value → H) :
    ReturnsInHanded {} Tryz.checked os 3 .any (fun w args => (Rows.batchFullSpec.pre enc Tryz.prog Tryz.f3 Rows.batchFullRow.domain false w args ∧ laidMetH Tryz.prog Rows.batchFullRow.laid w) ∧ sizedMet enc Tryz.prog Tryz.f3 (OpenSpec.ofChange Rows.batchFullSpec) false w args)
      (Rows.batchFullSpec.post enc Tryz.prog Tryz.f3 false true false false) := by
  refine returnsInHanded_of_change_and (C := Tryz.checked) (X := fun w _ => laidMetH Tryz.prog Rows.batchFullRow.laid w) (fun _ _ _ hh h => h.of_heap hh) own started (by kernel_rfl) Tryz.func3
    (ChangeSpec.witness_shaped (enc := enc) (C := Tryz.checked) (os := os) (X := fun w _ => laidMetH Tryz.prog Rows.batchFullRow.laid w) false (World.laidAll Tryz.prog os Rows.batchFullRow.laid) #[.int .u8 0, .agg (recC 0 0 0 0 0 0)] 8 (World.laidAll_os _ _ _)
      (World.shaped_of_ZipB (by kernel_rfl) (by kernel_rfl)) (by kernel_rfl) (by kernel_rfl) (by kernel_rfl)
      (by rw [MakeChecks.laidMetH_plain _ _ _ (by kernel_rfl)]; exact laidMet_laidAll _ (by kernel_rfl) (by kernel_rfl))) ?_
  intro W base args ds gs before hval0 hW hc _ hL _
  have hval : ∀ (j : Nat) t v, Tryz.f3.params[j]? = some t → args[j]? = some v → Value.okWide Tryz.prog W .any base t v := hval0
  have hW' := hW
  obtain ⟨p, q, hA0, hV, hbe, _, _⟩ := hW
  have hA : DataW.TrodAll enc Tryz.prog W 0 (fun _ => true) true Tryz.f3.params.toList args.toList ds p := hA0
  rw [Tryz.params3] at hA hval
  obtain ⟨v0, v1, d0, d1, p0, p1, rfl, rfl, hpe, h0, h1⟩ := trodAll_two hA
  obtain ⟨rfl, rfl⟩ := trodVars_none hV
  obtain ⟨x, rfl, hx1, hx2⟩ := arg_int Tryz.underlying5 (hval 0 5 v0 rfl rfl)
  have hx3 : 0 ≤ x := hx1
  have hx4 : x ≤ 255 := hx2
  obtain ⟨x, rfl⟩ : ∃ y : Nat, x = y := ⟨x.toNat, by omega⟩
  obtain ⟨op, k, f, m, a, b, ha, hb, rfl, hf⟩ := arg_rec (by kernel_rfl) (by kernel_rfl) (by kernel_rfl) Tryz.underlying3 Tryz.underlying22 (hval 1 26 v1 rfl rfl)
  refine (law_BatchFull x (by omega) op k f m a b W (bat_of hL) (fun w kp => law34_awake w ((bat_of hL).keep0 kp))).mono fun e W' ⟨he, hkp⟩ => ?_
  subst he
  have hlt := hW'.lt
  exact ⟨_, rfl, post_of_keeps (pa := _) (pv := []) hW' (fun _ _ _ => trodAll_mk1 (shut_bool Tryz.underlying4 _))
    (fun sp hsp => trodAll_mk2 (stays (by kernel_rfl) (by kernel_rfl) (of_decide_eq_true (by kernel_rfl)) h0 hkp (fun x hx => hlt x (by rw [hbe]; rw [hpe]; simp [hx])) (fun x hx => hsp x (by rw [hbe]; rw [hpe]; simp [hx]))) (stays (by kernel_rfl) (by kernel_rfl) (of_decide_eq_true (by kernel_rfl)) h1 hkp (fun x hx => hlt x (by rw [hbe]; rw [hpe]; simp [hx])) (fun x hx => hsp x (by rw [hbe]; rw [hpe]; simp [hx])))) (fun _ _ => rfl) (by rw [hbe]; simpa using hpe) hkp (ok_one (by kernel_rfl) rfl (okWide_bool_mk Tryz.underlying4 _))⟩

theorem holds : Rows.BatchFullSaid :=
  OpenClaim.holds_of_wide 3 Tryz.f3 rfl rfl rfl rfl rfl rfl rfl ⟨rfl, rfl, rfl, rfl, rfl⟩ rfl rfl rfl rfl rfl (by kernel_rfl) Tryz.func3 (by kernel_rfl)
    (of_decide_eq_true (by kernel_rfl)) (by unfold Func.isWrapper; first | (rw [if_pos (by decide +kernel)]; kernel_rfl) | (rw [if_neg (by decide +kernel)]; exact ⟨rfl, rfl⟩))
    (fun os started H enc _ => lifted os started H enc)

theorem card_holds : Rows.BatchFullCardSaid :=
  Claim7.holds_tied_plain_at .later [] [.data, .data, .data] true Rows.batchFullCard.stood.harness Rows.batchFullCard.stood.looks holds (fun _ h => by cases h) (by kernel_rfl) (fun _ h => by cases h) batchFull_row_tie rfl ⟨rfl, rfl⟩ (by kernel_rfl) rfl
    (fun f fn hf hfn => by
      obtain rfl : f = 3 := Option.some.inj ((show Tryz.prog.funcNamed "radicand/radicandlaw34.BatchFull" = some 3 by kernel_rfl).symm.trans hf) |>.symm
      obtain rfl : fn = Tryz.f3 := (Option.some.inj (Tryz.func3.symm.trans hfn)).symm
      exact ⟨by kernel_rfl, fun j t ht => by
        rw [Tryz.params3] at ht
        have hm : t ∈ [5, 26] := by simpa using Array.mem_of_getElem? ht
        have hall : ([5, 26].all fun u => !Tryz.prog.wantsStandIn u) = true := by kernel_rfl
        exact (show Tryz.prog.wantsStandIn t = false by simpa using List.all_eq_true.1 hall t hm)⟩)
    (by kernel_rfl)

end Go.Proofs.YtoakmlopjeecoaaGreatDoor.RwBF
