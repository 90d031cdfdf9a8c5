/- EngineNames: tied card. The statement holds: the law answers true for every input, given the kit's model of the program; no further condition. -/
import Derived.Test.YtggchelniblipaaGreatDoorJ03
import Derived.Test.YtggchelniblipaaGreatDoorRows
import Derived.Test.YtggchelniblipaaGreatDoorChecked
import Derived.ProofKit
import Derived.OpenShut
import Derived.LaidMore
import Derived.Lay
import Derived.Lib.LaidTab
import Derived.Stop.Joined
import Derived.JoinedOf
import Derived.Test.YtggchelniblipaaGreatDoorJ23
import Derived.Test.YtggchelniblipaaGreatDoorCards
import Derived.Test.YtggchelniblipaaGreatDoorTie
import Derived.SevenTiedAt
import Derived.ChangeArms
namespace Go.Proofs.YtggchelniblipaaGreatDoor.Rd
open Go Go.RowKit Go.ChangeShapes
set_option linter.unusedVariables false
set_option linter.unusedSimpArgs false
set_option maxRecDepth 100000

theorem words_of (cs : Array Value) : ∀ k, (∀ i < k, ∃ z : Nat, z < B ∧ cs[i]? = some (.int .u64 (z : Nat))) → ∃ n, n < B ^ k ∧ ∀ i < k, cs[i]? = some (.int .u64 (lb n i : Nat))
  | 0, _ => ⟨0, by simp, fun i h => by omega⟩
  | k + 1, h => by
    obtain ⟨n, hn, hi⟩ := words_of cs k (fun i hi => h i (by omega))
    obtain ⟨z, hz, hc⟩ := h k (by omega)
    refine ⟨n + z * B ^ k, ?_, fun i hik => ?_⟩
    · have : (z + 1) * B ^ k ≤ B * B ^ k := Nat.mul_le_mul_right _ hz
      rw [Nat.add_mul, Nat.one_mul] at this
      rw [Nat.pow_succ']; omega
    · rw [lb_add_at n z k i hn hz]
      by_cases e : i = k
      · subst e; rw [if_pos rfl]; exact hc
      · rw [if_neg e]; exact hi i (by omega)

section
variable {H : Type} {enc : TypeId × Value → H} {P : Program} {w : World} {base : Nat} {sp : Nat → Bool} {held : Bool}
/-- What an array of words reads as. -/
def wordsD (H : Type) (k n : Nat) : DataW H := .agg ((List.range k).map fun i => .lit (.int .u64 (lb n i : Nat)))

theorem open_words {r : Reach} {b0 : Nat} {t e : TypeId} {k : Nat} {v : Value} {d : DataW H} {ps : List MemPlace} (ht : P.underlying t = some (.array k e)) (he : P.underlying e = some (.int .u64)) (hce : P.cellsOf e = 1) (hct : P.cellsOf t = k)
    (hv : Value.okWide P w r b0 t v) (hd : DataW.Trod enc P w base sp held t v d ps) : ∃ n, n < B ^ k ∧ v = .agg (wc k n) ∧ d = wordsD H k n ∧ ps = [] := by
  simp only [Value.okWide, ht] at hv
  obtain ⟨cs, rfl, hsz, _⟩ := hv
  rw [hct] at hsz
  obtain ⟨fuel, hf⟩ := hd
  obtain ⟨xs, m, rfl, hx, hcl, hxl, hel⟩ := DataW.trod_array ht hf
  have hc : ∀ i < k, ∃ z : Nat, z < B ∧ cs[i]? = some (.int .u64 (z : Nat)) ∧ xs[i]? = some (.lit (.int .u64 (z : Nat)), []) := by
    intro i hi
    have h1 := hel i hi
    rw [hce, Nat.mul_one, List.getElem?_eq_getElem (by omega)] at h1
    obtain ⟨z, h2, h3, h4⟩ := DataW.trod_int he h1
    have hz : 0 ≤ z ∧ z < 18446744073709551616 := by
      simp [Lit.wf, IntKind.min, IntKind.max, IntKind.signed, IntKind.bits] at h4
      omega
    obtain ⟨y, rfl⟩ : ∃ y : Nat, z = y := ⟨z.toNat, by omega⟩
    refine ⟨y, by rw [B_val]; omega, ?_, by rw [List.getElem?_eq_getElem (by omega), h3]⟩
    have h2' : (cs.toList.drop i).take 1 = [.int .u64 (y : Int)] := h2
    have h5 : ((cs.toList.drop i).take 1)[0]? = some (.int .u64 (y : Int)) := by rw [h2']; rfl
    have h6 : cs.toList[i]? = some (.int .u64 (y : Int)) := by simpa [List.getElem?_take, List.getElem?_drop] using h5
    simpa using h6
  obtain ⟨n, hn, hni⟩ := words_of cs k (fun i hi => by obtain ⟨z, h1, h2, _⟩ := hc i hi; exact ⟨z, h1, h2⟩)
  have hcs : cs = wc k n := by
    apply Array.ext_getElem?
    intro i
    by_cases hi : i < k
    · rw [hni i hi, wc_get k n i hi]
    · rw [Array.getElem?_eq_none (by omega), Array.getElem?_eq_none (by simp; omega)]
  have hxs : xs = (List.range k).map fun i => ((.lit (.int .u64 (lb n i : Nat)), []) : DataW H × List MemPlace) := by
    apply List.ext_getElem?
    intro i
    by_cases hi : i < k
    · obtain ⟨z, _, h2, h3⟩ := hc i hi
      have := hni i hi
      rw [h2] at this
      have hz : (z : Int) = (lb n i : Nat) := by injection this with h; injection h
      rw [h3, hz]
      simp [hi]
    · rw [List.getElem?_eq_none (by omega), List.getElem?_eq_none (by simp; omega)]
  have hx' := Prod.mk.inj hx
  refine ⟨n, hn, by rw [hcs], ?_, ?_⟩
  · rw [hx'.1, hxs]; simp [wordsD, Function.comp_def]
  · rw [hx'.2, hxs]; simp

theorem mapM_all {α β : Type} {f : α → Option β} {g : α → β} : ∀ {l : List α}, (∀ a ∈ l, f a = some (g a)) → l.mapM f = some (l.map g)
  | [], _ => rfl
  | a :: l, h => by
    rw [List.mapM_cons, h a List.mem_cons_self, mapM_all (fun b hb => h b (List.mem_cons_of_mem _ hb))]
    rfl

theorem shut_words {t e : TypeId} {k n : Nat} (ht : P.underlying t = some (.array k e)) (he : P.underlying e = some (.int .u64)) (hce : P.cellsOf e = 1) (hct : P.cellsOf t = k) : DataW.Trod enc P w base sp held t (.agg (wc k n)) (wordsD H k n) [] := by
  have hl : (Value.agg (wc k n)).cells.toList.length = P.cellsOf t := by
    show (wc k n).toList.length = _
    simp [hct]
  obtain ⟨m, hm⟩ : ∃ m, ((List.range k).mapM fun i => DataW.trod enc P w base sp held m e (((Value.agg (wc k n)).cells.toList.drop (i * P.cellsOf e)).take (P.cellsOf e))) = some ((List.range k).map fun i => ((.lit (.int .u64 (lb n i : Nat)), []) : DataW H × List MemPlace)) := by
    refine ⟨1, ?_⟩
    apply mapM_all
    intro i hi
    have hik := List.mem_range.1 hi
    rw [hce, Nat.mul_one]
    have hone : (((Value.agg (wc k n)).cells.toList.drop i).take 1) = [.int .u64 (lb n i : Nat)] := by
      show ((wc k n).toList.drop i).take 1 = _
      apply List.ext_getElem?
      intro j
      rw [List.getElem?_take]
      rcases j with _ | j
      · simp [wc, hik]
      · simp
    rw [hone]
    have hwf : (Lit.int .u64 (lb n i : Nat)).wf = true := by
      have := lb_lt n i
      rw [B_val] at this
      simp [Lit.wf, IntKind.min, IntKind.max, IntKind.signed, IntKind.bits]
      omega
    unfold DataW.trod
    rw [he]
    simp [hwf]
  refine ⟨m + 1, ?_⟩
  unfold DataW.trod
  rw [ht]
  simp only [hl, if_true, hm, Option.map_some]
  simp [wordsD, Function.comp_def]
end

end Go.Proofs.YtggchelniblipaaGreatDoor.Rd

namespace Go.Proofs.YtggchelniblipaaGreatDoor.Rw
open Go Go.ChangeShapes Go.WideShapes Go.ChangeAt Go.RowKit Go.Proofs.YtggchelniblipaaGreatDoor.Rd

theorem own : ownKnob Tryz.prog.godebug = none := by kernel_rfl

section
variable {H : Type} {enc : TypeId × Value → H} {P : Program}
theorem post_of_keeps {f : Func} {s : ChangeSpec} {apart fresh handsOn again : Bool} {W W' : World} {args : Array Value} {v : Value} {ds gs : List (DataW H)} {before pa pv : List MemPlace}
    (hW : DataW.Whole enc P f.params.toList s.vars apart W args.toList ds gs before)
    (hres : ∀ (b : Nat) (sp : Nat → Bool) (hd : Bool), DataW.TrodAll enc P W' b sp hd f.resultTypes.toList (v.resultList f.resultTypes.size) (s.fn H (ds ++ gs)).results [])
    (hargs : ∀ sp : Nat → Bool, (∀ p ∈ before, sp p.block = true) → DataW.TrodAll enc P W' 0 sp true f.params.toList args.toList (s.fn H (ds ++ gs)).args pa)
    (hvars : ∀ sp : Nat → Bool, (∀ p ∈ before, sp p.block = true) → DataW.TrodVars enc P W' sp s.vars (s.fn H (ds ++ gs)).vars pv)
    (hps : before = pa ++ pv) (hk : Keeps [] W W')
    (hok : ∀ (j : Nat) (t : TypeId) (r : Value), f.resultTypes[j]? = some t → (v.resultList f.resultTypes.size)[j]? = some r → Value.okWide P W' .any 0 t r) :
    s.post enc P f apart fresh handsOn again W args v W' := by
  have hold : ∀ p ∈ before, (fun b => decide (b < W.heap.size)) p.block = true := fun p hp => by simpa using hW.lt p hp
  have hlt : ∀ p ∈ before, p.block < W.heap.size := hW.lt
  refine ⟨ds, gs, before, [], pa, pv, hW, hres _ _ _, hargs _ hold, hvars _ hold, World.keptBut_mono (fun p hp => ⟨hp, ?_⟩) (hk.below.frame (· ∈ before)), fun _ => ?_⟩
  · rw [hps, List.mem_append] at hp
    exact Or.inr hp
  · obtain ⟨_, _, _, _, _, hz, hn⟩ := hW
    refine ⟨hok, _, _, ([] ++ pa) ++ pv, ⟨[] ++ pa, pv, trodAll_append (hargs _ (fun _ _ => rfl)) (hres _ _ _), hvars _ (fun _ _ => rfl), rfl, ?_, ?_⟩, ?_⟩
    · intro b off hp
      have hp' : MemPlace.cell b off ∈ before := by rw [hps]; simpa using hp
      rw [hk.below.frozen (hlt _ hp')]
      exact hz b off hp'
    · intro ha
      have := hn ha
      rw [hps] at this
      simpa using this
    · intro p hp _
      rw [hps]
      simpa using hp
end

end Go.Proofs.YtggchelniblipaaGreatDoor.Rw

namespace Go.Proofs.YtggchelniblipaaGreatDoor.RwEN
open Go Go.ChangeShapes Go.WideShapes Go.ChangeAt Go.RowKit Go.Proofs.YtggchelniblipaaGreatDoor.Rd Go.Proofs.YtggchelniblipaaGreatDoor.Rw
open Go.ChangeMaps (open_string shut_string)

/-- An array of strings that reads as some texts holds them, cell for cell. -/
theorem strs_of_tab {H : Type} {enc : TypeId × Value → H} {P : Program} {w : World} {base : Nat} {sp : Nat → Bool} {held : Bool} {fuel : Nat} {t e : TypeId} {n : Nat} {cs : List Value} {ss : List ByteArray} {p : List MemPlace}
    (ht : P.underlying t = some (.array n e)) (he : P.underlying e = some .string) (hce : P.cellsOf e = 1) (hct : P.cellsOf t = n)
    (h : DataW.trod enc P w base sp held fuel t cs = some (.agg (ss.map fun s => .lit (.string s.data.toList)), p)) : cs = ss.map fun s => Value.string s := by
  cases fuel with
  | zero => simp [DataW.trod] at h
  | succ fuel =>
    simp only [DataW.trod, ht, hce, hct, Nat.mul_one] at h
    split at h
    · rename_i hl
      obtain ⟨xs, hm, hx⟩ := Option.map_eq_some_iff.1 h
      have hxs : xs.map (·.1) = ss.map fun s => (DataW.lit (.string s.data.toList) : DataW H) := by
        have := congrArg Prod.fst hx
        simpa using this
      have hxl : xs.length = n := by simpa using Lib.mapM_length hm
      have hzl : ss.length = n := by
        have := congrArg List.length hxs
        simp at this
        omega
      apply List.ext_getElem?
      intro i
      by_cases hi : i < n
      · obtain ⟨b, hb, hf⟩ := Lib.mapM_at hm i i (by simp [hi])
        obtain ⟨s, hc, rfl, _⟩ := DataW.trod_string he hf
        have h1 : cs[i]? = some (.string s) := by
          have := congrArg (·[0]?) hc
          simpa [List.getElem?_take, List.getElem?_drop] using this
        have h2 : (xs.map (·.1))[i]? = some (DataW.lit (.string s.data.toList) : DataW H) := by simp [hb]
        rw [hxs] at h2
        simp only [List.getElem?_map, Option.map_eq_some_iff, DataW.lit.injEq, Lit.string.injEq] at h2
        obtain ⟨s', hs', e'⟩ := h2
        have : s' = s := bytes_inj e'
        subst this
        simp [h1, hs']
      · rw [List.getElem?_eq_none (by omega), List.getElem?_eq_none (by simp; omega)]
    · cases h

theorem names_of {W : World} (h : laidMetH Tryz.prog [("radicand/engine.names", Rows.laid_radicand_engine_names)] W) : NamesIn W := by
  rw [MakeChecks.laidMetH_plain _ _ _ (by kernel_rfl)] at h
  obtain ⟨ps, ⟨g', t', cs, fuel, p, q, hg', ht', hvar, hd, _, _⟩, _⟩ := h
  have hg : Tryz.prog.globalNamed "radicand/engine.names" = some 0 := by kernel_rfl
  have hty : (Tryz.prog.globals[0]?).map (·.type) = some 43 := by kernel_rfl
  obtain rfl := Option.some.inj (hg.symm.trans hg')
  obtain rfl := Option.some.inj (hty.symm.trans ht')
  have hcs := strs_of_tab (ss := [nm 0, nm 1, nm 2, nm 3, nm 4]) (t := 43) (e := 9) (n := 5) (by kernel_rfl) (by kernel_rfl) (by kernel_rfl) (by kernel_rfl) hd
  obtain rfl : cs = ([nm 0, nm 1, nm 2, nm 3, nm 4].map fun s => Value.string s).toArray := by rw [← hcs]
  intro i hi
  rw [World.var?_cell hg hvar i]
  obtain rfl | rfl | rfl | rfl | rfl : i = 0 ∨ i = 1 ∨ i = 2 ∨ i = 3 ∨ i = 4 := by omega
  all_goals rfl

set_option maxRecDepth 100000 in
theorem lifted (os : Os) (started : os.Started) (H : Type) (enc : TypeId × Value → H) :
    ReturnsInHanded {} Tryz.checked os 3 .any (fun w args => (Rows.engineNamesSpec.pre enc Tryz.prog Tryz.f3 Rows.engineNamesRow.domain false w args ∧ laidMetH Tryz.prog Rows.engineNamesRow.laid w) ∧ sizedMet enc Tryz.prog Tryz.f3 (OpenSpec.ofChange Rows.engineNamesSpec) false w args)
      (Rows.engineNamesSpec.post enc Tryz.prog Tryz.f3 false true false false) := by
  refine returnsInHanded_of_change_and (C := Tryz.checked) (X := fun w _ => laidMetH Tryz.prog Rows.engineNamesRow.laid w) (fun _ _ _ hh h => h.of_heap hh) own started (by kernel_rfl) Tryz.func3
    (ChangeSpec.witness_shaped (enc := enc) (C := Tryz.checked) (os := os) (X := fun w _ => laidMetH Tryz.prog Rows.engineNamesRow.laid w) false (World.laidAll Tryz.prog os Rows.engineNamesRow.laid) #[.int .i64 0, .string ⟨#[]⟩, W 0] 8 (World.laidAll_os _ _ _)
      (World.shaped_of_ZipB (by kernel_rfl) (by kernel_rfl)) (by kernel_rfl) (by kernel_rfl) (by kernel_rfl)
      (by rw [MakeChecks.laidMetH_plain _ _ _ (by kernel_rfl)]; exact laidMet_laidAll _ (by kernel_rfl) (by kernel_rfl))) ?_
  intro W base args ds gs before hval0 hW hc _ hL _
  have hval : ∀ (j : Nat) t v, Tryz.f3.params[j]? = some t → args[j]? = some v → Value.okWide Tryz.prog W .any base t v := hval0
  have hW' := hW
  obtain ⟨p, q, hA0, hV, rfl, _, _⟩ := hW
  have hA : DataW.TrodAll enc Tryz.prog W 0 (fun _ => true) true Tryz.f3.params.toList args.toList ds p := hA0
  rw [Tryz.params3] at hA hval
  obtain ⟨v0, v1, v2, d0, d1, d2, p0, p1, p2, rfl, rfl, rfl, h0, h1, h2⟩ := trodAll_three hA
  obtain ⟨rfl, rfl⟩ := trodVars_none hV
  obtain ⟨k, rfl, rfl, rfl, hk⟩ := open_int Tryz.underlying3 (hval 0 3 v0 rfl rfl) h0
  obtain ⟨s, rfl, rfl, rfl, hs⟩ := open_string Tryz.underlying9 (hval 1 9 v1 rfl rfl) h1
  obtain ⟨n, hn, rfl, rfl, rfl⟩ := open_words (t := 24) (e := 22) (k := 8) (by kernel_rfl) (by kernel_rfl) (by kernel_rfl) (by kernel_rfl) (hval 2 24 v2 rfl rfl) h2
  simp only [List.append_nil] at hW'
  refine (law_EngineNames k s n W (names_of hL)).mono fun e W' ⟨he, hkp⟩ => ?_
  subst he
  exact ⟨_, rfl, post_of_keeps (pa := []) (pv := []) hW' (fun _ _ _ => trodAll_mk1 (shut_bool Tryz.underlying4 _))
    (fun sp _ => trodAll_mk3 (shut_int Tryz.underlying3 hk) (shut_string Tryz.underlying9 hs) (shut_words (t := 24) (e := 22) (k := 8) (by kernel_rfl) (by kernel_rfl) (by kernel_rfl) (by kernel_rfl))) (fun _ _ => rfl) rfl hkp (ok_one (by kernel_rfl) rfl (okWide_bool_mk Tryz.underlying4 _))⟩

theorem holds : Rows.EngineNamesSaid :=
  OpenClaim.holds_of_wide 3 Tryz.f3 rfl rfl rfl rfl rfl rfl rfl ⟨rfl, rfl, rfl, rfl, rfl⟩ rfl rfl rfl rfl rfl (by kernel_rfl) Tryz.func3 (by kernel_rfl)
    (of_decide_eq_true (by kernel_rfl)) (by unfold Func.isWrapper; first | (rw [if_pos (by decide +kernel)]; kernel_rfl) | (rw [if_neg (by decide +kernel)]; exact ⟨rfl, rfl⟩))
    (fun os started H enc _ => lifted os started H enc)

theorem card_holds : Rows.EngineNamesCardSaid :=
  Claim7.holds_tied_plain_at .later [] [.data] true Rows.engineNamesCard.stood.harness Rows.engineNamesCard.stood.looks holds (fun _ h => by cases h) (by kernel_rfl) (fun _ h => by cases h) engineNames_row_tie rfl ⟨rfl, rfl⟩ (by kernel_rfl) rfl
    (fun f fn hf hfn => by
      obtain rfl : f = 3 := Option.some.inj ((show Tryz.prog.funcNamed "radicand/radicandlaw23.EngineNames" = some 3 by kernel_rfl).symm.trans hf) |>.symm
      obtain rfl : fn = Tryz.f3 := (Option.some.inj (Tryz.func3.symm.trans hfn)).symm
      exact ⟨by kernel_rfl, fun j t ht => by
        rw [Tryz.params3] at ht
        have hm : t ∈ [3, 9, 24] := by simpa using Array.mem_of_getElem? ht
        have hall : ([3, 9, 24].all fun u => !Tryz.prog.wantsStandIn u) = true := by kernel_rfl
        exact (show Tryz.prog.wantsStandIn t = false by simpa using List.all_eq_true.1 hall t hm)⟩)
    (by kernel_rfl)

end Go.Proofs.YtggchelniblipaaGreatDoor.RwEN
