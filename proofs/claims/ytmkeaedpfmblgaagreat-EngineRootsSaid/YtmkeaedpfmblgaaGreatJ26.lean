/- What plain rows have in common: arguments that are arrays of words, opened and shut. -/
import Derived.Test.YtmkeaedpfmblgaaGreatJ03
import Derived.Test.YtmkeaedpfmblgaaGreatRows
import Derived.Test.YtmkeaedpfmblgaaGreatChecked
import Derived.ProofKit
import Derived.OpenShut
import Derived.LaidMore
import Derived.Lay
import Derived.Lib.LaidTab
import Derived.Stop.Joined
import Derived.JoinedOf
namespace Go.Proofs.YtmkeaedpfmblgaaGreat.Rd
open Go Go.RowKit Go.ChangeShapes
set_option linter.unusedVariables false
set_option linter.unusedSimpArgs false
set_option maxRecDepth 100000

theorem words_of (cs : Array Value) : ∀ k, (∀ i < k, ∃ z : Nat, z < B ∧ cs[i]? = some (.int .u64 (z : Nat))) → ∃ n, n < B ^ k ∧ ∀ i < k, cs[i]? = some (.int .u64 (lb n i : Nat))
  | 0, _ => ⟨0, by simp, fun i h => by omega⟩
  | k + 1, h => by
    obtain ⟨n, hn, hi⟩ := words_of cs k (fun i hi => h i (by omega))
    obtain ⟨z, hz, hc⟩ := h k (by omega)
    refine ⟨n + z * B ^ k, ?_, fun i hik => ?_⟩
    · have : (z + 1) * B ^ k ≤ B * B ^ k := Nat.mul_le_mul_right _ hz
      rw [Nat.add_mul, Nat.one_mul] at this
      rw [Nat.pow_succ']; omega
    · rw [lb_add_at n z k i hn hz]
      by_cases e : i = k
      · subst e; rw [if_pos rfl]; exact hc
      · rw [if_neg e]; exact hi i (by omega)

section
variable {H : Type} {enc : TypeId × Value → H} {P : Program} {w : World} {base : Nat} {sp : Nat → Bool} {held : Bool}
/-- What an array of words reads as. -/
def wordsD (H : Type) (k n : Nat) : DataW H := .agg ((List.range k).map fun i => .lit (.int .u64 (lb n i : Nat)))

theorem open_words {r : Reach} {b0 : Nat} {t e : TypeId} {k : Nat} {v : Value} {d : DataW H} {ps : List MemPlace} (ht : P.underlying t = some (.array k e)) (he : P.underlying e = some (.int .u64)) (hce : P.cellsOf e = 1) (hct : P.cellsOf t = k)
    (hv : Value.okWide P w r b0 t v) (hd : DataW.Trod enc P w base sp held t v d ps) : ∃ n, n < B ^ k ∧ v = .agg (wc k n) ∧ d = wordsD H k n ∧ ps = [] := by
  simp only [Value.okWide, ht] at hv
  obtain ⟨cs, rfl, hsz, _⟩ := hv
  rw [hct] at hsz
  obtain ⟨fuel, hf⟩ := hd
  obtain ⟨xs, m, rfl, hx, hcl, hxl, hel⟩ := DataW.trod_array ht hf
  have hc : ∀ i < k, ∃ z : Nat, z < B ∧ cs[i]? = some (.int .u64 (z : Nat)) ∧ xs[i]? = some (.lit (.int .u64 (z : Nat)), []) := by
    intro i hi
    have h1 := hel i hi
    rw [hce, Nat.mul_one, List.getElem?_eq_getElem (by omega)] at h1
    obtain ⟨z, h2, h3, h4⟩ := DataW.trod_int he h1
    have hz : 0 ≤ z ∧ z < 18446744073709551616 := by
      simp [Lit.wf, IntKind.min, IntKind.max, IntKind.signed, IntKind.bits] at h4
      omega
    obtain ⟨y, rfl⟩ : ∃ y : Nat, z = y := ⟨z.toNat, by omega⟩
    refine ⟨y, by rw [B_val]; omega, ?_, by rw [List.getElem?_eq_getElem (by omega), h3]⟩
    have h2' : (cs.toList.drop i).take 1 = [.int .u64 (y : Int)] := h2
    have h5 : ((cs.toList.drop i).take 1)[0]? = some (.int .u64 (y : Int)) := by rw [h2']; rfl
    have h6 : cs.toList[i]? = some (.int .u64 (y : Int)) := by simpa [List.getElem?_take, List.getElem?_drop] using h5
    simpa using h6
  obtain ⟨n, hn, hni⟩ := words_of cs k (fun i hi => by obtain ⟨z, h1, h2, _⟩ := hc i hi; exact ⟨z, h1, h2⟩)
  have hcs : cs = wc k n := by
    apply Array.ext_getElem?
    intro i
    by_cases hi : i < k
    · rw [hni i hi, wc_get k n i hi]
    · rw [Array.getElem?_eq_none (by omega), Array.getElem?_eq_none (by simp; omega)]
  have hxs : xs = (List.range k).map fun i => ((.lit (.int .u64 (lb n i : Nat)), []) : DataW H × List MemPlace) := by
    apply List.ext_getElem?
    intro i
    by_cases hi : i < k
    · obtain ⟨z, _, h2, h3⟩ := hc i hi
      have := hni i hi
      rw [h2] at this
      have hz : (z : Int) = (lb n i : Nat) := by injection this with h; injection h
      rw [h3, hz]
      simp [hi]
    · rw [List.getElem?_eq_none (by omega), List.getElem?_eq_none (by simp; omega)]
  have hx' := Prod.mk.inj hx
  refine ⟨n, hn, by rw [hcs], ?_, ?_⟩
  · rw [hx'.1, hxs]; simp [wordsD, Function.comp_def]
  · rw [hx'.2, hxs]; simp

theorem mapM_all {α β : Type} {f : α → Option β} {g : α → β} : ∀ {l : List α}, (∀ a ∈ l, f a = some (g a)) → l.mapM f = some (l.map g)
  | [], _ => rfl
  | a :: l, h => by
    rw [List.mapM_cons, h a List.mem_cons_self, mapM_all (fun b hb => h b (List.mem_cons_of_mem _ hb))]
    rfl

theorem shut_words {t e : TypeId} {k n : Nat} (ht : P.underlying t = some (.array k e)) (he : P.underlying e = some (.int .u64)) (hce : P.cellsOf e = 1) (hct : P.cellsOf t = k) : DataW.Trod enc P w base sp held t (.agg (wc k n)) (wordsD H k n) [] := by
  have hl : (Value.agg (wc k n)).cells.toList.length = P.cellsOf t := by
    show (wc k n).toList.length = _
    simp [hct]
  obtain ⟨m, hm⟩ : ∃ m, ((List.range k).mapM fun i => DataW.trod enc P w base sp held m e (((Value.agg (wc k n)).cells.toList.drop (i * P.cellsOf e)).take (P.cellsOf e))) = some ((List.range k).map fun i => ((.lit (.int .u64 (lb n i : Nat)), []) : DataW H × List MemPlace)) := by
    refine ⟨1, ?_⟩
    apply mapM_all
    intro i hi
    have hik := List.mem_range.1 hi
    rw [hce, Nat.mul_one]
    have hone : (((Value.agg (wc k n)).cells.toList.drop i).take 1) = [.int .u64 (lb n i : Nat)] := by
      show ((wc k n).toList.drop i).take 1 = _
      apply List.ext_getElem?
      intro j
      rw [List.getElem?_take]
      rcases j with _ | j
      · simp [wc, hik]
      · simp
    rw [hone]
    have hwf : (Lit.int .u64 (lb n i : Nat)).wf = true := by
      have := lb_lt n i
      rw [B_val] at this
      simp [Lit.wf, IntKind.min, IntKind.max, IntKind.signed, IntKind.bits]
      omega
    unfold DataW.trod
    rw [he]
    simp [hwf]
  refine ⟨m + 1, ?_⟩
  unfold DataW.trod
  rw [ht]
  simp only [hl, if_true, hm, Option.map_some]
  simp [wordsD, Function.comp_def]
end

end Go.Proofs.YtmkeaedpfmblgaaGreat.Rd

namespace Go.Proofs.YtmkeaedpfmblgaaGreat.Rw
open Go Go.ChangeShapes Go.WideShapes Go.ChangeAt Go.RowKit Go.Proofs.YtmkeaedpfmblgaaGreat.Rd

theorem own : ownKnob Tryz.prog.godebug = none := by kernel_rfl

section
variable {H : Type} {enc : TypeId × Value → H} {P : Program}
theorem post_of_keeps {f : Func} {s : ChangeSpec} {apart fresh handsOn again : Bool} {W W' : World} {args : Array Value} {v : Value} {ds gs : List (DataW H)} {before pa pv : List MemPlace}
    (hW : DataW.Whole enc P f.params.toList s.vars apart W args.toList ds gs before)
    (hres : ∀ (b : Nat) (sp : Nat → Bool) (hd : Bool), DataW.TrodAll enc P W' b sp hd f.resultTypes.toList (v.resultList f.resultTypes.size) (s.fn H (ds ++ gs)).results [])
    (hargs : ∀ sp : Nat → Bool, (∀ p ∈ before, sp p.block = true) → DataW.TrodAll enc P W' 0 sp true f.params.toList args.toList (s.fn H (ds ++ gs)).args pa)
    (hvars : ∀ sp : Nat → Bool, (∀ p ∈ before, sp p.block = true) → DataW.TrodVars enc P W' sp s.vars (s.fn H (ds ++ gs)).vars pv)
    (hps : before = pa ++ pv) (hk : Keeps [] W W')
    (hok : ∀ (j : Nat) (t : TypeId) (r : Value), f.resultTypes[j]? = some t → (v.resultList f.resultTypes.size)[j]? = some r → Value.okWide P W' .any 0 t r) :
    s.post enc P f apart fresh handsOn again W args v W' := by
  have hold : ∀ p ∈ before, (fun b => decide (b < W.heap.size)) p.block = true := fun p hp => by simpa using hW.lt p hp
  have hlt : ∀ p ∈ before, p.block < W.heap.size := hW.lt
  refine ⟨ds, gs, before, [], pa, pv, hW, hres _ _ _, hargs _ hold, hvars _ hold, World.keptBut_mono (fun p hp => ⟨hp, ?_⟩) (hk.below.frame (· ∈ before)), fun _ => ?_⟩
  · rw [hps, List.mem_append] at hp
    exact Or.inr hp
  · obtain ⟨_, _, _, _, _, hz, hn⟩ := hW
    refine ⟨hok, _, _, ([] ++ pa) ++ pv, ⟨[] ++ pa, pv, trodAll_append (hargs _ (fun _ _ => rfl)) (hres _ _ _), hvars _ (fun _ _ => rfl), rfl, ?_, ?_⟩, ?_⟩
    · intro b off hp
      have hp' : MemPlace.cell b off ∈ before := by rw [hps]; simpa using hp
      rw [hk.below.frozen (hlt _ hp')]
      exact hz b off hp'
    · intro ha
      have := hn ha
      rw [hps] at this
      simpa using this
    · intro p hp _
      rw [hps]
      simpa using hp
end

end Go.Proofs.YtmkeaedpfmblgaaGreat.Rw
