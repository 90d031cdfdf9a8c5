/- EngineCounts: the law answers true for every input, given the kit's model of the program; each argument reads afterwards as before; no further condition (the variable of srt's table may hold any numbers). -/
import Derived.Test.YtggchelniblipaaGreatJ02
import Derived.Test.YtggchelniblipaaGreatRows
import Derived.Test.YtggchelniblipaaGreatChecked
import Derived.ProofKit
import Derived.OpenShut
import Derived.LaidMore
import Derived.Lay
import Derived.Lib.LaidTab
import Derived.Stop.Joined
import Derived.JoinedOf
import Derived.Test.YtggchelniblipaaGreatJ31
import Derived.HandedShaped
import Derived.ChangeSlices
namespace Go.Proofs.YtggchelniblipaaGreat.Rd
open Go Go.RowKit Go.ChangeShapes
set_option linter.unusedVariables false
set_option linter.unusedSimpArgs false
set_option maxRecDepth 100000

theorem words_of (cs : Array Value) : ∀ k, (∀ i < k, ∃ z : Nat, z < B ∧ cs[i]? = some (.int .u64 (z : Nat))) → ∃ n, n < B ^ k ∧ ∀ i < k, cs[i]? = some (.int .u64 (lb n i : Nat))
  | 0, _ => ⟨0, by simp, fun i h => by omega⟩
  | k + 1, h => by
    obtain ⟨n, hn, hi⟩ := words_of cs k (fun i hi => h i (by omega))
    obtain ⟨z, hz, hc⟩ := h k (by omega)
    refine ⟨n + z * B ^ k, ?_, fun i hik => ?_⟩
    · have : (z + 1) * B ^ k ≤ B * B ^ k := Nat.mul_le_mul_right _ hz
      rw [Nat.add_mul, Nat.one_mul] at this
      rw [Nat.pow_succ']; omega
    · rw [lb_add_at n z k i hn hz]
      by_cases e : i = k
      · subst e; rw [if_pos rfl]; exact hc
      · rw [if_neg e]; exact hi i (by omega)

section
variable {H : Type} {enc : TypeId × Value → H} {P : Program} {w : World} {base : Nat} {sp : Nat → Bool} {held : Bool}
/-- What an array of words reads as. -/
def wordsD (H : Type) (k n : Nat) : DataW H := .agg ((List.range k).map fun i => .lit (.int .u64 (lb n i : Nat)))

theorem open_words {r : Reach} {b0 : Nat} {t e : TypeId} {k : Nat} {v : Value} {d : DataW H} {ps : List MemPlace} (ht : P.underlying t = some (.array k e)) (he : P.underlying e = some (.int .u64)) (hce : P.cellsOf e = 1) (hct : P.cellsOf t = k)
    (hv : Value.okWide P w r b0 t v) (hd : DataW.Trod enc P w base sp held t v d ps) : ∃ n, n < B ^ k ∧ v = .agg (wc k n) ∧ d = wordsD H k n ∧ ps = [] := by
  simp only [Value.okWide, ht] at hv
  obtain ⟨cs, rfl, hsz, _⟩ := hv
  rw [hct] at hsz
  obtain ⟨fuel, hf⟩ := hd
  obtain ⟨xs, m, rfl, hx, hcl, hxl, hel⟩ := DataW.trod_array ht hf
  have hc : ∀ i < k, ∃ z : Nat, z < B ∧ cs[i]? = some (.int .u64 (z : Nat)) ∧ xs[i]? = some (.lit (.int .u64 (z : Nat)), []) := by
    intro i hi
    have h1 := hel i hi
    rw [hce, Nat.mul_one, List.getElem?_eq_getElem (by omega)] at h1
    obtain ⟨z, h2, h3, h4⟩ := DataW.trod_int he h1
    have hz : 0 ≤ z ∧ z < 18446744073709551616 := by
      simp [Lit.wf, IntKind.min, IntKind.max, IntKind.signed, IntKind.bits] at h4
      omega
    obtain ⟨y, rfl⟩ : ∃ y : Nat, z = y := ⟨z.toNat, by omega⟩
    refine ⟨y, by rw [B_val]; omega, ?_, by rw [List.getElem?_eq_getElem (by omega), h3]⟩
    have h2' : (cs.toList.drop i).take 1 = [.int .u64 (y : Int)] := h2
    have h5 : ((cs.toList.drop i).take 1)[0]? = some (.int .u64 (y : Int)) := by rw [h2']; rfl
    have h6 : cs.toList[i]? = some (.int .u64 (y : Int)) := by simpa [List.getElem?_take, List.getElem?_drop] using h5
    simpa using h6
  obtain ⟨n, hn, hni⟩ := words_of cs k (fun i hi => by obtain ⟨z, h1, h2, _⟩ := hc i hi; exact ⟨z, h1, h2⟩)
  have hcs : cs = wc k n := by
    apply Array.ext_getElem?
    intro i
    by_cases hi : i < k
    · rw [hni i hi, wc_get k n i hi]
    · rw [Array.getElem?_eq_none (by omega), Array.getElem?_eq_none (by simp; omega)]
  have hxs : xs = (List.range k).map fun i => ((.lit (.int .u64 (lb n i : Nat)), []) : DataW H × List MemPlace) := by
    apply List.ext_getElem?
    intro i
    by_cases hi : i < k
    · obtain ⟨z, _, h2, h3⟩ := hc i hi
      have := hni i hi
      rw [h2] at this
      have hz : (z : Int) = (lb n i : Nat) := by injection this with h; injection h
      rw [h3, hz]
      simp [hi]
    · rw [List.getElem?_eq_none (by omega), List.getElem?_eq_none (by simp; omega)]
  have hx' := Prod.mk.inj hx
  refine ⟨n, hn, by rw [hcs], ?_, ?_⟩
  · rw [hx'.1, hxs]; simp [wordsD, Function.comp_def]
  · rw [hx'.2, hxs]; simp

theorem mapM_all {α β : Type} {f : α → Option β} {g : α → β} : ∀ {l : List α}, (∀ a ∈ l, f a = some (g a)) → l.mapM f = some (l.map g)
  | [], _ => rfl
  | a :: l, h => by
    rw [List.mapM_cons, h a List.mem_cons_self, mapM_all (fun b hb => h b (List.mem_cons_of_mem _ hb))]
    rfl

theorem shut_words {t e : TypeId} {k n : Nat} (ht : P.underlying t = some (.array k e)) (he : P.underlying e = some (.int .u64)) (hce : P.cellsOf e = 1) (hct : P.cellsOf t = k) : DataW.Trod enc P w base sp held t (.agg (wc k n)) (wordsD H k n) [] := by
  have hl : (Value.agg (wc k n)).cells.toList.length = P.cellsOf t := by
    show (wc k n).toList.length = _
    simp [hct]
  obtain ⟨m, hm⟩ : ∃ m, ((List.range k).mapM fun i => DataW.trod enc P w base sp held m e (((Value.agg (wc k n)).cells.toList.drop (i * P.cellsOf e)).take (P.cellsOf e))) = some ((List.range k).map fun i => ((.lit (.int .u64 (lb n i : Nat)), []) : DataW H × List MemPlace)) := by
    refine ⟨1, ?_⟩
    apply mapM_all
    intro i hi
    have hik := List.mem_range.1 hi
    rw [hce, Nat.mul_one]
    have hone : (((Value.agg (wc k n)).cells.toList.drop i).take 1) = [.int .u64 (lb n i : Nat)] := by
      show ((wc k n).toList.drop i).take 1 = _
      apply List.ext_getElem?
      intro j
      rw [List.getElem?_take]
      rcases j with _ | j
      · simp [wc, hik]
      · simp
    rw [hone]
    have hwf : (Lit.int .u64 (lb n i : Nat)).wf = true := by
      have := lb_lt n i
      rw [B_val] at this
      simp [Lit.wf, IntKind.min, IntKind.max, IntKind.signed, IntKind.bits]
      omega
    unfold DataW.trod
    rw [he]
    simp [hwf]
  refine ⟨m + 1, ?_⟩
  unfold DataW.trod
  rw [ht]
  simp only [hl, if_true, hm, Option.map_some]
  simp [wordsD, Function.comp_def]
end

end Go.Proofs.YtggchelniblipaaGreat.Rd

namespace Go.Proofs.YtggchelniblipaaGreat.Rw
open Go Go.ChangeShapes Go.WideShapes Go.ChangeAt Go.RowKit Go.Proofs.YtggchelniblipaaGreat.Rd

theorem own : ownKnob Tryz.prog.godebug = none := by kernel_rfl

section
variable {H : Type} {enc : TypeId × Value → H} {P : Program}
theorem post_of_keeps {f : Func} {s : ChangeSpec} {apart fresh handsOn again : Bool} {W W' : World} {args : Array Value} {v : Value} {ds gs : List (DataW H)} {before pa pv : List MemPlace}
    (hW : DataW.Whole enc P f.params.toList s.vars apart W args.toList ds gs before)
    (hres : ∀ (b : Nat) (sp : Nat → Bool) (hd : Bool), DataW.TrodAll enc P W' b sp hd f.resultTypes.toList (v.resultList f.resultTypes.size) (s.fn H (ds ++ gs)).results [])
    (hargs : ∀ sp : Nat → Bool, (∀ p ∈ before, sp p.block = true) → DataW.TrodAll enc P W' 0 sp true f.params.toList args.toList (s.fn H (ds ++ gs)).args pa)
    (hvars : ∀ sp : Nat → Bool, (∀ p ∈ before, sp p.block = true) → DataW.TrodVars enc P W' sp s.vars (s.fn H (ds ++ gs)).vars pv)
    (hps : before = pa ++ pv) (hk : Keeps [] W W')
    (hok : ∀ (j : Nat) (t : TypeId) (r : Value), f.resultTypes[j]? = some t → (v.resultList f.resultTypes.size)[j]? = some r → Value.okWide P W' .any 0 t r) :
    s.post enc P f apart fresh handsOn again W args v W' := by
  have hold : ∀ p ∈ before, (fun b => decide (b < W.heap.size)) p.block = true := fun p hp => by simpa using hW.lt p hp
  have hlt : ∀ p ∈ before, p.block < W.heap.size := hW.lt
  refine ⟨ds, gs, before, [], pa, pv, hW, hres _ _ _, hargs _ hold, hvars _ hold, World.keptBut_mono (fun p hp => ⟨hp, ?_⟩) (hk.below.frame (· ∈ before)), fun _ => ?_⟩
  · rw [hps, List.mem_append] at hp
    exact Or.inr hp
  · obtain ⟨_, _, _, _, _, hz, hn⟩ := hW
    refine ⟨hok, _, _, ([] ++ pa) ++ pv, ⟨[] ++ pa, pv, trodAll_append (hargs _ (fun _ _ => rfl)) (hres _ _ _), hvars _ (fun _ _ => rfl), rfl, ?_, ?_⟩, ?_⟩
    · intro b off hp
      have hp' : MemPlace.cell b off ∈ before := by rw [hps]; simpa using hp
      rw [hk.below.frozen (hlt _ hp')]
      exact hz b off hp'
    · intro ha
      have := hn ha
      rw [hps] at this
      simpa using this
    · intro p hp _
      rw [hps]
      simpa using hp
end

end Go.Proofs.YtggchelniblipaaGreat.Rw

namespace Go.Proofs.YtggchelniblipaaGreat.RwEC
open Go Go.ChangeShapes Go.WideShapes Go.ChangeAt Go.RowKit Go.Proofs.YtggchelniblipaaGreat.Rd Go.Proofs.YtggchelniblipaaGreat.Rw

set_option maxRecDepth 100000 in
/-- The table's variable holds thirty-two numbers, in every world of the statement. -/
theorem tab_shaped {W : World} (h : W.ShapedOpen Tryz.prog) : ∃ tc, TabOk tc ∧ TabIn tc W := by
  obtain ⟨cs, hh, hs, hr⟩ := h.1 0 (Array.replicate 32 (.int .i64 0)) 212 (of_decide_eq_true (by kernel_rfl)) (by kernel_rfl)
  obtain ⟨ts, hts, _, hall⟩ := hr (by kernel_rfl)
  have hc : Tryz.prog.cellTypes Tryz.prog.depth 212 = some (List.replicate 32 3) := by kernel_rfl
  rw [hc] at hts
  injection hts with hts
  subst hts
  have hsz : cs.size = 32 := by rw [hs]; rfl
  refine ⟨cs, ⟨hsz, fun i hi => ?_⟩, hh⟩
  have hget : cs[i]? = some (cs[i]'(by omega)) := Array.getElem?_eq_getElem (by omega)
  obtain ⟨u, hu, hok⟩ := hall i _ hget
  have : u = 3 := by
    rw [List.length_replicate, Nat.mod_eq_of_lt hi, List.getElem?_replicate, if_pos hi] at hu
    injection hu with hu
    exact hu.symm
  subst this
  rw [hget]
  unfold Cell.ok at hok
  rw [Tryz.underlying3] at hok
  cases hv : cs[i]'(by omega) <;> rw [hv] at hok <;> simp at hok
  case int k' n => exact ⟨n, by rw [hok.1]⟩

theorem cell_keeps {w w' : World} (k : Keeps [] w w') {x : Addr} {v : Value} (h : w.cell? x = some v) : w'.cell? x = some v := by
  have e := World.cell?_spot h
  obtain ⟨b, i, s⟩ := x
  simp only at e
  subst e
  exact k.cell h

set_option maxRecDepth 100000 in
theorem lifted (os : Os) (started : os.Started) (H : Type) (enc : TypeId × Value → H) :
    ReturnsInHanded {} Tryz.checked os 3 .any (Rows.engineCountsSpec.pre6 enc Tryz.prog Tryz.f3 Rows.engineCountsRow.domain false)
      (Rows.engineCountsSpec.post enc Tryz.prog Tryz.f3 false true false false) := by
  refine returnsInHanded_of_change_shaped (C := Tryz.checked) own started (by kernel_rfl) Tryz.func3
    (ChangeSpec.witness6 (enc := enc) (C := Tryz.checked) false ⟨#[], #[.slice none 0 0, W 0, W 0], []⟩ 8 (by kernel_rfl) (by kernel_rfl) (by kernel_rfl) (by kernel_rfl)) ?_
  intro W base args ds gs before hval0 hW hc _ hsh _
  obtain ⟨tc, htc, htab⟩ := tab_shaped hsh
  have hval : ∀ (j : Nat) t v, Tryz.f3.params[j]? = some t → args[j]? = some v → Value.okWide Tryz.prog W .any base t v := hval0
  have hW' := hW
  obtain ⟨p, q, hA0, hV, rfl, _, _⟩ := hW
  have hA : DataW.TrodAll enc Tryz.prog W 0 (fun _ => true) true Tryz.f3.params.toList args.toList ds p := hA0
  rw [Tryz.params3] at hA hval
  obtain ⟨v0, v1, v2, d0, d1, d2, p0, p1, p2, rfl, rfl, rfl, h0, h1, h2⟩ := trodAll_three hA
  obtain ⟨rfl, rfl⟩ := trodVars_none hV
  obtain ⟨n, hn, rfl, rfl, rfl⟩ := open_words (t := 25) (e := 23) (k := 8) (by kernel_rfl) (by kernel_rfl) (by kernel_rfl) (by kernel_rfl) (hval 1 25 v1 rfl rfl) h1
  obtain ⟨d, hd, rfl, rfl, rfl⟩ := open_words (t := 25) (e := 23) (k := 8) (by kernel_rfl) (by kernel_rfl) (by kernel_rfl) (by kernel_rfl) (hval 2 25 v2 rfl rfl) h2
  obtain ⟨a, len, cap, rfl⟩ := okWide_slice Tryz.underlying22 (hval 0 22 v0 rfl rfl)
  simp only [List.append_nil] at hW'
  obtain ⟨fuel, hf⟩ := h0
  have hsw : ∀ (W' : World) (sp : Nat → Bool) (m : Nat), DataW.Trod enc Tryz.prog W' 0 sp true 25 (.agg (wc 8 m)) (wordsD H 8 m) [] := fun W' sp m => shut_words (t := 25) (e := 23) (k := 8) (by kernel_rfl) (by kernel_rfl) (by kernel_rfl) (by kernel_rfl)
  rcases open_ints Tryz.underlying22 Tryz.underlying3 (by kernel_rfl) hf with ⟨hcs, hx⟩ | ⟨a', len', cap', zs, hcs, _, hl, hm, hz, hx, hcell, hwz⟩
  · simp [Value.cells] at hcs
    obtain ⟨rfl, rfl, rfl⟩ := hcs
    simp only [Prod.mk.injEq] at hx
    obtain ⟨rfl, rfl⟩ := hx
    refine (law_EngineCounts tc htc none 0 0 (by omega) n d (by rw [M_eq]; exact hn) (by rw [M_eq]; exact hd) W htab (fun i h => by omega)).mono fun e W' ⟨he, hk⟩ => ?_
    subst he
    exact ⟨_, rfl, post_of_keeps (pa := []) (pv := []) hW' (fun _ _ _ => trodAll_mk1 (shut_bool Tryz.underlying4 _)) (fun sp _ => trodAll_mk3 (shut_slice_nil Tryz.underlying22) (hsw _ _ _) (hsw _ _ _)) (fun _ _ => rfl) rfl hk (ok_one (by kernel_rfl) rfl (okWide_bool_mk Tryz.underlying4 _))⟩
  · simp [Value.cells] at hcs
    obtain ⟨rfl, rfl, rfl⟩ := hcs
    simp only [Prod.mk.injEq] at hx
    obtain ⟨rfl, rfl⟩ := hx
    simp only [if_true] at hz
    have hml : maxLen = 9223372036854775807 := by decide
    have hcells : ∀ i, i < len → ∃ b off z, some a' = some (⟨b, off, none⟩ : Addr) ∧ -9223372036854775808 ≤ z ∧ z ≤ 9223372036854775807 ∧ W.cell? ⟨b, off + i, none⟩ = some (.int .i64 z) := fun i hi => by
      have h := hcell i (by omega)
      have hs : a'.spot = none := by
        have := World.cell?_spot (hcell 0 (by omega))
        simpa [Addr.add] using this
      obtain ⟨b, off, s⟩ := a'
      simp only at hs
      subst hs
      rw [add_plain] at h
      have hb := bounds_i64 (hwz (zs.getD i 0) (by
        have : zs.getD i 0 = zs[i]'(by omega) := by simp [List.getD, show i < zs.length by omega]
        rw [this]; exact List.getElem_mem (by omega)))
      exact ⟨b, off, _, rfl, hb.1, hb.2, h⟩
    refine (law_EngineCounts tc htc (some a') len cap (by omega) n d (by rw [M_eq]; exact hn) (by rw [M_eq]; exact hd) W htab hcells).mono fun e W' ⟨he, hk⟩ => ?_
    subst he
    refine ⟨_, rfl, post_of_keeps (pa := MemPlace.row a' zs.length ++ []) (pv := []) hW' (fun _ _ _ => trodAll_mk1 (shut_bool Tryz.underlying4 _)) (fun sp hsp => trodAll_mk3 ⟨_, shut_ints 0 Tryz.underlying22 Tryz.underlying3 (by kernel_rfl) (Nat.zero_le _) hl hm ?_ (fun i hi => cell_keeps hk (hcell i hi)) hwz⟩ (hsw _ _ _) (hsw _ _ _)) (fun _ _ => rfl) (by simp) hk (ok_one (by kernel_rfl) rfl (okWide_bool_mk Tryz.underlying4 _))⟩
    rcases Nat.eq_zero_or_pos zs.length with h0 | h0
    · split <;> omega
    · have : sp a'.block = true := hsp (.cell a'.block (a'.off + 0)) (by simp [MemPlace.row]; exact h0)
      rw [this, if_pos rfl]; exact hz

theorem holds : Rows.EngineCountsSaid :=
  OpenClaim.holds_of_wide 3 Tryz.f3 rfl rfl rfl rfl rfl rfl rfl ⟨rfl, rfl, rfl, rfl, rfl⟩ rfl rfl rfl rfl rfl (by kernel_rfl) Tryz.func3 (by kernel_rfl)
    (of_decide_eq_true (by kernel_rfl)) (by unfold Func.isWrapper; first | (rw [if_pos (by decide +kernel)]; kernel_rfl) | (rw [if_neg (by decide +kernel)]; exact ⟨rfl, rfl⟩))
    (fun os started H enc _ => lifted os started H enc)

end Go.Proofs.YtggchelniblipaaGreat.RwEC
