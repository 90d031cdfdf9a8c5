/- An argument that is a case of a law: three ints and two words, opened and shut. -/
import Derived.Test.YtefpoconpeggpaaGreatDoorJ42
import Derived.Test.YtefpoconpeggpaaGreatDoorJ04
import Derived.Test.YtefpoconpeggpaaGreatDoorRows
import Derived.Test.YtefpoconpeggpaaGreatDoorChecked
import Derived.ProofKit
import Derived.OpenShut
import Derived.LaidMore
import Derived.Lay
import Derived.Lib.LaidTab
import Derived.Stop.Joined
import Derived.JoinedOf
import Derived.Test.YtefpoconpeggpaaGreatDoorJ06
import Derived.Lib.SmallJoins
import Derived.ChangeArms
import Derived.Test.YtefpoconpeggpaaGreatDoorJ03
import Derived.Test.YtefpoconpeggpaaGreatDoorJ39
namespace Go.Proofs.YtefpoconpeggpaaGreatDoor.Rd
open Go Go.RowKit
set_option linter.unusedVariables false
set_option linter.unusedSimpArgs false
set_option maxRecDepth 100000

theorem law_RootHypots (k f m : Int) (a b : Nat) (ha : a < M2) (hb : b < M2) (w0 : World) (hF : FmtIn w0) : GivesAt Tryz.prog 5 #[.agg (caseC k f m a b)] (.bool true) w0 := by
  by_cases hkk : k < 1 ∨ 4 < k
  · exact law_RootHypots_A k f m a b ha hb w0 hF hkk
  · by_cases hmm : 1 ≤ m ∧ m ≤ 5
    · cases h1 : sB f a
      · exact law_RootHypots_B k f m a b ha hb w0 hF hkk (.inr (.inl h1))
      · cases h2 : sB f b
        · exact law_RootHypots_B k f m a b ha hb w0 hF hkk (.inr (.inr (.inl h2)))
        · obtain ⟨fn, rfl, f1, f4, hs1⟩ := sB_yes h1
          rw [sB_nat f1 f4] at h2
          by_cases hg : fn ≠ 4 ∧ uExp fn a - uExp fn b ≤ 40 ∧ -40 ≤ uExp fn a - uExp fn b
          · exact law_RootHypots_C k m fn a b ha hb w0 hF hkk hmm f1 f4 hg.1 hs1 h2 hg.2.1 hg.2.2
          · exact law_RootHypots_B k fn m a b ha hb w0 hF hkk (.inr (.inr (.inr ⟨fn, rfl, by
              by_cases h4 : fn = 4
              · exact .inl h4
              · exact .inr (fun h => hg ⟨h4, h⟩)⟩)))
    · exact law_RootHypots_B k f m a b ha hb w0 hF hkk (.inl (by omega))

end Go.Proofs.YtefpoconpeggpaaGreatDoor.Rd

namespace Go.Proofs.YtefpoconpeggpaaGreatDoor.Rd
open Go Go.RowKit Go.ChangeShapes
set_option linter.unusedVariables false
set_option linter.unusedSimpArgs false
set_option maxRecDepth 100000

section
variable {H : Type} {enc : TypeId × Value → H} {P : Program} {w : World} {base : Nat} {sp : Nat → Bool} {held : Bool}
end

end Go.Proofs.YtefpoconpeggpaaGreatDoor.Rd

namespace Go.Proofs.YtefpoconpeggpaaGreatDoor.Rw
open Go Go.ChangeShapes Go.WideShapes Go.ChangeAt Go.RowKit Go.Proofs.YtefpoconpeggpaaGreatDoor.Rd

theorem own : ownKnob Tryz.prog.godebug = none := by kernel_rfl

section
variable {H : Type} {enc : TypeId × Value → H} {P : Program}
theorem post_of_keeps {f : Func} {s : ChangeSpec} {apart fresh handsOn again : Bool} {W W' : World} {args : Array Value} {v : Value} {ds gs : List (DataW H)} {before pa pv : List MemPlace}
    (hW : DataW.Whole enc P f.params.toList s.vars apart W args.toList ds gs before)
    (hres : ∀ (b : Nat) (sp : Nat → Bool) (hd : Bool), DataW.TrodAll enc P W' b sp hd f.resultTypes.toList (v.resultList f.resultTypes.size) (s.fn H (ds ++ gs)).results [])
    (hargs : ∀ sp : Nat → Bool, (∀ p ∈ before, sp p.block = true) → DataW.TrodAll enc P W' 0 sp true f.params.toList args.toList (s.fn H (ds ++ gs)).args pa)
    (hvars : ∀ sp : Nat → Bool, (∀ p ∈ before, sp p.block = true) → DataW.TrodVars enc P W' sp s.vars (s.fn H (ds ++ gs)).vars pv)
    (hps : before = pa ++ pv) (hk : Keeps [] W W')
    (hok : ∀ (j : Nat) (t : TypeId) (r : Value), f.resultTypes[j]? = some t → (v.resultList f.resultTypes.size)[j]? = some r → Value.okWide P W' .any 0 t r) :
    s.post enc P f apart fresh handsOn again W args v W' := by
  have hold : ∀ p ∈ before, (fun b => decide (b < W.heap.size)) p.block = true := fun p hp => by simpa using hW.lt p hp
  have hlt : ∀ p ∈ before, p.block < W.heap.size := hW.lt
  refine ⟨ds, gs, before, [], pa, pv, hW, hres _ _ _, hargs _ hold, hvars _ hold, World.keptBut_mono (fun p hp => ⟨hp, ?_⟩) (hk.below.frame (· ∈ before)), fun _ => ?_⟩
  · rw [hps, List.mem_append] at hp
    exact Or.inr hp
  · obtain ⟨_, _, _, _, _, hz, hn⟩ := hW
    refine ⟨hok, _, _, ([] ++ pa) ++ pv, ⟨[] ++ pa, pv, trodAll_append (hargs _ (fun _ _ => rfl)) (hres _ _ _), hvars _ (fun _ _ => rfl), rfl, ?_, ?_⟩, ?_⟩
    · intro b off hp
      have hp' : MemPlace.cell b off ∈ before := by rw [hps]; simpa using hp
      rw [hk.below.frozen (hlt _ hp')]
      exact hz b off hp'
    · intro ha
      have := hn ha
      rw [hps] at this
      simpa using this
    · intro p hp _
      rw [hps]
      simpa using hp
end

end Go.Proofs.YtefpoconpeggpaaGreatDoor.Rw

namespace Go.Proofs.YtefpoconpeggpaaGreatDoor.Rw
open Go Go.ChangeShapes Go.WideShapes Go.ChangeAt Go.RowKit Go.Joins Go.Deep Go.Proofs.YtefpoconpeggpaaGreatDoor.Rd

section
variable {H : Type} {enc : TypeId × Value → H} {P : Program} {w : World} {base : Nat} {sp : Nat → Bool} {held : Bool}
/-- A row of a table: a text, three numbers. -/
theorem row4_of {fuel : Nat} {e : TypeId} {f0 f1 f2 f3 : Field} {cs : List Value} {s : ByteArray} {a b c : Int} {x : DataW H × List MemPlace} (he : P.underlying e = some (.struct #[f0, f1, f2, f3]))
    (o0 : f0.offset = 0 ∧ P.cellsOf f0.type = 1 ∧ P.underlying f0.type = some .string) (o1 : f1.offset = 1 ∧ P.cellsOf f1.type = 1 ∧ P.underlying f1.type = some (.int .i64)) (o2 : f2.offset = 2 ∧ P.cellsOf f2.type = 1 ∧ P.underlying f2.type = some (.int .i64)) (o3 : f3.offset = 3 ∧ P.cellsOf f3.type = 1 ∧ P.underlying f3.type = some (.int .i64))
    (h : DataW.trod enc P w base sp held fuel e cs = some x) (hx : x.1 = .agg [.lit (.string s.data.toList), .lit (.int .i64 a), .lit (.int .i64 b), .lit (.int .i64 c)]) :
    cs[0]? = some (.string s) ∧ cs[1]? = some (.int .i64 a) ∧ cs[2]? = some (.int .i64 b) ∧ cs[3]? = some (.int .i64 c) := by
  obtain ⟨y0, y1, y2, y3, n, rfl, hl, h0, h1, h2, h3⟩ := trod_struct4 he h
  rw [o0.1, o0.2.1] at h0
  rw [o1.1, o1.2.1] at h1
  rw [o2.1, o2.2.1] at h2
  rw [o3.1, o3.2.1] at h3
  obtain ⟨s', e0, rfl, _⟩ := DataW.trod_string o0.2.2 h0
  obtain ⟨a', e1, rfl, _⟩ := DataW.trod_int o1.2.2 h1
  obtain ⟨b', e2, rfl, _⟩ := DataW.trod_int o2.2.2 h2
  obtain ⟨c', e3, rfl, _⟩ := DataW.trod_int o3.2.2 h3
  simp only [DataW.agg.injEq, List.cons.injEq, DataW.lit.injEq, Lit.string.injEq, Lit.int.injEq, true_and, and_true] at hx
  obtain ⟨hs, rfl, rfl, rfl⟩ := hx
  obtain rfl : s' = s := bytes_inj hs
  have key : ∀ (k : Nat) (v : Value), (cs.drop k).take 1 = [v] → cs[k]? = some v := fun k v hk => by
    have := congrArg (·[0]?) hk
    simpa [List.getElem?_take, List.getElem?_drop] using this
  exact ⟨key 0 _ e0, key 1 _ e1, key 2 _ e2, key 3 _ e3⟩
end

set_option maxRecDepth 100000 in
theorem fmt_of {W : World} (h : laidMetH Tryz.prog [("radicand/format.known", Rows.laid_radicand_format_known)] W) : FmtIn W := by
  rw [MakeChecks.laidMetH_plain _ _ _ (by kernel_rfl)] at h
  obtain ⟨ps, ⟨g', t', cs, fuel, p, q, hg', ht', hvar, hd, _, _⟩, _⟩ := h
  have hg : Tryz.prog.globalNamed "radicand/format.known" = some 0 := by kernel_rfl
  have hty : (Tryz.prog.globals[0]?).map (·.type) = some 160 := by kernel_rfl
  obtain rfl := Option.some.inj (hg.symm.trans hg')
  obtain rfl := Option.some.inj (hty.symm.trans ht')
  obtain ⟨xs, m, _, hx, hcl, hxl, hel⟩ := DataW.trod_array (n := 5) (e := 159) Tryz.underlying160 hd
  have hce : Tryz.prog.cellsOf 159 = 4 := by kernel_rfl
  have hx1 := (Prod.mk.inj hx).1
  have row : ∀ (i : Nat) (s : ByteArray) (a b c : Int) (x : DataW Unit × List MemPlace), i < 5 → xs[i]? = some x → x.1 = .agg [.lit (.string s.data.toList), .lit (.int .i64 a), .lit (.int .i64 b), .lit (.int .i64 c)] →
      cs[i * 4]? = some (.string s) ∧ cs[i * 4 + 1]? = some (.int .i64 a) ∧ cs[i * 4 + 2]? = some (.int .i64 b) ∧ cs[i * 4 + 3]? = some (.int .i64 c) := fun i s a b c x hi hxi hxe => by
    have h1 := hel i hi
    rw [hce, hxi] at h1
    obtain ⟨r0, r1, r2, r3⟩ := row4_of (s := s) (a := a) (b := b) (c := c) Tryz.underlying159 (by refine ⟨rfl, ?_, ?_⟩ <;> kernel_rfl) (by refine ⟨rfl, ?_, ?_⟩ <;> kernel_rfl) (by refine ⟨rfl, ?_, ?_⟩ <;> kernel_rfl) (by refine ⟨rfl, ?_, ?_⟩ <;> kernel_rfl) h1 hxe
    simp only [List.getElem?_take, List.getElem?_drop, Array.getElem?_toList] at r0 r1 r2 r3
    exact ⟨by simpa using r0, by simpa using r1, by simpa using r2, by simpa using r3⟩
  match xs, hxl with
  | [x0, x1, x2, x3, x4], _ =>
    simp only [Rows.laid_radicand_format_known, List.map_cons, List.map_nil, DataW.agg.injEq, List.cons.injEq, and_true] at hx1
    obtain ⟨e0, e1, e2, e3, e4⟩ := hx1
    obtain ⟨a0, a1, a2, a3⟩ := row 0 ⟨#[]⟩ 0 0 0 x0 (by omega) rfl e0.symm
    obtain ⟨b0, b1, b2, b3⟩ := row 1 ⟨#[98, 105, 110, 97, 114, 121, 49, 54]⟩ 16 11 5 x1 (by omega) rfl e1.symm
    obtain ⟨c0, c1, c2, c3⟩ := row 2 ⟨#[98, 105, 110, 97, 114, 121, 51, 50]⟩ 32 24 8 x2 (by omega) rfl e2.symm
    obtain ⟨d0, d1, d2, d3⟩ := row 3 ⟨#[98, 105, 110, 97, 114, 121, 54, 52]⟩ 64 53 11 x3 (by omega) rfl e3.symm
    obtain ⟨g0, g1, g2, g3⟩ := row 4 ⟨#[98, 105, 110, 97, 114, 121, 49, 50, 56]⟩ 128 113 15 x4 (by omega) rfl e4.symm
    intro i v hi
    rw [World.var?_cell hg hvar i]
    have hi20 : i < 20 := by
      have := (Array.getElem?_eq_some_iff.1 hi).1
      exact this
    rw [← hi]
    have hall : ∀ j, j < 20 → cs[j]? = knC[j]? := by
      intro j hj
      obtain rfl | rfl | rfl | rfl | rfl | rfl | rfl | rfl | rfl | rfl | rfl | rfl | rfl | rfl | rfl | rfl | rfl | rfl | rfl | rfl : j = 0 ∨ j = 1 ∨ j = 2 ∨ j = 3 ∨ j = 4 ∨ j = 5 ∨ j = 6 ∨ j = 7 ∨ j = 8 ∨ j = 9 ∨ j = 10 ∨ j = 11 ∨ j = 12 ∨ j = 13 ∨ j = 14 ∨ j = 15 ∨ j = 16 ∨ j = 17 ∨ j = 18 ∨ j = 19 := by omega
      · exact a0
      · exact a1
      · exact a2
      · exact a3
      · exact b0
      · exact b1
      · exact b2
      · exact b3
      · exact c0
      · exact c1
      · exact c2
      · exact c3
      · exact d0
      · exact d1
      · exact d2
      · exact d3
      · exact g0
      · exact g1
      · exact g2
      · exact g3
    exact hall i hi20

end Go.Proofs.YtefpoconpeggpaaGreatDoor.Rw

namespace Go.Proofs.YtefpoconpeggpaaGreatDoor.Rw
open Go Go.ChangeShapes Go.WideShapes Go.ChangeAt Go.RowKit Go.Joins Go.Deep Go.Proofs.YtefpoconpeggpaaGreatDoor.Rd

section
variable {H : Type} {enc : TypeId × Value → H} {P : Program} {w : World} {base : Nat} {sp : Nat → Bool} {held : Bool}
/-- What a word reads as. -/
def wordD (H : Type) (m : Nat) : DataW H := .agg [.lit (.int .u64 (lb m 1 : Nat)), .lit (.int .u64 (lb m 0 : Nat))]
theorem u64_nat {z : Int} (h : (Lit.int .u64 z).wf = true) : ∃ y : Nat, z = y ∧ y < B := by
  have hz : 0 ≤ z ∧ z < 18446744073709551616 := by
    simp [Lit.wf, IntKind.min, IntKind.max, IntKind.signed, IntKind.bits] at h
    omega
  exact ⟨z.toNat, by omega, by rw [B_val]; omega⟩
theorem lb_wf (n i : Nat) : (Lit.int .u64 (lb n i : Nat)).wf = true := by
  have := lb_lt n i
  rw [B_val] at this
  simp [Lit.wf, IntKind.min, IntKind.max, IntKind.signed, IntKind.bits]
  omega
theorem word_of (x y : Nat) (hx : x < B) (hy : y < B) : ∃ m, m < M2 ∧ lb m 1 = x ∧ lb m 0 = y := by
  refine ⟨y + x * B ^ 1, ?_, ?_, ?_⟩
  · have : (x + 1) * B ≤ B * B := Nat.mul_le_mul_right _ hx
    rw [Nat.add_mul, Nat.one_mul] at this
    rw [Nat.pow_one]
    show _ < B ^ 2
    rw [Nat.pow_two]; omega
  · rw [lb_add_at y x 1 1 (by rw [Nat.pow_one]; exact hy) hx, if_pos rfl]
  · rw [lb_add_at y x 1 0 (by rw [Nat.pow_one]; exact hy) hx, if_neg (by omega), lb_zero, Nat.mod_eq_of_lt hy]

end
end Go.Proofs.YtefpoconpeggpaaGreatDoor.Rw

namespace Go.Proofs.YtefpoconpeggpaaGreatDoor.Rw
open Go Go.ChangeShapes Go.WideShapes Go.ChangeAt Go.RowKit Go.Joins Go.Deep Go.Proofs.YtefpoconpeggpaaGreatDoor.Rd

section
variable {H : Type} {enc : TypeId × Value → H} {P : Program} {w : World} {base : Nat} {sp : Nat → Bool} {held : Bool}
def caseD (H : Type) (k f m : Int) (a b : Nat) : DataW H := .agg [.lit (.int .i64 k), .lit (.int .i64 f), .lit (.int .i64 m), wordD H a, wordD H b]
/-- A field: where it lies, how many cells it has, what it is. -/
def FieldIs (P : Program) (f : Field) (o n : Nat) (d : TypeDesc) : Prop := f.offset = o ∧ P.cellsOf f.type = n ∧ P.underlying f.type = some d
theorem one_cell {cs : List Value} {k : Nat} {v : Value} (h : (cs.drop k).take 1 = [v]) : cs[k]? = some v := by
  have := congrArg (·[0]?) h
  simpa [List.getElem?_take, List.getElem?_drop] using this
/-- A word among the cells of a struct. -/
theorem word_in {fuel : Nat} {t : TypeId} {g0 g1 : Field} {cs : List Value} {x : DataW H × List MemPlace} (ht : P.underlying t = some (.struct #[g0, g1])) (o0 : FieldIs P g0 0 1 (.int .u64)) (o1 : FieldIs P g1 1 1 (.int .u64)) (h : DataW.trod enc P w base sp held fuel t cs = some x) :
    ∃ m, m < M2 ∧ cs[0]? = some (.int .u64 (lb m 1 : Nat)) ∧ cs[1]? = some (.int .u64 (lb m 0 : Nat)) ∧ x = (wordD H m, []) := by
  obtain ⟨y0, y1, n, rfl, hl, h0, h1⟩ := trod_struct2 ht h
  rw [o0.1, o0.2.1] at h0
  rw [o1.1, o1.2.1] at h1
  obtain ⟨z0, e0, rfl, w0⟩ := DataW.trod_int o0.2.2 h0
  obtain ⟨z1, e1, rfl, w1⟩ := DataW.trod_int o1.2.2 h1
  obtain ⟨x, rfl, hx⟩ := u64_nat w0
  obtain ⟨y, rfl, hy⟩ := u64_nat w1
  obtain ⟨m, hm, e2, e3⟩ := word_of x y hx hy
  refine ⟨m, hm, ?_, ?_, ?_⟩
  · rw [one_cell e0, e2]
  · rw [one_cell e1, e3]
  · unfold wordD; rw [e2, e3]; rfl

theorem open_case {r : Reach} {b0 : Nat} {t : TypeId} {fK fF fM fA fB g0 g1 : Field} {v : Value} {d : DataW H} {ps : List MemPlace} (hs : P.underlying t = some (.struct #[fK, fF, fM, fA, fB])) (hC : P.cellsOf t = 7) (oK : FieldIs P fK 0 1 (.int .i64)) (oF : FieldIs P fF 1 1 (.int .i64)) (oM : FieldIs P fM 2 1 (.int .i64)) (oA : FieldIs P fA 3 2 (.struct #[g0, g1])) (oB : FieldIs P fB 5 2 (.struct #[g0, g1]))
    (q0 : FieldIs P g0 0 1 (.int .u64)) (q1 : FieldIs P g1 1 1 (.int .u64)) (hv : Value.okWide P w r b0 t v) (hd : DataW.Trod enc P w base sp held t v d ps) :
    ∃ k f m a b, a < M2 ∧ b < M2 ∧ v = .agg (caseC k f m a b) ∧ d = caseD H k f m a b ∧ ps = [] ∧ (Lit.int .i64 k).wf = true ∧ (Lit.int .i64 f).wf = true ∧ (Lit.int .i64 m).wf = true := by
  obtain ⟨cs, rfl, hsz⟩ := okWide_struct hs hv
  obtain ⟨fuel, hf⟩ := hd
  obtain ⟨xs, n, _, hx, hl, hlen, hel⟩ := DataW.trod_struct hs hf
  match xs, hlen with
  | [y0, y1, y2, y3, y4], _ =>
    have h0 := hel 0 fK rfl
    have h1 := hel 1 fF rfl
    have h2 := hel 2 fM rfl
    have h3 := hel 3 fA rfl
    have h4 := hel 4 fB rfl
    rw [oK.1, oK.2.1] at h0
    rw [oF.1, oF.2.1] at h1
    rw [oM.1, oM.2.1] at h2
    rw [oA.1, oA.2.1] at h3
    rw [oB.1, oB.2.1] at h4
    obtain ⟨k, e0, e0', wk⟩ := DataW.trod_int oK.2.2 h0
    obtain ⟨f, e1, e1', wf⟩ := DataW.trod_int oF.2.2 h1
    obtain ⟨m, e2, e2', wm⟩ := DataW.trod_int oM.2.2 h2
    obtain ⟨a, ha, a0, a1, ea⟩ := word_in oA.2.2 q0 q1 h3
    obtain ⟨b, hb, b0, b1, eb⟩ := word_in oB.2.2 q0 q1 h4
    obtain ⟨hx1, hx2⟩ := Prod.mk.inj hx
    have c0 := one_cell e0
    have c1 := one_cell e1
    have c2 := one_cell e2
    simp only [Value.cells, List.getElem?_take, List.getElem?_drop, Array.getElem?_toList] at c0 c1 c2 a0 a1 b0 b1
    have c3 : cs[3]? = some (.int .u64 (lb a 1 : Nat)) := by simpa using a0
    have c4 : cs[4]? = some (.int .u64 (lb a 0 : Nat)) := by simpa using a1
    have c5 : cs[5]? = some (.int .u64 (lb b 1 : Nat)) := by simpa using b0
    have c6 : cs[6]? = some (.int .u64 (lb b 0 : Nat)) := by simpa using b1
    refine ⟨k, f, m, a, b, ha, hb, ?_, ?_, ?_, wk, wf, wm⟩
    · congr 1
      apply Array.ext_getElem?
      intro i
      by_cases hi : i < 7
      · obtain rfl | rfl | rfl | rfl | rfl | rfl | rfl : i = 0 ∨ i = 1 ∨ i = 2 ∨ i = 3 ∨ i = 4 ∨ i = 5 ∨ i = 6 := by omega
        · rw [c0]; rfl
        · rw [c1]; rfl
        · rw [c2]; rfl
        · rw [c3]; rfl
        · rw [c4]; rfl
        · rw [c5]; rfl
        · rw [c6]; rfl
      · rw [Array.getElem?_eq_none (by rw [hsz, hC]; omega), Array.getElem?_eq_none (by rw [caseC_size]; omega)]
    · rw [hx1, e0', e1', e2', ea, eb]; rfl
    · rw [hx2, e0', e1', e2', ea, eb]; rfl
theorem shut_case {t : TypeId} {fK fF fM fA fB g0 g1 : Field} {k f m : Int} {a b : Nat} (hs : P.underlying t = some (.struct #[fK, fF, fM, fA, fB])) (hC : P.cellsOf t = 7) (oK : FieldIs P fK 0 1 (.int .i64)) (oF : FieldIs P fF 1 1 (.int .i64)) (oM : FieldIs P fM 2 1 (.int .i64)) (oA : FieldIs P fA 3 2 (.struct #[g0, g1])) (oB : FieldIs P fB 5 2 (.struct #[g0, g1]))
    (q0 : FieldIs P g0 0 1 (.int .u64)) (q1 : FieldIs P g1 1 1 (.int .u64)) (wk : (Lit.int .i64 k).wf = true) (wf : (Lit.int .i64 f).wf = true) (wm : (Lit.int .i64 m).wf = true) : DataW.Trod enc P w base sp held t (.agg (caseC k f m a b)) (caseD H k f m a b) [] := by
  have word : ∀ (x : Nat) (tw : TypeId), P.underlying tw = some (.struct #[g0, g1]) → P.cellsOf tw = 2 → DataW.trod enc P w base sp held 2 tw [.int .u64 (lb x 1 : Nat), .int .u64 (lb x 0 : Nat)] = some (wordD H x, []) := fun x tw h1 h2 => by
    have := trod_struct2_mk (enc := enc) (w := w) (base := base) (spare := sp) (held := held) (n := 1) (cs := [.int .u64 (lb x 1 : Nat), .int .u64 (lb x 0 : Nat)]) (y0 := (.lit (.int .u64 (lb x 1 : Nat)), [])) (y1 := (.lit (.int .u64 (lb x 0 : Nat)), [])) h1 (by rw [h2]; rfl)
      (by rw [q0.1, q0.2.1]; exact trod_int_mk 0 q0.2.2 (lb_wf _ _)) (by rw [q1.1, q1.2.1]; exact trod_int_mk 0 q1.2.2 (lb_wf _ _))
    exact this
  have hts := trod_struct_mk (enc := enc) (w := w) (base := base) (spare := sp) (held := held) (n := 2) (cs := (caseC k f m a b).toList) (xs := [(.lit (.int .i64 k), []), (.lit (.int .i64 f), []), (.lit (.int .i64 m), []), (wordD H a, []), (wordD H b, [])]) hs (by rw [hC, Array.length_toList, caseC_size])
    (by
      have e0 : DataW.trod enc P w base sp held 2 fK.type (((caseC k f m a b).toList.drop fK.offset).take (P.cellsOf fK.type)) = some (.lit (.int .i64 k), []) := by rw [oK.1, oK.2.1]; exact trod_int_mk 1 oK.2.2 wk
      have e1 : DataW.trod enc P w base sp held 2 fF.type (((caseC k f m a b).toList.drop fF.offset).take (P.cellsOf fF.type)) = some (.lit (.int .i64 f), []) := by rw [oF.1, oF.2.1]; exact trod_int_mk 1 oF.2.2 wf
      have e2 : DataW.trod enc P w base sp held 2 fM.type (((caseC k f m a b).toList.drop fM.offset).take (P.cellsOf fM.type)) = some (.lit (.int .i64 m), []) := by rw [oM.1, oM.2.1]; exact trod_int_mk 1 oM.2.2 wm
      have e3 : DataW.trod enc P w base sp held 2 fA.type (((caseC k f m a b).toList.drop fA.offset).take (P.cellsOf fA.type)) = some (wordD H a, []) := by rw [oA.1, oA.2.1]; exact word a _ oA.2.2 oA.2.1
      have e4 : DataW.trod enc P w base sp held 2 fB.type (((caseC k f m a b).toList.drop fB.offset).take (P.cellsOf fB.type)) = some (wordD H b, []) := by rw [oB.1, oB.2.1]; exact word b _ oB.2.2 oB.2.1
      simp [e0, e1, e2, e3, e4])
  exact ⟨3, hts⟩
end
end Go.Proofs.YtefpoconpeggpaaGreatDoor.Rw
