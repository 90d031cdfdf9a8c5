/- An argument that is a case of a law: three ints and two words, opened and shut. -/
import Derived.Test.YtefpoconpeggpaaGreatDoorL35
import Derived.Test.YtefpoconpeggpaaGreatDoorL04
import Derived.Test.YtefpoconpeggpaaGreatDoorRows
import Derived.Test.YtefpoconpeggpaaGreatDoorChecked
import Derived.ProofKit
import Derived.OpenShut
import Derived.LaidMore
import Derived.Lay
import Derived.Lib.LaidTab
import Derived.Stop.Joined
import Derived.JoinedOf
import Derived.Test.YtefpoconpeggpaaGreatDoorL06
import Derived.Lib.SmallJoins
import Derived.ChangeArms
import Derived.Test.YtefpoconpeggpaaGreatDoorL03
import Derived.Test.YtefpoconpeggpaaGreatDoorL33
namespace Go.Proofs.YtefpoconpeggpaaGreatDoor.Rd
open Go Go.RowKit
set_option linter.unusedVariables false
set_option linter.unusedSimpArgs false
set_option maxRecDepth 100000

theorem law_RootBetween (k : Nat) (hk8 : k < 256) (f : Int) (a : Nat) (ha : a < M2) (w0 : World) (hF : FmtIn w0) : GivesAt Tryz.prog 4 #[.int .u8 k, .int .i64 f, Wd a] (.bool true) w0 := by
  cases hs : sB f a
  · exact law_RootBetween_no k hk8 f a ha w0 hF hs
  · obtain ⟨fn, rfl, f1, f4, hsb⟩ := sB_yes hs
    rcases root_between fn a hsb with ⟨w, g5, g4, g1, g2, l, c⟩ | ⟨lw, hw, nw, g5, g4, g1, g2, ll, lh, hne, cl, ch, x1, x2, hcm⟩
    · exact law_RootBetween_A k hk8 fn f1 f4 a ha w0 hF hsb w g5 g4 g1 g2 l c
    · exact law_RootBetween_B k hk8 fn f1 f4 a ha w0 hF hsb lw hw nw g5 g4 g1 g2 ll lh hne cl ch x1 x2 hcm

end Go.Proofs.YtefpoconpeggpaaGreatDoor.Rd

namespace Go.Proofs.YtefpoconpeggpaaGreatDoor.Rd
open Go Go.RowKit Go.ChangeShapes
set_option linter.unusedVariables false
set_option linter.unusedSimpArgs false
set_option maxRecDepth 100000

section
variable {H : Type} {enc : TypeId × Value → H} {P : Program} {w : World} {base : Nat} {sp : Nat → Bool} {held : Bool}
end

end Go.Proofs.YtefpoconpeggpaaGreatDoor.Rd

namespace Go.Proofs.YtefpoconpeggpaaGreatDoor.Rw
open Go Go.ChangeShapes Go.WideShapes Go.ChangeAt Go.RowKit Go.Proofs.YtefpoconpeggpaaGreatDoor.Rd

theorem own : ownKnob Tryz.prog.godebug = none := by kernel_rfl

section
variable {H : Type} {enc : TypeId × Value → H} {P : Program}
theorem post_of_keeps {f : Func} {s : ChangeSpec} {apart fresh handsOn again : Bool} {W W' : World} {args : Array Value} {v : Value} {ds gs : List (DataW H)} {before pa pv : List MemPlace}
    (hW : DataW.Whole enc P f.params.toList s.vars apart W args.toList ds gs before)
    (hres : ∀ (b : Nat) (sp : Nat → Bool) (hd : Bool), DataW.TrodAll enc P W' b sp hd f.resultTypes.toList (v.resultList f.resultTypes.size) (s.fn H (ds ++ gs)).results [])
    (hargs : ∀ sp : Nat → Bool, (∀ p ∈ before, sp p.block = true) → DataW.TrodAll enc P W' 0 sp true f.params.toList args.toList (s.fn H (ds ++ gs)).args pa)
    (hvars : ∀ sp : Nat → Bool, (∀ p ∈ before, sp p.block = true) → DataW.TrodVars enc P W' sp s.vars (s.fn H (ds ++ gs)).vars pv)
    (hps : before = pa ++ pv) (hk : Keeps [] W W')
    (hok : ∀ (j : Nat) (t : TypeId) (r : Value), f.resultTypes[j]? = some t → (v.resultList f.resultTypes.size)[j]? = some r → Value.okWide P W' .any 0 t r) :
    s.post enc P f apart fresh handsOn again W args v W' := by
  have hold : ∀ p ∈ before, (fun b => decide (b < W.heap.size)) p.block = true := fun p hp => by simpa using hW.lt p hp
  have hlt : ∀ p ∈ before, p.block < W.heap.size := hW.lt
  refine ⟨ds, gs, before, [], pa, pv, hW, hres _ _ _, hargs _ hold, hvars _ hold, World.keptBut_mono (fun p hp => ⟨hp, ?_⟩) (hk.below.frame (· ∈ before)), fun _ => ?_⟩
  · rw [hps, List.mem_append] at hp
    exact Or.inr hp
  · obtain ⟨_, _, _, _, _, hz, hn⟩ := hW
    refine ⟨hok, _, _, ([] ++ pa) ++ pv, ⟨[] ++ pa, pv, trodAll_append (hargs _ (fun _ _ => rfl)) (hres _ _ _), hvars _ (fun _ _ => rfl), rfl, ?_, ?_⟩, ?_⟩
    · intro b off hp
      have hp' : MemPlace.cell b off ∈ before := by rw [hps]; simpa using hp
      rw [hk.below.frozen (hlt _ hp')]
      exact hz b off hp'
    · intro ha
      have := hn ha
      rw [hps] at this
      simpa using this
    · intro p hp _
      rw [hps]
      simpa using hp
end

end Go.Proofs.YtefpoconpeggpaaGreatDoor.Rw

namespace Go.Proofs.YtefpoconpeggpaaGreatDoor.Rw
open Go Go.ChangeShapes Go.WideShapes Go.ChangeAt Go.RowKit Go.Joins Go.Deep Go.Proofs.YtefpoconpeggpaaGreatDoor.Rd

section
variable {H : Type} {enc : TypeId × Value → H} {P : Program} {w : World} {base : Nat} {sp : Nat → Bool} {held : Bool}
/-- A row of a table: a text, three numbers. -/
theorem row4_of {fuel : Nat} {e : TypeId} {f0 f1 f2 f3 : Field} {cs : List Value} {s : ByteArray} {a b c : Int} {x : DataW H × List MemPlace} (he : P.underlying e = some (.struct #[f0, f1, f2, f3]))
    (o0 : f0.offset = 0 ∧ P.cellsOf f0.type = 1 ∧ P.underlying f0.type = some .string) (o1 : f1.offset = 1 ∧ P.cellsOf f1.type = 1 ∧ P.underlying f1.type = some (.int .i64)) (o2 : f2.offset = 2 ∧ P.cellsOf f2.type = 1 ∧ P.underlying f2.type = some (.int .i64)) (o3 : f3.offset = 3 ∧ P.cellsOf f3.type = 1 ∧ P.underlying f3.type = some (.int .i64))
    (h : DataW.trod enc P w base sp held fuel e cs = some x) (hx : x.1 = .agg [.lit (.string s.data.toList), .lit (.int .i64 a), .lit (.int .i64 b), .lit (.int .i64 c)]) :
    cs[0]? = some (.string s) ∧ cs[1]? = some (.int .i64 a) ∧ cs[2]? = some (.int .i64 b) ∧ cs[3]? = some (.int .i64 c) := by
  obtain ⟨y0, y1, y2, y3, n, rfl, hl, h0, h1, h2, h3⟩ := trod_struct4 he h
  rw [o0.1, o0.2.1] at h0
  rw [o1.1, o1.2.1] at h1
  rw [o2.1, o2.2.1] at h2
  rw [o3.1, o3.2.1] at h3
  obtain ⟨s', e0, rfl, _⟩ := DataW.trod_string o0.2.2 h0
  obtain ⟨a', e1, rfl, _⟩ := DataW.trod_int o1.2.2 h1
  obtain ⟨b', e2, rfl, _⟩ := DataW.trod_int o2.2.2 h2
  obtain ⟨c', e3, rfl, _⟩ := DataW.trod_int o3.2.2 h3
  simp only [DataW.agg.injEq, List.cons.injEq, DataW.lit.injEq, Lit.string.injEq, Lit.int.injEq, true_and, and_true] at hx
  obtain ⟨hs, rfl, rfl, rfl⟩ := hx
  obtain rfl : s' = s := bytes_inj hs
  have key : ∀ (k : Nat) (v : Value), (cs.drop k).take 1 = [v] → cs[k]? = some v := fun k v hk => by
    have := congrArg (·[0]?) hk
    simpa [List.getElem?_take, List.getElem?_drop] using this
  exact ⟨key 0 _ e0, key 1 _ e1, key 2 _ e2, key 3 _ e3⟩
end

set_option maxRecDepth 100000 in
theorem fmt_of {W : World} (h : laidMetH Tryz.prog [("radicand/format.known", Rows.laid_radicand_format_known)] W) : FmtIn W := by
  rw [MakeChecks.laidMetH_plain _ _ _ (by kernel_rfl)] at h
  obtain ⟨ps, ⟨g', t', cs, fuel, p, q, hg', ht', hvar, hd, _, _⟩, _⟩ := h
  have hg : Tryz.prog.globalNamed "radicand/format.known" = some 0 := by kernel_rfl
  have hty : (Tryz.prog.globals[0]?).map (·.type) = some 160 := by kernel_rfl
  obtain rfl := Option.some.inj (hg.symm.trans hg')
  obtain rfl := Option.some.inj (hty.symm.trans ht')
  obtain ⟨xs, m, _, hx, hcl, hxl, hel⟩ := DataW.trod_array (n := 5) (e := 159) Tryz.underlying160 hd
  have hce : Tryz.prog.cellsOf 159 = 4 := by kernel_rfl
  have hx1 := (Prod.mk.inj hx).1
  have row : ∀ (i : Nat) (s : ByteArray) (a b c : Int) (x : DataW Unit × List MemPlace), i < 5 → xs[i]? = some x → x.1 = .agg [.lit (.string s.data.toList), .lit (.int .i64 a), .lit (.int .i64 b), .lit (.int .i64 c)] →
      cs[i * 4]? = some (.string s) ∧ cs[i * 4 + 1]? = some (.int .i64 a) ∧ cs[i * 4 + 2]? = some (.int .i64 b) ∧ cs[i * 4 + 3]? = some (.int .i64 c) := fun i s a b c x hi hxi hxe => by
    have h1 := hel i hi
    rw [hce, hxi] at h1
    obtain ⟨r0, r1, r2, r3⟩ := row4_of (s := s) (a := a) (b := b) (c := c) Tryz.underlying159 (by refine ⟨rfl, ?_, ?_⟩ <;> kernel_rfl) (by refine ⟨rfl, ?_, ?_⟩ <;> kernel_rfl) (by refine ⟨rfl, ?_, ?_⟩ <;> kernel_rfl) (by refine ⟨rfl, ?_, ?_⟩ <;> kernel_rfl) h1 hxe
    simp only [List.getElem?_take, List.getElem?_drop, Array.getElem?_toList] at r0 r1 r2 r3
    exact ⟨by simpa using r0, by simpa using r1, by simpa using r2, by simpa using r3⟩
  match xs, hxl with
  | [x0, x1, x2, x3, x4], _ =>
    simp only [Rows.laid_radicand_format_known, List.map_cons, List.map_nil, DataW.agg.injEq, List.cons.injEq, and_true] at hx1
    obtain ⟨e0, e1, e2, e3, e4⟩ := hx1
    obtain ⟨a0, a1, a2, a3⟩ := row 0 ⟨#[]⟩ 0 0 0 x0 (by omega) rfl e0.symm
    obtain ⟨b0, b1, b2, b3⟩ := row 1 ⟨#[98, 105, 110, 97, 114, 121, 49, 54]⟩ 16 11 5 x1 (by omega) rfl e1.symm
    obtain ⟨c0, c1, c2, c3⟩ := row 2 ⟨#[98, 105, 110, 97, 114, 121, 51, 50]⟩ 32 24 8 x2 (by omega) rfl e2.symm
    obtain ⟨d0, d1, d2, d3⟩ := row 3 ⟨#[98, 105, 110, 97, 114, 121, 54, 52]⟩ 64 53 11 x3 (by omega) rfl e3.symm
    obtain ⟨g0, g1, g2, g3⟩ := row 4 ⟨#[98, 105, 110, 97, 114, 121, 49, 50, 56]⟩ 128 113 15 x4 (by omega) rfl e4.symm
    intro i v hi
    rw [World.var?_cell hg hvar i]
    have hi20 : i < 20 := by
      have := (Array.getElem?_eq_some_iff.1 hi).1
      exact this
    rw [← hi]
    have hall : ∀ j, j < 20 → cs[j]? = knC[j]? := by
      intro j hj
      obtain rfl | rfl | rfl | rfl | rfl | rfl | rfl | rfl | rfl | rfl | rfl | rfl | rfl | rfl | rfl | rfl | rfl | rfl | rfl | rfl : j = 0 ∨ j = 1 ∨ j = 2 ∨ j = 3 ∨ j = 4 ∨ j = 5 ∨ j = 6 ∨ j = 7 ∨ j = 8 ∨ j = 9 ∨ j = 10 ∨ j = 11 ∨ j = 12 ∨ j = 13 ∨ j = 14 ∨ j = 15 ∨ j = 16 ∨ j = 17 ∨ j = 18 ∨ j = 19 := by omega
      · exact a0
      · exact a1
      · exact a2
      · exact a3
      · exact b0
      · exact b1
      · exact b2
      · exact b3
      · exact c0
      · exact c1
      · exact c2
      · exact c3
      · exact d0
      · exact d1
      · exact d2
      · exact d3
      · exact g0
      · exact g1
      · exact g2
      · exact g3
    exact hall i hi20

end Go.Proofs.YtefpoconpeggpaaGreatDoor.Rw

namespace Go.Proofs.YtefpoconpeggpaaGreatDoor.Rw
open Go Go.ChangeShapes Go.WideShapes Go.ChangeAt Go.RowKit Go.Joins Go.Deep Go.Proofs.YtefpoconpeggpaaGreatDoor.Rd

section
variable {H : Type} {enc : TypeId × Value → H} {P : Program} {w : World} {base : Nat} {sp : Nat → Bool} {held : Bool}
/-- What a word reads as. -/
def wordD (H : Type) (m : Nat) : DataW H := .agg [.lit (.int .u64 (lb m 1 : Nat)), .lit (.int .u64 (lb m 0 : Nat))]
theorem u64_nat {z : Int} (h : (Lit.int .u64 z).wf = true) : ∃ y : Nat, z = y ∧ y < B := by
  have hz : 0 ≤ z ∧ z < 18446744073709551616 := by
    simp [Lit.wf, IntKind.min, IntKind.max, IntKind.signed, IntKind.bits] at h
    omega
  exact ⟨z.toNat, by omega, by rw [B_val]; omega⟩
theorem lb_wf (n i : Nat) : (Lit.int .u64 (lb n i : Nat)).wf = true := by
  have := lb_lt n i
  rw [B_val] at this
  simp [Lit.wf, IntKind.min, IntKind.max, IntKind.signed, IntKind.bits]
  omega
theorem word_of (x y : Nat) (hx : x < B) (hy : y < B) : ∃ m, m < M2 ∧ lb m 1 = x ∧ lb m 0 = y := by
  refine ⟨y + x * B ^ 1, ?_, ?_, ?_⟩
  · have : (x + 1) * B ≤ B * B := Nat.mul_le_mul_right _ hx
    rw [Nat.add_mul, Nat.one_mul] at this
    rw [Nat.pow_one]
    show _ < B ^ 2
    rw [Nat.pow_two]; omega
  · rw [lb_add_at y x 1 1 (by rw [Nat.pow_one]; exact hy) hx, if_pos rfl]
  · rw [lb_add_at y x 1 0 (by rw [Nat.pow_one]; exact hy) hx, if_neg (by omega), lb_zero, Nat.mod_eq_of_lt hy]

theorem open_word {r : Reach} {b0 : Nat} {t : TypeId} {f0 f1 : Field} {v : Value} {d : DataW H} {ps : List MemPlace} (hs : P.underlying t = some (.struct #[f0, f1])) (hone : oneCellFields P #[f0, f1] = true) (hC : P.cellsOf t = 2)
    (u0 : P.underlying f0.type = some (.int .u64)) (u1 : P.underlying f1.type = some (.int .u64)) (hv : Value.okWide P w r b0 t v) (hd : DataW.Trod enc P w base sp held t v d ps) : ∃ m, m < M2 ∧ v = Wd m ∧ d = wordD H m ∧ ps = [] := by
  obtain ⟨v0, v1, y0, y1, n, rfl, rfl, rfl, h0, h1⟩ := open_agg2 hs hone hC hv hd
  obtain ⟨z0, e0, rfl, w0⟩ := DataW.trod_int u0 h0
  obtain ⟨z1, e1, rfl, w1⟩ := DataW.trod_int u1 h1
  obtain ⟨x, rfl, hx⟩ := u64_nat w0
  obtain ⟨y, rfl, hy⟩ := u64_nat w1
  obtain ⟨m, hm, e2, e3⟩ := word_of x y hx hy
  simp only [List.cons.injEq, and_true] at e0 e1
  subst e0 e1
  exact ⟨m, hm, by unfold Wd wdc; rw [e2, e3], by unfold wordD; rw [e2, e3], rfl⟩
theorem shut_word {t : TypeId} {f0 f1 : Field} {m : Nat} (hs : P.underlying t = some (.struct #[f0, f1])) (hone : oneCellFields P #[f0, f1] = true) (hC : P.cellsOf t = 2)
    (u0 : P.underlying f0.type = some (.int .u64)) (u1 : P.underlying f1.type = some (.int .u64)) : DataW.Trod enc P w base sp held t (Wd m) (wordD H m) [] :=
  shut_agg2 (y0 := (.lit (.int .u64 (lb m 1 : Nat)), [])) (y1 := (.lit (.int .u64 (lb m 0 : Nat)), [])) hs hone hC ⟨1, by unfold DataW.trod; rw [u0]; simp [lb_wf]⟩ ⟨1, by unfold DataW.trod; rw [u1]; simp [lb_wf]⟩
end
end Go.Proofs.YtefpoconpeggpaaGreatDoor.Rw

namespace Go.Proofs.YtefpoconpeggpaaGreatDoor.Rw
open Go Go.ChangeShapes Go.WideShapes Go.ChangeAt Go.RowKit Go.Joins Go.Deep Go.Proofs.YtefpoconpeggpaaGreatDoor.Rd

section
variable {H : Type} {enc : TypeId × Value → H} {P : Program} {w : World} {base : Nat} {sp : Nat → Bool} {held : Bool}
end
end Go.Proofs.YtefpoconpeggpaaGreatDoor.Rw
