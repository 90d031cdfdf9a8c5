/- What the laid variables of chapter 34 hold. -/
import Derived.Test.YtoakmlopjeecoaaGreatDoorK05
import Derived.Test.YtoakmlopjeecoaaGreatDoorK13
import Derived.Test.YtoakmlopjeecoaaGreatDoorRows
import Derived.Lib.SmallJoins
import Derived.ChangeArms
import Derived.ProofKit
import Derived.OpenShut
import Derived.Test.YtoakmlopjeecoaaGreatDoorK03
import Derived.Test.YtoakmlopjeecoaaGreatDoorK08
import Derived.WideKeyArgs
import Derived.Carry
namespace Go.Proofs.YtoakmlopjeecoaaGreatDoor.Rw
open Go Go.ChangeShapes Go.WideShapes Go.ChangeAt Go.RowKit Go.Joins Go.Deep Go.Proofs.YtoakmlopjeecoaaGreatDoor.Rd

section
variable {H : Type} {enc : TypeId × Value → H} {P : Program} {w : World} {base : Nat} {sp : Nat → Bool} {held : Bool}
/-- A row of a table: a text, three numbers. -/
theorem row4_of {fuel : Nat} {e : TypeId} {f0 f1 f2 f3 : Field} {cs : List Value} {s : ByteArray} {a b c : Int} {x : DataW H × List MemPlace} (he : P.underlying e = some (.struct #[f0, f1, f2, f3]))
    (o0 : f0.offset = 0 ∧ P.cellsOf f0.type = 1 ∧ P.underlying f0.type = some .string) (o1 : f1.offset = 1 ∧ P.cellsOf f1.type = 1 ∧ P.underlying f1.type = some (.int .i64)) (o2 : f2.offset = 2 ∧ P.cellsOf f2.type = 1 ∧ P.underlying f2.type = some (.int .i64)) (o3 : f3.offset = 3 ∧ P.cellsOf f3.type = 1 ∧ P.underlying f3.type = some (.int .i64))
    (h : DataW.trod enc P w base sp held fuel e cs = some x) (hx : x.1 = .agg [.lit (.string s.data.toList), .lit (.int .i64 a), .lit (.int .i64 b), .lit (.int .i64 c)]) :
    cs[0]? = some (.string s) ∧ cs[1]? = some (.int .i64 a) ∧ cs[2]? = some (.int .i64 b) ∧ cs[3]? = some (.int .i64 c) := by
  obtain ⟨y0, y1, y2, y3, n, rfl, hl, h0, h1, h2, h3⟩ := trod_struct4 he h
  rw [o0.1, o0.2.1] at h0
  rw [o1.1, o1.2.1] at h1
  rw [o2.1, o2.2.1] at h2
  rw [o3.1, o3.2.1] at h3
  obtain ⟨s', e0, rfl, _⟩ := DataW.trod_string o0.2.2 h0
  obtain ⟨a', e1, rfl, _⟩ := DataW.trod_int o1.2.2 h1
  obtain ⟨b', e2, rfl, _⟩ := DataW.trod_int o2.2.2 h2
  obtain ⟨c', e3, rfl, _⟩ := DataW.trod_int o3.2.2 h3
  simp only [DataW.agg.injEq, List.cons.injEq, DataW.lit.injEq, Lit.string.injEq, Lit.int.injEq, true_and, and_true] at hx
  obtain ⟨hs, rfl, rfl, rfl⟩ := hx
  obtain rfl : s' = s := bytes_inj hs
  have key : ∀ (k : Nat) (v : Value), (cs.drop k).take 1 = [v] → cs[k]? = some v := fun k v hk => by
    have := congrArg (·[0]?) hk
    simpa [List.getElem?_take, List.getElem?_drop] using this
  exact ⟨key 0 _ e0, key 1 _ e1, key 2 _ e2, key 3 _ e3⟩
end

set_option maxRecDepth 100000 in
theorem fmt_of {W : World} (h : laidMetH Tryz.prog [("radicand/format.known", Rows.laid_radicand_format_known)] W) : FmtIn W := by
  rw [MakeChecks.laidMetH_plain _ _ _ (by kernel_rfl)] at h
  obtain ⟨ps, ⟨g', t', cs, fuel, p, q, hg', ht', hvar, hd, _, _⟩, _⟩ := h
  have hg : Tryz.prog.globalNamed "radicand/format.known" = some 2 := by kernel_rfl
  have hty : (Tryz.prog.globals[2]?).map (·.type) = some 126 := by kernel_rfl
  obtain rfl := Option.some.inj (hg.symm.trans hg')
  obtain rfl := Option.some.inj (hty.symm.trans ht')
  obtain ⟨xs, m, _, hx, hcl, hxl, hel⟩ := DataW.trod_array (n := 5) (e := 125) Tryz.underlying126 hd
  have hce : Tryz.prog.cellsOf 125 = 4 := by kernel_rfl
  have hx1 := (Prod.mk.inj hx).1
  have row : ∀ (i : Nat) (s : ByteArray) (a b c : Int) (x : DataW Unit × List MemPlace), i < 5 → xs[i]? = some x → x.1 = .agg [.lit (.string s.data.toList), .lit (.int .i64 a), .lit (.int .i64 b), .lit (.int .i64 c)] →
      cs[i * 4]? = some (.string s) ∧ cs[i * 4 + 1]? = some (.int .i64 a) ∧ cs[i * 4 + 2]? = some (.int .i64 b) ∧ cs[i * 4 + 3]? = some (.int .i64 c) := fun i s a b c x hi hxi hxe => by
    have h1 := hel i hi
    rw [hce, hxi] at h1
    obtain ⟨r0, r1, r2, r3⟩ := row4_of (s := s) (a := a) (b := b) (c := c) Tryz.underlying125 (by refine ⟨rfl, ?_, ?_⟩ <;> kernel_rfl) (by refine ⟨rfl, ?_, ?_⟩ <;> kernel_rfl) (by refine ⟨rfl, ?_, ?_⟩ <;> kernel_rfl) (by refine ⟨rfl, ?_, ?_⟩ <;> kernel_rfl) h1 hxe
    simp only [List.getElem?_take, List.getElem?_drop, Array.getElem?_toList] at r0 r1 r2 r3
    exact ⟨by simpa using r0, by simpa using r1, by simpa using r2, by simpa using r3⟩
  match xs, hxl with
  | [x0, x1, x2, x3, x4], _ =>
    simp only [Rows.laid_radicand_format_known, List.map_cons, List.map_nil, DataW.agg.injEq, List.cons.injEq, and_true] at hx1
    obtain ⟨e0, e1, e2, e3, e4⟩ := hx1
    obtain ⟨a0, a1, a2, a3⟩ := row 0 ⟨#[]⟩ 0 0 0 x0 (by omega) rfl e0.symm
    obtain ⟨b0, b1, b2, b3⟩ := row 1 ⟨#[98, 105, 110, 97, 114, 121, 49, 54]⟩ 16 11 5 x1 (by omega) rfl e1.symm
    obtain ⟨c0, c1, c2, c3⟩ := row 2 ⟨#[98, 105, 110, 97, 114, 121, 51, 50]⟩ 32 24 8 x2 (by omega) rfl e2.symm
    obtain ⟨d0, d1, d2, d3⟩ := row 3 ⟨#[98, 105, 110, 97, 114, 121, 54, 52]⟩ 64 53 11 x3 (by omega) rfl e3.symm
    obtain ⟨g0, g1, g2, g3⟩ := row 4 ⟨#[98, 105, 110, 97, 114, 121, 49, 50, 56]⟩ 128 113 15 x4 (by omega) rfl e4.symm
    intro i v hi
    rw [World.var?_cell hg hvar i]
    have hi20 : i < 20 := by
      have := (Array.getElem?_eq_some_iff.1 hi).1
      exact this
    rw [← hi]
    have hall : ∀ j, j < 20 → cs[j]? = knC[j]? := by
      intro j hj
      obtain rfl | rfl | rfl | rfl | rfl | rfl | rfl | rfl | rfl | rfl | rfl | rfl | rfl | rfl | rfl | rfl | rfl | rfl | rfl | rfl : j = 0 ∨ j = 1 ∨ j = 2 ∨ j = 3 ∨ j = 4 ∨ j = 5 ∨ j = 6 ∨ j = 7 ∨ j = 8 ∨ j = 9 ∨ j = 10 ∨ j = 11 ∨ j = 12 ∨ j = 13 ∨ j = 14 ∨ j = 15 ∨ j = 16 ∨ j = 17 ∨ j = 18 ∨ j = 19 := by omega
      · exact a0
      · exact a1
      · exact a2
      · exact a3
      · exact b0
      · exact b1
      · exact b2
      · exact b3
      · exact c0
      · exact c1
      · exact c2
      · exact c3
      · exact d0
      · exact d1
      · exact d2
      · exact d3
      · exact g0
      · exact g1
      · exact g2
      · exact g3
    exact hall i hi20

end Go.Proofs.YtoakmlopjeecoaaGreatDoor.Rw

namespace Go.Proofs.YtoakmlopjeecoaaGreatDoor.Rw
open Go Go.ChangeShapes Go.WideShapes Go.ChangeAt Go.RowKit Go.Joins Go.Deep Go.Proofs.YtoakmlopjeecoaaGreatDoor.Rd

section
variable {H : Type} {enc : TypeId × Value → H} {P : Program} {w : World} {base : Nat} {sp : Nat → Bool} {held : Bool}
theorem word_of (x y : Nat) (hx : x < B) (hy : y < B) : ∃ m, m < M2 ∧ lb m 1 = x ∧ lb m 0 = y := by
  refine ⟨y + x * B ^ 1, ?_, ?_, ?_⟩
  · have : (x + 1) * B ≤ B * B := Nat.mul_le_mul_right _ hx
    rw [Nat.add_mul, Nat.one_mul] at this
    rw [Nat.pow_one]
    show _ < B ^ 2
    rw [Nat.pow_two]; omega
  · rw [lb_add_at y x 1 1 (by rw [Nat.pow_one]; exact hy) hx, if_pos rfl]
  · rw [lb_add_at y x 1 0 (by rw [Nat.pow_one]; exact hy) hx, if_neg (by omega), lb_zero, Nat.mod_eq_of_lt hy]

end
end Go.Proofs.YtoakmlopjeecoaaGreatDoor.Rw

namespace Go.Proofs.YtoakmlopjeecoaaGreatDoor.Rw
open Go Go.ChangeShapes Go.WideShapes Go.ChangeAt Go.RowKit Go.Joins Go.Deep Go.Proofs.YtoakmlopjeecoaaGreatDoor.Rd
open Go.ChangeMaps (open_string shut_string)
set_option linter.unusedVariables false

section
variable {H : Type} {enc : TypeId × Value → H} {P : Program}
/-- An argument of which nothing has turned reads as it did. -/
theorem stays {t : TypeId} (hl : laidOutB P = true) (hr : P.readableRec t = true) (hrow : t < P.types.size) {W W' : World} {sp : Nat → Bool} {v : Value} {d : DataW H} {ps : List MemPlace}
    (h : DataW.Trod enc P W 0 (fun _ => true) true t v d ps) (hk : Keeps [] W W') (hlt : ∀ x ∈ ps, x.block < W.heap.size) (hs : ∀ x ∈ ps, sp x.block = true) : DataW.Trod enc P W' 0 sp true t v d ps :=
  WideElems.Trod_stays hl hr hrow h (fun x hx => hk.below.same (hlt x hx)) hs

/-- The cells of a struct or an array, each by its type. -/
theorem okWide_cells {w : World} {r : Reach} {b0 n : Nat} {t : TypeId} {v : Value} {ts : List TypeId} (hs : descAgg <$> P.underlying t = some true) (hC : P.cellsOf t = n) (hct : P.cellTypes P.depth t = some ts) (hl : ts.length = n) (hv : Value.okWide P w r b0 t v) :
    ∃ cs : Array Value, v = .agg cs ∧ cs.size = n ∧ ∀ (i : Nat) u, ts[i]? = some u → ∃ x, cs[i]? = some x ∧ Cell.okWide P w r b0 u x := by
  have h : ∃ cs, v = .agg cs ∧ cs.size = P.cellsOf t ∧ Row.okWide P w r b0 t cs := by
    unfold Value.okWide at hv
    cases hu : P.underlying t with
    | none => simp [hu] at hs
    | some d => cases d <;> simp [hu, descAgg] at hs hv <;> exact hv
  obtain ⟨cs, rfl, hsz, us, hus, _, hcell⟩ := h
  rw [hct] at hus
  obtain rfl := Option.some.inj hus
  refine ⟨cs, rfl, hsz.trans hC, fun i u hi => ?_⟩
  have hlt : i < n := by rw [← hl]; exact (List.getElem?_eq_some_iff.1 hi).1
  have hget : cs[i]? = some (cs[i]'(by omega)) := Array.getElem?_eq_getElem (by omega)
  obtain ⟨u', hu', hok⟩ := hcell i _ hget
  rw [hl, Nat.mod_eq_of_lt hlt, hi] at hu'
  obtain rfl := Option.some.inj hu'
  exact ⟨_, hget, hok⟩
theorem cell_int {w : World} {r : Reach} {b0 : Nat} {u : TypeId} {k : IntKind} {x : Value} (hu : P.underlying u = some (.int k)) (h : Cell.okWide P w r b0 u x) : ∃ n, x = .int k n ∧ k.min ≤ n ∧ n ≤ k.max := by
  unfold Cell.okWide at h
  rw [hu] at h
  cases x <;> simp [Cell.ok, hu, IntKind.has] at h
  obtain ⟨rfl, h1, h2⟩ := h
  exact ⟨_, rfl, h1, h2⟩
theorem cell_u64 {w : World} {r : Reach} {b0 : Nat} {u : TypeId} {x : Value} (hu : P.underlying u = some (.int .u64)) (h : Cell.okWide P w r b0 u x) : ∃ n : Nat, x = .int .u64 n ∧ n < B := by
  obtain ⟨n, rfl, h1, h2⟩ := cell_int hu h
  have e1 : IntKind.u64.min = 0 := rfl
  have e2 : IntKind.u64.max = 18446744073709551615 := rfl
  rw [e1] at h1
  rw [e2] at h2
  exact ⟨n.toNat, by congr 1; omega, by rw [B_val]; omega⟩
theorem cell_i64 {w : World} {r : Reach} {b0 : Nat} {u : TypeId} {x : Value} (hu : P.underlying u = some (.int .i64)) (h : Cell.okWide P w r b0 u x) : ∃ n : Int, x = .int .i64 n ∧ -9223372036854775808 ≤ n ∧ n ≤ 9223372036854775807 := cell_int hu h
/-- A whole number as an argument. -/
theorem arg_int {w : World} {r : Reach} {b0 : Nat} {u : TypeId} {k : IntKind} {x : Value} (hu : P.underlying u = some (.int k)) (h : Value.okWide P w r b0 u x) : ∃ n, x = .int k n ∧ k.min ≤ n ∧ n ≤ k.max := by
  unfold Value.okWide at h
  rw [hu] at h
  exact cell_int hu h
/-- A record as an argument. -/
theorem arg_rec {w : World} {r : Reach} {b0 : Nat} {t ti tq : TypeId} {v : Value} (hs : descAgg <$> P.underlying t = some true) (hC : P.cellsOf t = 8) (hct : P.cellTypes P.depth t = some [ti, ti, ti, ti, tq, tq, tq, tq]) (hi : P.underlying ti = some (.int .i64)) (hq : P.underlying tq = some (.int .u64)) (hv : Value.okWide P w r b0 t v) :
    ∃ op k f m a b, a < M2 ∧ b < M2 ∧ v = .agg (recC op k f m a b) ∧ (-9223372036854775808 ≤ f ∧ f ≤ 9223372036854775807) := by
  obtain ⟨cs, rfl, hsz, hc⟩ := okWide_cells hs hC hct rfl hv
  obtain ⟨x0, c0, o0⟩ := hc 0 ti rfl
  obtain ⟨x1, c1, o1⟩ := hc 1 ti rfl
  obtain ⟨x2, c2, o2⟩ := hc 2 ti rfl
  obtain ⟨x3, c3, o3⟩ := hc 3 ti rfl
  obtain ⟨x4, c4, o4⟩ := hc 4 tq rfl
  obtain ⟨x5, c5, o5⟩ := hc 5 tq rfl
  obtain ⟨x6, c6, o6⟩ := hc 6 tq rfl
  obtain ⟨x7, c7, o7⟩ := hc 7 tq rfl
  obtain ⟨op, rfl, _⟩ := cell_i64 hi o0
  obtain ⟨k, rfl, _⟩ := cell_i64 hi o1
  obtain ⟨f, rfl, hf⟩ := cell_i64 hi o2
  obtain ⟨m, rfl, _⟩ := cell_i64 hi o3
  obtain ⟨n4, rfl, l4⟩ := cell_u64 hq o4
  obtain ⟨n5, rfl, l5⟩ := cell_u64 hq o5
  obtain ⟨n6, rfl, l6⟩ := cell_u64 hq o6
  obtain ⟨n7, rfl, l7⟩ := cell_u64 hq o7
  obtain ⟨a, ha, a1, a0⟩ := word_of n4 n5 l4 l5
  obtain ⟨b, hb, b1, b0⟩ := word_of n6 n7 l6 l7
  refine ⟨op, k, f, m, a, b, ha, hb, ?_, hf⟩
  congr 1
  apply Array.ext_getElem?
  intro i
  by_cases hi : i < 8
  · obtain rfl | rfl | rfl | rfl | rfl | rfl | rfl | rfl : i = 0 ∨ i = 1 ∨ i = 2 ∨ i = 3 ∨ i = 4 ∨ i = 5 ∨ i = 6 ∨ i = 7 := by omega
    · rw [c0]; rfl
    · rw [c1]; rfl
    · rw [c2]; rfl
    · rw [c3]; rfl
    · rw [c4, ← a1]; rfl
    · rw [c5, ← a0]; rfl
    · rw [c6, ← b1]; rfl
    · rw [c7, ← b0]; rfl
  · rw [Array.getElem?_eq_none (by rw [hsz]; omega), Array.getElem?_eq_none (by rw [recC_size]; omega)]

/-- Of several laid variables each by itself. -/
theorem laidMet_one {laid : List (String × DataW Unit)} {W : World} (h : laidMet P laid W) {x : String × DataW Unit} (hm : x ∈ laid) : laidMet P [x] W := by
  obtain ⟨ps, hv, hnd, hc⟩ := h
  induction laid generalizing ps with
  | nil => cases hm
  | cons y r ih =>
    obtain ⟨n, d⟩ := y
    obtain ⟨g, t, cs, fuel, p, q, h1, h2, h3, h4, h5, rfl⟩ := hv
    rcases List.mem_cons.1 hm with rfl | hm
    · refine ⟨MemPlace.row ⟨g, 0, none⟩ cs.size ++ p ++ [], ⟨g, t, cs, fuel, p, [], h1, h2, h3, h4, rfl, rfl⟩, ?_, fun b off hb => hc b off ?_⟩
      · rw [List.append_nil]; exact hnd.sublist (List.sublist_append_left _ _)
      · rw [List.append_nil] at hb; exact List.mem_append.2 (.inl hb)
    · exact ih hm q h5 (hnd.sublist (List.sublist_append_right _ _)) (fun b off hb => hc b off (List.mem_append.2 (.inr hb)))
theorem laidH_one {laid : List (String × DataW Unit)} {W : World} (h : laidMetH P laid W) (hp : (laid.all fun x => x.2.handleName?.isNone) = true) {x : String × DataW Unit} (hm : x ∈ laid) : laidMetH P [x] W := by
  rw [MakeChecks.laidMetH_plain _ _ _ hp] at h
  rw [MakeChecks.laidMetH_plain _ _ _ (by simpa using List.all_eq_true.1 hp x hm)]
  exact laidMet_one h hm
end

/-- An array of strings that reads as some texts holds them, cell for cell. -/
theorem strs_of_tabH {H : Type} {enc : TypeId × Value → H} {P : Program} {w : World} {base : Nat} {sp : Nat → Bool} {held : Bool} {fuel : Nat} {t e : TypeId} {n : Nat} {cs : List Value} {ss : List ByteArray} {p : List MemPlace}
    (ht : P.underlying t = some (.array n e)) (he : P.underlying e = some .string) (hce : P.cellsOf e = 1) (hct : P.cellsOf t = n)
    (h : DataW.trod enc P w base sp held fuel t cs = some (.agg (ss.map fun s => .lit (.string s.data.toList)), p)) : cs = ss.map fun s => Value.string s := by
  cases fuel with
  | zero => simp [DataW.trod] at h
  | succ fuel =>
    simp only [DataW.trod, ht, hce, hct, Nat.mul_one] at h
    split at h
    · rename_i hl
      obtain ⟨xs, hm, hx⟩ := Option.map_eq_some_iff.1 h
      have hxs : xs.map (·.1) = ss.map fun s => (DataW.lit (.string s.data.toList) : DataW H) := by
        have := congrArg Prod.fst hx
        simpa using this
      have hxl : xs.length = n := by simpa using Lib.mapM_length hm
      have hzl : ss.length = n := by
        have := congrArg List.length hxs
        simp at this
        omega
      apply List.ext_getElem?
      intro i
      by_cases hi : i < n
      · obtain ⟨b, hb, hf⟩ := Lib.mapM_at hm i i (by simp [hi])
        obtain ⟨s, hc, rfl, _⟩ := DataW.trod_string he hf
        have h1 : cs[i]? = some (.string s) := by
          have := congrArg (·[0]?) hc
          simpa [List.getElem?_take, List.getElem?_drop] using this
        have h2 : (xs.map (·.1))[i]? = some (DataW.lit (.string s.data.toList) : DataW H) := by simp [hb]
        rw [hxs] at h2
        simp only [List.getElem?_map, Option.map_eq_some_iff, DataW.lit.injEq, Lit.string.injEq] at h2
        obtain ⟨s', hs', e'⟩ := h2
        have : s' = s := bytes_inj e'
        subst this
        simp [h1, hs']
      · rw [List.getElem?_eq_none (by omega), List.getElem?_eq_none (by simp; omega)]
    · cases h

theorem names_ofH {W : World} (h : laidMetH Tryz.prog [("radicand/engine.names", Rows.laid_radicand_engine_names)] W) : NamesIn W := by
  rw [MakeChecks.laidMetH_plain _ _ _ (by kernel_rfl)] at h
  obtain ⟨ps, ⟨g', t', cs, fuel, p, q, hg', ht', hvar, hd, _, _⟩, _⟩ := h
  have hg : Tryz.prog.globalNamed "radicand/engine.names" = some 1 := by kernel_rfl
  have hty : (Tryz.prog.globals[1]?).map (·.type) = some 111 := by kernel_rfl
  obtain rfl := Option.some.inj (hg.symm.trans hg')
  obtain rfl := Option.some.inj (hty.symm.trans ht')
  have hcs := strs_of_tabH (ss := [nm 0, nm 1, nm 2, nm 3, nm 4]) (t := 111) (e := 9) (n := 5) (by kernel_rfl) (by kernel_rfl) (by kernel_rfl) (by kernel_rfl) hd
  obtain rfl : cs = ([nm 0, nm 1, nm 2, nm 3, nm 4].map fun s => Value.string s).toArray := by rw [← hcs]
  intro i hi
  rw [World.var?_cell hg hvar i]
  obtain rfl | rfl | rfl | rfl | rfl : i = 0 ∨ i = 1 ∨ i = 2 ∨ i = 3 ∨ i = 4 := by omega
  all_goals rfl

end Go.Proofs.YtoakmlopjeecoaaGreatDoor.Rw

namespace Go.Proofs.YtoakmlopjeecoaaGreatDoor.Rw
open Go Go.ChangeShapes Go.WideShapes Go.ChangeAt Go.RowKit Go.Joins Go.Deep Go.Proofs.YtoakmlopjeecoaaGreatDoor.Rd

theorem flags_of {W : World} (h : laidMetH Tryz.prog [("radicand/batch.flags", Rows.laid_radicand_batch_flags)] W) : FlIn W := by
  rw [MakeChecks.laidMetH_plain _ _ _ (by kernel_rfl)] at h
  have ht := Lib.tabIs_of_head (k := .i64) (zs := [1, 2, 4, 8, 16]) (rest := []) (g := 0) (t := 34) (e := 3) (n := 5) (by kernel_rfl) (by kernel_rfl) (by kernel_rfl) (by kernel_rfl) (by kernel_rfl) (by kernel_rfl) h
  intro i v hi
  have hi5 : i < 5 := (Array.getElem?_eq_some_iff.1 hi).1
  have hc := ht.cell (show Tryz.prog.globalNamed "radicand/batch.flags" = some 0 by kernel_rfl) i (by simpa using hi5)
  rw [Nat.zero_add, hc, ← hi]
  obtain rfl | rfl | rfl | rfl | rfl : i = 0 ∨ i = 1 ∨ i = 2 ∨ i = 3 ∨ i = 4 := by omega
  all_goals rfl
theorem bat_of {W : World} (h : laidMetH Tryz.prog [("radicand/format.known", Rows.laid_radicand_format_known), ("radicand/engine.names", Rows.laid_radicand_engine_names), ("radicand/batch.flags", Rows.laid_radicand_batch_flags)] W) : BatIn W :=
  ⟨fmt_of (laidH_one h (by kernel_rfl) (by simp)), names_ofH (laidH_one h (by kernel_rfl) (by simp)), flags_of (laidH_one h (by kernel_rfl) (by simp))⟩

end Go.Proofs.YtoakmlopjeecoaaGreatDoor.Rw
