/- What the layer class answers: a word's parts, its class. -/
import Derived.Test.YtefpoconpeggpaaGreatDoorL05
import Derived.Deep.MidRow
import Derived.Test.YtefpoconpeggpaaGreatDoorL02
import Derived.Test.YtefpoconpeggpaaGreatDoorL04
namespace Go.Proofs.YtefpoconpeggpaaGreatDoor.Rd
open Go Go.RowKit
set_option linter.unusedVariables false
set_option linter.unusedSimpArgs false

/-- Cells set one by one from a place on. -/
def setAll (cs : Array Value) : Nat → List Value → Array Value
  | _, [] => cs
  | o, v :: r => setAll (cs.setIfInBounds o v) (o + 1) r
theorem setAll_get : ∀ (vs : List Value) (o : Nat) (cs : Array Value) (k : Nat), (setAll cs o vs)[k]? = if o ≤ k ∧ k < o + vs.length ∧ k < cs.size then vs[k - o]? else cs[k]?
  | [], o, cs, k => by unfold setAll; rw [if_neg]; simp; omega
  | v :: r, o, cs, k => by
    unfold setAll
    rw [setAll_get r (o + 1) _ k]
    simp only [Array.size_setIfInBounds, List.length_cons]
    by_cases h1 : o = k
    · subst h1
      rw [if_neg (by omega)]
      by_cases h2 : o < cs.size
      · rw [if_pos (by omega)]; simp [Array.getElem?_setIfInBounds, h2]
      · rw [if_neg (by omega)]; simp [Array.getElem?_setIfInBounds, h2]
    · by_cases h2 : o + 1 ≤ k ∧ k < o + 1 + r.length ∧ k < cs.size
      · rw [if_pos h2, if_pos (by omega), show k - o = (k - (o + 1)) + 1 by omega]; rfl
      · rw [if_neg h2, if_neg (by omega), Array.getElem?_setIfInBounds, if_neg h1]

/-- cs has sub at place o; with sub' there it is cs'. -/
def Part (cs sub cs' sub' : Array Value) (o : Nat) : Prop := ∃ pre post : Array Value, cs = pre ++ sub ++ post ∧ cs' = pre ++ sub' ++ post ∧ pre.size = o ∧ sub'.size = sub.size
theorem Part.get {cs sub cs' sub' : Array Value} {o : Nat} (h : Part cs sub cs' sub' o) {j : Nat} {v : Value} (hv : sub[j]? = some v) : cs[o + j]? = some v := by
  obtain ⟨pre, post, rfl, _, rfl, _⟩ := h
  have hj : j < sub.size := (Array.getElem?_eq_some_iff.1 hv).1
  rw [Array.append_assoc, Array.getElem?_append_right (by omega), Nat.add_sub_cancel_left, Array.getElem?_append_left hj]
  exact hv
theorem Part.le {cs sub cs' sub' : Array Value} {o : Nat} (h : Part cs sub cs' sub' o) : o + sub.size ≤ cs.size := by
  obtain ⟨pre, post, rfl, _, rfl, _⟩ := h
  simp
theorem Part.set {cs sub cs' sub' : Array Value} {o : Nat} (h : Part cs sub cs' sub' o) : setAll cs o sub'.toList = cs' := by
  have hle := h.le
  obtain ⟨pre, post, rfl, rfl, rfl, hs⟩ := h
  apply Array.ext_getElem?
  intro k
  rw [setAll_get]
  simp only [Array.length_toList, Array.size_append] at *
  split
  · rename_i hk
    rw [Array.append_assoc, Array.getElem?_append_right (by omega), Array.getElem?_append_left (by omega), Array.getElem?_toList]
  · rename_i hk
    by_cases h1 : k < pre.size
    · rw [Array.append_assoc, Array.append_assoc, Array.getElem?_append_left h1, Array.getElem?_append_left h1]
    · by_cases h2 : k < pre.size + sub.size
      · exact absurd ⟨by omega, by omega, by omega⟩ hk
      · rw [Array.getElem?_append_right (by simp; omega), Array.getElem?_append_right (by simp; omega)]
        simp [hs]
theorem part0 (a a' b : Array Value) (h : a'.size = a.size) : Part (a ++ b) a (a' ++ b) a' 0 := ⟨#[], b, by simp, by simp, rfl, h⟩
theorem part1 (n : Nat) (a b b' : Array Value) (hn : a.size = n) (h : b'.size = b.size) : Part (a ++ b) b (a ++ b') b' n := ⟨a, #[], by simp, by simp, hn, h⟩

/-- The cells of some wides, one behind the other. -/
def wcs : List Nat → Array Value
  | [] => #[]
  | n :: l => wc 8 n ++ wcs l
theorem wcs_part : ∀ (l : List Nat) (i n : Nat), l[i]? = some n → Part (wcs l) (wc 8 n) (wcs l) (wc 8 n) (8 * i)
  | [], i, n, h => by simp at h
  | m :: l, 0, n, h => by
    simp at h; subst h
    exact part0 _ _ _ rfl
  | m :: l, i + 1, n, h => by
    obtain ⟨pre, post, h1, h2, h3, h4⟩ := wcs_part l i n (by simpa using h)
    exact ⟨wc 8 m ++ pre, post, by rw [wcs, h1]; simp, by rw [wcs, h1]; simp, by simp [h3]; omega, h4⟩
theorem wcs_at {l : List Nat} {i n : Nat} (h : l[i]? = some n) : Part (wcs l) (wc 8 n) (wcs l) (wc 8 n) (i * 8) := by rw [Nat.mul_comm]; exact wcs_part l i n h

theorem heap_setCells (b : Nat) (E : TypeId) : ∀ (vs : List Value) (o : Nat) (cs : Array Value) (w : World), w.heap[b]? = some (.cells cs E (0, 0)) →
    (w.setCells b o vs).heap[b]? = some (.cells (setAll cs o vs) E (0, 0)) ∧ Keeps [b] w (w.setCells b o vs)
  | [], _, _, w, h => ⟨h, Keeps.refl _ _⟩
  | v :: r, o, cs, w, h => by
    have h1 := heap_setCell_same w b o cs E v h
    obtain ⟨h2, h3⟩ := heap_setCells b E r (o + 1) _ _ h1
    have hk : Keeps [b] w (w.setCell ⟨b, o, none⟩ v) := ⟨rfl, rfl, rfl, by simp [World.setCell], fun k _ hn => heap_setCell_other w ⟨b, o, none⟩ k v (by simpa using hn)⟩
    exact ⟨h2, hk.trans h3 (fun x hx _ => hx)⟩

section laws
variable {P : Program} {ops : Array Oper} {rest : List Oper} {Q : Exit → Act → World → Prop} {a : Act} {w w0 : World} {S : List Nat} {L L' : List (Nat × Obj)}

theorem descAgg_row {d : TypeDesc} (h : descAgg d = true) : d.isRow = true := by cases d <;> first | rfl | cases h

theorem run_loadMid {T : TypeId} {b n o : Nat} {cs sub cs' sub' : Array Value} {E : TypeId} {fr : Nat × Nat} (hT : AggT P T n) (hn : sub.size = n) (hc : Part cs sub cs' sub' o) (hb : w.heap[b]? = some (.cells cs E fr)) :
    (Instr.loadAt T (.pointer (some ⟨b, o, none⟩))).run P w = .ok (.agg sub) w := by
  obtain ⟨d, hu, hd, hi⟩ := hT
  have := run_loadAt_mid (P := P) w b o T sub.toList d (fun j v hv => by
    rw [cell_of_row w b (o + j) cs E fr hb]
    exact hc.get (by rwa [Array.getElem?_toList] at hv)) hu (descAgg_row hd) (by rw [Array.length_toList, hn]; exact hi)
  simpa using this

/-- A load of a struct or an array out of the middle of a block. -/
theorem klm {o : Oper} {T : TypeId} {x : Operand} {n b f : Nat} {cs sub cs' sub' : Array Value} {E : TypeId} {fr : Nat × Nat} (hst : St w0 S L w) (hT : AggT P T n) (ho : o.op = .load T x) (h : wpList P ops Q rest (a.put o.dst (.agg sub)) w)
    (hx : a.eval x = .pointer (some ⟨b, f, none⟩) := by rfl) (hm : (b, .cells cs E fr) ∈ L := by repeat (first | exact List.Mem.head _ | refine List.Mem.tail _ ?_))
    (hc : Part cs sub cs' sub' f := by first | exact wcs_at (by assumption) | exact part0 _ _ _ rfl | exact part1 _ _ _ _ (by first | rfl | exact wc_size _ _) rfl) (hn : sub.size = n := by first | rfl | exact wc_size _ _) (hg : o.guard = none := by rfl) : wpList P ops Q (o :: rest) a w := by
  refine wpList_plain hg fun K hK => ?_
  unfold Oper.wp execOp
  simp only [ho, hx, Sem.run_bind, run_loadMid hT hn hc (hst.own _ _ hm), Sem.run_pure, Result.andThen_ok]
  exact hK _ _ h

/-- A store of a struct or an array into the middle of a block. -/
theorem ktm {o : Oper} {T : TypeId} {x y : Operand} {n b f : Nat} {cs sub cs' sub' : Array Value} {E : TypeId} (hst : St w0 S L w) (hT : AggT P T n) (hd : o.dst = none) (ho : o.op = .store T x y) (h : ∀ w', St w0 S L' w' → wpList P ops Q rest a w')
    (hx : a.eval x = .pointer (some ⟨b, f, none⟩) := by rfl) (hy : a.eval y = .agg sub' := by rfl) (h1 : sub'.all (·.oneCell') = true := by first | rfl | exact wc_one _ _ | exact wdc_one _ | exact OneC.h (by assumption) | kernel_rfl)
    (hm : (b, .cells cs E (0, 0)) ∈ L := by repeat (first | exact List.Mem.head _ | refine List.Mem.tail _ ?_))
    (hc : Part cs sub cs' sub' f := by first | exact part0 _ _ _ (by simp) | exact part1 _ _ _ _ (by first | rfl | exact wc_size _ _) (by simp)) (hn : sub'.size = n := by first | rfl | exact wc_size _ _)
    (hat : At b (.cells cs E (0, 0)) (.cells cs' E (0, 0)) L L' := by repeat (first | exact At.head _ | apply At.tail))
    (hb : w0.heap.size ≤ b ∨ b ∈ S := by first | exact Or.inl (by assumption) | (refine Or.inr ?_; simp)) (hg : o.guard = none := by rfl) : wpList P ops Q (o :: rest) a w := by
  obtain ⟨_, _, _, hi⟩ := hT
  have hown := hst.own _ _ hat.mem
  have hle := hc.le
  have hs : sub'.size = sub.size := by obtain ⟨_, _, _, _, _, h⟩ := hc; exact h
  have ht : w.there b f sub'.size := fun j hj => by
    rw [cell_of_row w b (f + j) cs E _ hown, frozen_of_row w b (f + j) cs E hown]
    exact ⟨by rw [Array.getElem?_eq_getElem (by omega)]; rfl, rfl⟩
  obtain ⟨h2, h3⟩ := heap_setCells b E sub'.toList f cs w hown
  rw [hc.set] at h2
  refine wpList_plain hg fun K hK => ?_
  unfold Oper.wp execOp
  simp only [ho, hx, hy, Sem.run_bind, run_storeAt_mid (P := P) w b f T sub' ht (by rw [hn]; exact hi) h1, Sem.run_pure, Result.andThen_ok]
  have hput : a.put o.dst undef = a := by rw [hd]; rfl
  rw [Oper.upon_skip, hput]
  exact hK _ _ (h _ (hst.put hat hb h3 h2))

theorem run_opLoadMid {o : Oper} {T : TypeId} {x : Operand} {n b f : Nat} {cs sub cs' sub' : Array Value} {E : TypeId} {fr : Nat × Nat} (hst : St w0 S L w) (hT : AggT P T n) (ho : o.op = .load T x) (hx : a.eval x = .pointer (some ⟨b, f, none⟩))
    (hm : (b, .cells cs E fr) ∈ L) (hc : Part cs sub cs' sub' f) (hn : sub.size = n) : (execOp a.eval o).run P w = .ok (.value (.agg sub)) w := by
  unfold execOp
  simp only [ho, hx, Sem.run_bind, run_loadMid hT hn hc (hst.own _ _ hm), Sem.run_pure, Result.andThen_ok]
theorem ylM {T : TypeId} {x : Operand} {m b f : Nat} {cs sub cs' sub' : Array Value} {E : TypeId} {fr : Nat × Nat} {ty : TypeId} {pos : String} {af : Array Edge} {dst : Option Tmp} {g : Option (Nat × Bool)} (hT : AggT P T m)
    (hx : a.eval x = .pointer (some ⟨b, f, none⟩) := by rfl) (hm : (b, .cells cs E fr) ∈ L := by repeat (first | exact List.Mem.head _ | refine List.Mem.tail _ ?_))
    (hc : Part cs sub cs' sub' f := by first | exact wcs_at (by assumption) | exact part0 _ _ _ rfl | exact part1 _ _ _ _ (by first | rfl | exact wc_size _ _) rfl) (hn : sub.size = m := by first | rfl | exact wc_size _ _) :
    ∀ w, St w0 S L w → (execOp a.eval ⟨dst, .load T x, ty, pos, af, g⟩).run P w = .ok (.value (.agg sub)) w := fun _ hw => run_opLoadMid hw hT rfl hx hm hc hn

/-- A struct, or an array, that is built. -/
theorem kB {o : Oper} {T : TypeId} {parts : Array (Nat × Operand)} {v : Value} {args : List (Nat × Value)} (hb : ∀ w, (Instr.build T args.toArray).run P w = .ok v w) (ho : o.op = .build T parts)
    (h : wpList P ops Q rest (a.put o.dst v) w) (hargs : parts.toList.map (fun q => (q.1, a.eval q.2)) = args := by rfl) (hg : o.guard = none := by rfl) : wpList P ops Q (o :: rest) a w := by
  refine wpList_plain hg fun K hK => ?_
  have e : parts.map (fun (i, x) => (i, a.eval x)) = args.toArray := by rw [← hargs]; exact Array.toList_inj.1 (by simp)
  unfold Oper.wp execOp
  simp only [ho, e, Sem.run_bind, hb, Sem.run_pure, Result.andThen_ok]
  exact hK _ _ h
theorem yB {T : TypeId} {parts : Array (Nat × Operand)} {v : Value} {args : List (Nat × Value)} {ty : TypeId} {pos : String} {af : Array Edge} {dst : Option Tmp} {g : Option (Nat × Bool)} (hb : ∀ w, (Instr.build T args.toArray).run P w = .ok v w)
    (hargs : parts.toList.map (fun q => (q.1, a.eval q.2)) = args := by rfl) : ∀ w, (execOp a.eval ⟨dst, .build T parts, ty, pos, af, g⟩).run P w = .ok (.value v) w := fun w => by
  have e : parts.map (fun (i, x) => (i, a.eval x)) = args.toArray := by rw [← hargs]; exact Array.toList_inj.1 (by simp)
  unfold execOp
  simp only [e, Sem.run_bind, hb, Sem.run_pure, Result.andThen_ok]

/-- A slice literal of elements of many cells. -/
theorem kS (s : Nat) {o : Oper} {T e : TypeId} {len : Nat} {parts : Array (Nat × Operand)} {cells : Array Value} {args : List (Nat × Value)} (hst : St w0 S L w) (hu : SliceT P T e) (hb : P.builtSlice e len args = some cells) (hd : o.dst = some s) (ho : o.op = .buildSlice T len parts)
    (h : ∀ b w', w0.heap.size ≤ b → St w0 S ((b, .cells cells e) :: L) w' → wpList P ops Q rest (a.put o.dst (.slice (some ⟨b, 0, none⟩) len len)) w') (hargs : parts.toList.map (fun q => (q.1, a.eval q.2)) = args := by rfl) (hg : o.guard = none := by rfl) : wpList P ops Q (o :: rest) a w :=
  wl_buildSlice hst hu hg ho (by rw [← hb, ← hargs]; simp) h

end laws

theorem tb128_01234 (x0 : Int) (x1 : Int) (x2 : Int) (x3 : Int) (x4 : Int) (w : World) : (Instr.build 128 (List.toArray [(0, .int .i64 x0), (1, .int .i64 x1), (2, .int .i64 x2), (3, .int .i64 x3), (4, .int .i64 x4)])).run Tryz.prog w = .ok (.agg (#[.int .i64 x0, .int .i64 x1, .int .i64 x2, .int .i64 x3, .int .i64 x4])) w := by kernel_rfl
theorem tb176_01 (x0 : Option Addr) (x1 : Option Addr) (w : World) : (Instr.build 176 (List.toArray [(0, .pointer x0), (1, .pointer x1)])).run Tryz.prog w = .ok (.agg (#[.pointer x0, .pointer x1])) w := by kernel_rfl
theorem tb182_01 (x0 : Option Addr) (x1 : Option Addr) (w : World) : (Instr.build 182 (List.toArray [(0, .pointer x0), (1, .pointer x1)])).run Tryz.prog w = .ok (.agg (#[.pointer x0, .pointer x1])) w := by kernel_rfl
theorem tb200_0 (x0 : Option Addr) (w : World) : (Instr.build 200 (List.toArray [(0, .pointer x0)])).run Tryz.prog w = .ok (.agg (#[.pointer x0])) w := by kernel_rfl
theorem tb204_0 (x0 : Option Addr) (w : World) : (Instr.build 204 (List.toArray [(0, .pointer x0)])).run Tryz.prog w = .ok (.agg (#[.pointer x0])) w := by kernel_rfl
theorem tb208_0 (x0 : Option Addr) (w : World) : (Instr.build 208 (List.toArray [(0, .pointer x0)])).run Tryz.prog w = .ok (.agg (#[.pointer x0])) w := by kernel_rfl
theorem tb212_0 (x0 : Option Addr) (w : World) : (Instr.build 212 (List.toArray [(0, .pointer x0)])).run Tryz.prog w = .ok (.agg (#[.pointer x0])) w := by kernel_rfl
theorem tb278_01 (x0 : Nat) (x1 : Nat) (w : World) : (Instr.build 278 (List.toArray [(0, W x0), (1, W x1)])).run Tryz.prog w = .ok (.agg (wc 8 x0 ++ wc 8 x1)) w := by kernel_rfl
theorem tb306_01 (x0 : Nat) (x1 : Nat) (w : World) : (Instr.build 306 (List.toArray [(0, W x0), (1, W x1)])).run Tryz.prog w = .ok (.agg (wc 8 x0 ++ wc 8 x1)) w := by kernel_rfl
theorem tb46_012 (x0 : Bool) (x1 : Int) (x2 : Nat) (w : World) : (Instr.build 46 (List.toArray [(0, .bool x0), (1, .int .i64 x1), (2, W x2)])).run Tryz.prog w = .ok (.agg (#[.bool x0, .int .i64 x1] ++ wc 8 x2)) w := by kernel_rfl
theorem tb46_021 (x0 : Bool) (x1 : Int) (x2 : Nat) (w : World) : (Instr.build 46 (List.toArray [(0, .bool x0), (2, W x2), (1, .int .i64 x1)])).run Tryz.prog w = .ok (.agg (#[.bool x0, .int .i64 x1] ++ wc 8 x2)) w := by kernel_rfl
theorem tb46_12 (x1 : Int) (x2 : Nat) (w : World) : (Instr.build 46 (List.toArray [(1, .int .i64 x1), (2, W x2)])).run Tryz.prog w = .ok (.agg (#[.bool false, .int .i64 x1] ++ wc 8 x2)) w := by kernel_rfl
theorem ts162_ : SliceT Tryz.prog 162 44 := by unfold SliceT; kernel_rfl
theorem tw44_2 (x0 x1 : Nat) : Tryz.prog.builtSlice 44 2 [(0, W x0), (1, W x1)] = some (wcs [x0, x1]) := by kernel_rfl
theorem tw44_3 (x0 x1 x2 : Nat) : Tryz.prog.builtSlice 44 3 [(0, W x0), (1, W x1), (2, W x2)] = some (wcs [x0, x1, x2]) := by kernel_rfl
end Go.Proofs.YtefpoconpeggpaaGreatDoor.Rd

namespace Go.Proofs.YtefpoconpeggpaaGreatDoor.Rd
open Go Go.RowKit
set_option linter.unusedVariables false
set_option linter.unusedSimpArgs false
set_option maxRecDepth 100000

section
variable {P : Program} {ops : Array Oper} {rest : List Oper} {Q : Exit → Act → World → Prop} {a : Act} {w w' w0 : World} {S : List Nat} {L : List (Nat × Obj)}
/-- What S leaves alone reads as it did. -/
theorem Keeps.cellX {S : List Nat} (k : Keeps S w w') {b i : Nat} {v : Value} (hb : b ∉ S) (h : w.cell? ⟨b, i, none⟩ = some v) : w'.cell? ⟨b, i, none⟩ = some v := by
  have hlt : b < w.heap.size := by
    rcases Nat.lt_or_ge b w.heap.size with h' | h'
    · exact h'
    · simp [World.cell?, Array.getElem?_eq_none h'] at h
  have e := k.block b hlt hb
  unfold World.cell? at *
  simp only at *
  rw [e]; exact h
/-- A load of a struct whose cells the world is known to hold. -/
theorem klx {o : Oper} {T : TypeId} {x : Operand} {n b f : Nat} {sub : Array Value} (hst : St w0 S L w) (hT : AggT P T n) (hc : ∀ w, St w0 S L w → ∀ (j : Nat) v, sub[j]? = some v → w.cell? ⟨b, f + j, none⟩ = some v) (ho : o.op = .load T x) (h : wpList P ops Q rest (a.put o.dst (.agg sub)) w)
    (hx : a.eval x = .pointer (some ⟨b, f, none⟩) := by rfl) (hn : sub.size = n := by rfl) (hg : o.guard = none := by rfl) : wpList P ops Q (o :: rest) a w := by
  refine wpList_plain hg fun K hK => ?_
  obtain ⟨d, hu, hd, hi⟩ := hT
  have hr := run_loadAt_mid (P := P) w b f T sub.toList d (fun j v hv => hc w hst j v (by rwa [Array.getElem?_toList] at hv)) hu (descAgg_row hd) (by rw [Array.length_toList, hn]; exact hi)
  unfold Oper.wp execOp
  simp only [ho, hx, Sem.run_bind, hr, Sem.run_pure, Result.andThen_ok]
  exact hK _ _ (by simpa using h)
end

/-- The cells of the variable known. -/
def knC : Array Value := #[.string ⟨#[]⟩, .int .i64 0, .int .i64 0, .int .i64 0,
  .string ⟨#[98, 105, 110, 97, 114, 121, 49, 54]⟩, .int .i64 16, .int .i64 11, .int .i64 5,
  .string ⟨#[98, 105, 110, 97, 114, 121, 51, 50]⟩, .int .i64 32, .int .i64 24, .int .i64 8,
  .string ⟨#[98, 105, 110, 97, 114, 121, 54, 52]⟩, .int .i64 64, .int .i64 53, .int .i64 11,
  .string ⟨#[98, 105, 110, 97, 114, 121, 49, 50, 56]⟩, .int .i64 128, .int .i64 113, .int .i64 15]
def FmtIn (w : World) : Prop := ∀ (i : Nat) v, knC[i]? = some v → w.cell? ⟨0, i, none⟩ = some v
theorem FmtIn.keep {w w' : World} {S : List Nat} (h : FmtIn w) (k : Keeps S w w') (hS : 0 ∉ S) : FmtIn w' := fun i v hi => k.cellX hS (h i v hi)
def knR (f : Nat) : Array Value := knC.extract (f * 4) (f * 4 + 4)
theorem knR_at {w : World} (h : FmtIn w) (f : Nat) (hf : f ≤ 4) (j : Nat) (v : Value) (hv : (knR f)[j]? = some v) : w.cell? ⟨0, f * 4 + j, none⟩ = some v := by
  refine h _ v ?_
  unfold knR at hv
  rw [Array.getElem?_extract] at hv
  split at hv
  · exact hv
  · cases hv

/-- A format's cells. -/
def fmC (f : Nat) : Array Value := #[.int .i64 (fB f : Nat), .int .i64 (fP f : Nat), .int .i64 (fE f : Nat), .int .i64 (1 - (fE f : Int)), .int .i64 (fK f : Nat)]
theorem fmC_size (f : Nat) : (fmC f).size = 5 := rfl
theorem fmC_one (f : Nat) : OneC (fmC f) := ⟨by kernel_rfl⟩

set_option maxHeartbeats 2000000 in
theorem format_Of (f : Nat) (h1 : 1 ≤ f) (h4 : f ≤ 4) (w0 : World) (hF : FmtIn w0) : GivesAt Tryz.prog 70 #[.int .i64 f] (.tuple #[.agg (fmC f), .bool true]) w0 := by
  have hst := St.start [] w0
  have hr := Lib.hid (fun f hf w (k : Keeps [] w0 w) => knR_at (hF.keep k (by simp)) f hf)
  clear hF
  obtain rfl | rfl | rfl | rfl : f = 1 ∨ f = 2 ∨ f = 3 ∨ f = 4 := by omega
  · have hc := Lib.hid (fun w k => hr.out 1 (by omega) w k)
    rw [show knR 1 = #[.string ⟨#[98, 105, 110, 97, 114, 121, 49, 54]⟩, .int .i64 16, .int .i64 11, .int .i64 5] from rfl] at hc
    rw [show fmC 1 = #[.int .i64 16, .int .i64 11, .int .i64 15, .int .i64 (-14), .int .i64 5] by kernel_rfl, show ((1 : Nat) : Int) = 1 from rfl]
    go_enter Tryz.func70, Tryz.ntmps70
    go_wp2_with ((first | (refine klx hst (AggT.of (by kernel_rfl)) (fun w hst => hc.out w hst.keeps) rfl ?_) | (refine ka 2 hst tz128 rfl rfl ?_; clear hst; intro b2 w hb2 hst) | (refine kt hst ta128 rfl rfl ?_; clear hst; intro w hst) | (refine ka 4 hst tz159 rfl rfl ?_; clear hst; intro b4 w hb4 hst) | (refine kt hst ta159 rfl rfl ?_; clear hst; intro w hst) | (refine kc hst tc3 rfl ?_) | (refine kB (tb128_01234 _ _ _ _ _) rfl ?_)); try simp only [pz, pn, sz, sc])
    refine bp_ct rfl rfl (la hst ta128) (by rfl) ⟨?_, hst.keeps⟩
    rfl
  · have hc := Lib.hid (fun w k => hr.out 2 (by omega) w k)
    rw [show knR 2 = #[.string ⟨#[98, 105, 110, 97, 114, 121, 51, 50]⟩, .int .i64 32, .int .i64 24, .int .i64 8] from rfl] at hc
    rw [show fmC 2 = #[.int .i64 32, .int .i64 24, .int .i64 127, .int .i64 (-126), .int .i64 8] by kernel_rfl, show ((2 : Nat) : Int) = 2 from rfl]
    go_enter Tryz.func70, Tryz.ntmps70
    go_wp2_with ((first | (refine klx hst (AggT.of (by kernel_rfl)) (fun w hst => hc.out w hst.keeps) rfl ?_) | (refine ka 2 hst tz128 rfl rfl ?_; clear hst; intro b2 w hb2 hst) | (refine kt hst ta128 rfl rfl ?_; clear hst; intro w hst) | (refine ka 4 hst tz159 rfl rfl ?_; clear hst; intro b4 w hb4 hst) | (refine kt hst ta159 rfl rfl ?_; clear hst; intro w hst) | (refine kc hst tc3 rfl ?_) | (refine kB (tb128_01234 _ _ _ _ _) rfl ?_)); try simp only [pz, pn, sz, sc])
    refine bp_ct rfl rfl (la hst ta128) (by rfl) ⟨?_, hst.keeps⟩
    rfl
  · have hc := Lib.hid (fun w k => hr.out 3 (by omega) w k)
    rw [show knR 3 = #[.string ⟨#[98, 105, 110, 97, 114, 121, 54, 52]⟩, .int .i64 64, .int .i64 53, .int .i64 11] from rfl] at hc
    rw [show fmC 3 = #[.int .i64 64, .int .i64 53, .int .i64 1023, .int .i64 (-1022), .int .i64 11] by kernel_rfl, show ((3 : Nat) : Int) = 3 from rfl]
    go_enter Tryz.func70, Tryz.ntmps70
    go_wp2_with ((first | (refine klx hst (AggT.of (by kernel_rfl)) (fun w hst => hc.out w hst.keeps) rfl ?_) | (refine ka 2 hst tz128 rfl rfl ?_; clear hst; intro b2 w hb2 hst) | (refine kt hst ta128 rfl rfl ?_; clear hst; intro w hst) | (refine ka 4 hst tz159 rfl rfl ?_; clear hst; intro b4 w hb4 hst) | (refine kt hst ta159 rfl rfl ?_; clear hst; intro w hst) | (refine kc hst tc3 rfl ?_) | (refine kB (tb128_01234 _ _ _ _ _) rfl ?_)); try simp only [pz, pn, sz, sc])
    refine bp_ct rfl rfl (la hst ta128) (by rfl) ⟨?_, hst.keeps⟩
    rfl
  · have hc := Lib.hid (fun w k => hr.out 4 (by omega) w k)
    rw [show knR 4 = #[.string ⟨#[98, 105, 110, 97, 114, 121, 49, 50, 56]⟩, .int .i64 128, .int .i64 113, .int .i64 15] from rfl] at hc
    rw [show fmC 4 = #[.int .i64 128, .int .i64 113, .int .i64 16383, .int .i64 (-16382), .int .i64 15] by kernel_rfl, show ((4 : Nat) : Int) = 4 from rfl]
    go_enter Tryz.func70, Tryz.ntmps70
    go_wp2_with ((first | (refine klx hst (AggT.of (by kernel_rfl)) (fun w hst => hc.out w hst.keeps) rfl ?_) | (refine ka 2 hst tz128 rfl rfl ?_; clear hst; intro b2 w hb2 hst) | (refine kt hst ta128 rfl rfl ?_; clear hst; intro w hst) | (refine ka 4 hst tz159 rfl rfl ?_; clear hst; intro b4 w hb4 hst) | (refine kt hst ta159 rfl rfl ?_; clear hst; intro w hst) | (refine kc hst tc3 rfl ?_) | (refine kB (tb128_01234 _ _ _ _ _) rfl ?_)); try simp only [pz, pn, sz, sc])
    refine bp_ct rfl rfl (la hst ta128) (by rfl) ⟨?_, hst.keeps⟩
    rfl

set_option maxHeartbeats 1000000 in
theorem format_Fits (f : Nat) (h1 : 1 ≤ f) (h4 : f ≤ 4) (m : Nat) (hm : m < M2) (w0 : World) (hF : FmtIn w0) : GivesAt Tryz.prog 169 #[.int .i64 f, Wd m] (.bool (decide (m < 2 ^ fB f))) w0 := by
  have hst := St.start [] w0
  have hk := Lib.hid (fun w (k : Keeps [] w0 w) => hF.keep k (by simp))
  have hof := fun w h => format_Of f h1 h4 w h
  have hfr := wide_From m hm
  have hmM : m < M := Nat.lt_of_lt_of_le hm (by rw [M_eq]; exact Nat.pow_le_pow_right B_pos (by omega))
  have hlen := wide_Len m hmM
  have e : decide (m < 2 ^ fB f) = decide (bl m ≤ fB f) := by
    have := @bl_le m (fB f)
    by_cases h : m < 2 ^ fB f
    · rw [decide_eq_true h, decide_eq_true (this.2 h)]
    · rw [decide_eq_false h, decide_eq_false (fun h' => h (this.1 h'))]
  rw [e]
  clear e hF h1 h4 hmM hm
  have z1 := fmC_size f
  have z2 := fmC_one f
  have hg0 : (fmC f)[0]? = some (.int .i64 (fB f : Nat)) := rfl
  generalize fmC f = cs at *
  generalize fB f = bb at *
  generalize bl m = k at *
  go_enter Tryz.func169, Tryz.ntmps169
  go_wp2_with ((first | (refine kg gf70 hst (fun w hst => hof w (hk.out w hst.keeps)) rfl rfl rfl rfl ?_; clear hst; intro w hst) | (refine kb 3 hst rfl rfl ?_; clear hst; intro b3 w hb3 hst) | (refine ka 5 hst tz128 rfl rfl ?_; clear hst; intro b5 w hb5 hst) | (refine kt hst ta128 rfl rfl ?_; clear hst; intro w hst)); try simp only [pz, pn, sz, sc])
  refine wp_region_T 10  hst (by kernel_rfl) ?_; clear hst; intro w hst; (try simp only [List.length_cons, List.length_nil, Nat.reduceAdd, Array.replicate_succ, Array.replicate_zero, List.push_toArray, List.nil_append, List.cons_append])
  refine r0 0 ?_; simp only [pz, pn, sz, sc]
  refine r0 1 ?_; simp only [pz, pn, sz, sc]
  refine r0 5 ?_; simp only [pz, pn, sz, sc]
  refine rl 2 rfl ?_ (by first | exact ylA ta24 | exact ylM ta24); simp only [pz, pn, sz, sc]
  refine rl 6 rfl ?_ (ylC tc3); simp only [pz, pn, sz, sc]
  refine r1 3 ?_; (try refine wl_guard (by rfl) ?_); (refine kf gf170 hst (hfr) rfl rfl rfl rfl ?_; clear hst; intro w hst); (try simp only [pz, pn, sz, sc]); refine re ?_
  refine r1 4 ?_; (try refine wl_guard (by rfl) ?_); (refine kf gf47 hst (hlen) rfl rfl rfl rfl ?_; clear hst; intro w hst); (try simp only [pz, pn, sz, sc]); refine re ?_
  refine r0 7 ?_; simp only [pz, pn, sz, sc]
  refine r0 8 ?_; simp only [pz, pn, sz, sc]
  refine r0 9 ?_; simp only [pz, pn, sz, sc]
  refine rd_ ?_
  go_wp2_with fail
  refine bp_t rfl rfl (by rfl) ⟨?_, hst.keeps⟩
  rfl

end Go.Proofs.YtefpoconpeggpaaGreatDoor.Rd

namespace Go.Proofs.YtefpoconpeggpaaGreatDoor.Rd
set_option linter.unusedVariables false

/-- What is cut off of r with its b lowest digits, where s says that there is more behind: 0 none, 1 below a half, 2 a half, 3 above. -/
def restN (r b : Nat) (s : Bool) : Nat :=
  if b = 0 then (if s then 1 else 0)
  else if r % 2 ^ b = 0 ∧ s = false then 0 else if r % 2 ^ b < 2 ^ (b - 1) then 1 else if r % 2 ^ b = 2 ^ (b - 1) ∧ s = false then 2 else 3
theorem restN_le (r b : Nat) (s : Bool) : restN r b s ≤ 3 := by unfold restN; (repeat' split) <;> omega
/-- Is a number rounded up, without its sign? -/
def growsB (m : Nat) (neg odd : Bool) (rest : Nat) : Bool :=
  if rest = 0 then false else if m = 1 then decide (rest = 3) || (decide (rest = 2) && odd) else if m = 2 then decide (2 ≤ rest) else if m = 4 then !neg else if m = 5 then neg else false
def cutN (r b : Nat) (s : Bool) (m : Nat) (neg : Bool) : Nat := r / 2 ^ b + (if growsB m neg (decide (r / 2 ^ b % 2 = 1)) (restN r b s) then 1 else 0)
theorem cutN_le (r b : Nat) (s : Bool) (m : Nat) (neg : Bool) : r / 2 ^ b ≤ cutN r b s m neg ∧ cutN r b s m neg ≤ r / 2 ^ b + 1 := by unfold cutN; split <;> omega

/-- r halves of a place: how many places, what is left. -/
theorem half_split (r b : Nat) : r / 2 ^ b = 2 * (r / 2 ^ (b + 1)) + r % 2 ^ (b + 1) / 2 ^ b ∧ r % 2 ^ (b + 1) = r % 2 ^ (b + 1) / 2 ^ b * 2 ^ b + r % 2 ^ b ∧ r % 2 ^ (b + 1) / 2 ^ b ≤ 1 := by
  have hp : 0 < 2 ^ b := Nat.pow_pos (by omega)
  have e : 2 ^ (b + 1) = 2 ^ b * 2 := Nat.pow_succ ..
  have h1 : r % 2 ^ (b + 1) / 2 ^ b = r / 2 ^ b % 2 := by rw [e, Nat.mod_mul_right_div_self]
  have h2 : r % 2 ^ (b + 1) % 2 ^ b = r % 2 ^ b := by rw [e]; exact Nat.mod_mul_right_mod ..
  have h3 := Nat.div_add_mod (r % 2 ^ (b + 1)) (2 ^ b)
  have h4 := Nat.div_add_mod (r / 2 ^ b) 2
  have h5 : r / 2 ^ (b + 1) = r / 2 ^ b / 2 := by rw [e, Nat.div_div_eq_div_mul]
  rw [h2, Nat.mul_comm] at h3
  rw [h5, h1]
  rw [h1] at h3
  exact ⟨by omega, h3.symm, by omega⟩

/-- The middle of a place and the next one, held against the number: below 0: the middle is below. -/
def midC (r b : Nat) (s : Bool) : Int :=
  if 2 * (r / 2 ^ (b + 1)) + 1 < r / 2 ^ b then -1 else if r / 2 ^ b < 2 * (r / 2 ^ (b + 1)) + 1 then 1 else if r % 2 ^ b = 0 ∧ s = false then 0 else -1
theorem rest_mid (r b : Nat) (s : Bool) : (restN r (b + 1) s : Int) = if r % 2 ^ (b + 1) = 0 ∧ s = false then 0 else 2 - midC r b s := by
  obtain ⟨h1, h2, h3⟩ := half_split r b
  have hm := Nat.mod_lt r (show 0 < 2 ^ b from Nat.pow_pos (by omega))
  unfold restN midC
  rw [if_neg (by omega), Nat.add_sub_cancel]
  rw [h1]
  generalize r % 2 ^ (b + 1) / 2 ^ b = h at *
  generalize r / 2 ^ (b + 1) = q at *
  rw [h2]
  generalize r % 2 ^ b = t at *
  generalize 2 ^ b = k at *
  have hh : h = 0 ∨ h = 1 := by omega
  rcases hh with rfl | rfl
  · cases s <;> simp <;> (repeat' split) <;> (try omega) <;> simp_all
  · cases s <;> simp <;> (repeat' split) <;> (try omega) <;> simp_all

/-- A number cut at a place keeps its highest digit's place, or comes to the next power of 2. -/
theorem bl_cut (r b : Nat) (h : b < bl r) : bl (r / 2 ^ b) = bl r - b := by
  have hr : r / 2 ^ b ≠ 0 := by
    intro e
    have h0 : r ≠ 0 := fun e0 => by rw [e0, bl_zero] at h; omega
    have := (bl_spec r).2 h0
    have h2 : r < 2 ^ b := (Nat.div_eq_zero_iff_lt (Nat.pow_pos (by omega))).1 e
    have h3 : 2 ^ b ≤ 2 ^ (bl r - 1) := Nat.pow_le_pow_right (by omega) (by omega)
    omega
  have := bl_shift r b hr
  omega
theorem bl_range {n k : Nat} (h1 : 2 ^ k ≤ n) (h2 : n < 2 ^ (k + 1)) : bl n = k + 1 := by
  have a := bl_le.2 h2
  rcases Nat.lt_or_ge (bl n) (k + 1) with h | h
  · have := bl_le.1 (show bl n ≤ k by omega); omega
  · omega
theorem bl_lo {n : Nat} (h : n ≠ 0) : 2 ^ (bl n - 1) ≤ n := (bl_spec n).2 h
theorem cutN_range (r p : Nat) (s : Bool) (m : Nat) (neg : Bool) (hp : 0 < p) (h : p < bl r) : 2 ^ (p - 1) ≤ cutN r (bl r - p) s m neg ∧ cutN r (bl r - p) s m neg ≤ 2 ^ p := by
  have hb := bl_cut r (bl r - p) (by omega)
  have e : bl r - (bl r - p) = p := by omega
  rw [e] at hb
  obtain ⟨h1, h2⟩ := cutN_le r (bl r - p) s m neg
  have h0 : r / 2 ^ (bl r - p) ≠ 0 := fun e0 => by rw [e0, bl_zero] at hb; omega
  have h3 := bl_lo h0
  have h4 := (bl_spec (r / 2 ^ (bl r - p))).1
  rw [hb] at h3 h4
  exact ⟨by omega, by omega⟩

end Go.Proofs.YtefpoconpeggpaaGreatDoor.Rd

namespace Go.Proofs.YtefpoconpeggpaaGreatDoor.Rd
set_option linter.unusedVariables false

/-- Does a word (without its sign) stand for a number? -/
def wFin (f m : Nat) : Bool := decide (wField f m ≤ 2 * fE f)
theorem wFin_iff (f m : Nat) (h : m < 2 ^ (fB f - 1)) : wFin f m = true ↔ m < (2 * fE f + 1) * 2 ^ (fP f - 1) := by
  unfold wFin
  rw [wField_lo f m h, decide_eq_true_eq, ← Nat.div_lt_iff_lt_mul (Nat.pow_pos (by omega))]
  omega
theorem fin_lt (f : Nat) : (2 * fE f + 1) * 2 ^ (fP f - 1) < 2 ^ (fB f - 1) := by
  have e : 2 ^ (fB f - 1) = 2 ^ fK f * 2 ^ (fP f - 1) := by rw [← Nat.pow_add, fBPK]; congr 1; have := fP_in f; omega
  rw [e, ← fE_pow]
  exact Nat.mul_lt_mul_of_pos_right (by omega) (Nat.pow_pos (by omega))
theorem find_exact (f : Nat) {m M' : Nat} (hm : m < 2 ^ (fB f - 1)) (hM : M' < (2 * fE f + 1) * 2 ^ (fP f - 1)) : (wFin f m = true ∧ wV f m ≤ wV f M') ↔ m ≤ M' := by
  have hl := fin_lt f
  rw [wFin_iff f m hm]
  constructor
  · rintro ⟨_, h⟩
    rcases Nat.lt_or_ge M' m with h' | h'
    · have := wV_lt_of_lt f hm h'; omega
    · exact h'
  · intro h
    exact ⟨by omega, wV_le_of_le f (by omega) h⟩

/-- The word of j and s without its sign, where it is finite. -/
def wEnc (f j s : Nat) : Nat := j * 2 ^ (fP f - 1) + s
theorem wEnc_fin (f j s : Nat) (hj : j + 1 ≤ 2 * fE f) (hs : s < 2 ^ fP f) : wEnc f j s < (2 * fE f + 1) * 2 ^ (fP f - 1) := by
  unfold wEnc
  have e : 2 ^ fP f = 2 * 2 ^ (fP f - 1) := by
    obtain ⟨p, hp⟩ : ∃ p, fP f = p + 1 := ⟨fP f - 1, by have := fP_in f; omega⟩
    rw [hp, Nat.add_sub_cancel, Nat.pow_succ]; omega
  rw [e] at hs
  generalize 2 ^ (fP f - 1) = q at *
  have h1 : (j + 2) * q ≤ (2 * fE f + 1) * q := Nat.mul_le_mul_right _ (by omega)
  rw [Nat.add_mul] at h1
  omega
end Go.Proofs.YtefpoconpeggpaaGreatDoor.Rd

namespace Go.Proofs.YtefpoconpeggpaaGreatDoor.Rd
open Go Go.RowKit
set_option linter.unusedVariables false
set_option linter.unusedSimpArgs false
set_option maxRecDepth 100000

theorem bits_and_i64 (a b : Nat) (ha : a < 9223372036854775808) (hb : b < 9223372036854775808) : bits .and .i64 (a : Int) (b : Int) = ((a &&& b : Nat) : Int) := by
  have hx : a &&& b < 2 ^ 63 := Nat.and_lt_two_pow _ (by omega)
  have h1 : (BitVec.ofInt 64 (a : Int)).toNat = a := by
    rw [BitVec.ofInt_natCast, BitVec.toNat_ofNat]; exact Nat.mod_eq_of_lt (by omega)
  have h2 : (BitVec.ofInt 64 (b : Int)).toNat = b := by
    rw [BitVec.ofInt_natCast, BitVec.toNat_ofNat]; exact Nat.mod_eq_of_lt (by omega)
  show IntKind.i64.wrap ((BitVec.ofInt 64 (a : Int) &&& BitVec.ofInt 64 (b : Int)).toNat : Int) = _
  rw [BitVec.toNat_and, h1, h2, IntKind.wrap_i64]
  omega

/-- The cells of a word's parts. -/
def ptC (f m : Nat) : Array Value := fmC f ++ (#[.bool (wNeg f m), .int .i64 (wField f m : Nat)] ++ wc 8 (wFrac f m))
theorem ptC_size (f m : Nat) : (ptC f m).size = 15 := by simp [ptC, fmC]
theorem ptC_one (f m : Nat) : OneC (ptC f m) := ⟨by unfold ptC; rw [Array.all_append, Array.all_append, wc_one]; simp [fmC, Value.oneCell']⟩

theorem wNeg_bit (f m : Nat) (h : m < 2 ^ fB f) : m.testBit (fB f - 1) = wNeg f m := by
  have hb := fB_in f
  obtain ⟨k, hk⟩ : ∃ k, fB f = k + 1 := ⟨fB f - 1, by omega⟩
  unfold wNeg
  rw [hk] at h ⊢
  rw [Nat.add_sub_cancel, Nat.testBit_eq_decide_div_mod_eq]
  have hp : 0 < 2 ^ k := Nat.pow_pos (by omega)
  rw [Nat.pow_succ] at h
  by_cases h' : 2 ^ k ≤ m
  · have : m / 2 ^ k = 1 := Nat.div_eq_of_lt_le (by omega) (by omega)
    simp [this, h']
  · rw [Nat.div_eq_of_lt (by omega)]; simp [h']
theorem wHigh (f m : Nat) (h : m < 2 ^ fB f) : m / 2 ^ (fP f - 1) < 2 ^ (fK f + 1) := by
  have hp := fP_in f
  rw [Nat.div_lt_iff_lt_mul (Nat.pow_pos (by omega)), ← Nat.pow_add, show fK f + 1 + (fP f - 1) = fB f by rw [fBPK]; omega]
  exact h

theorem build_parts (f : Nat) (b : Bool) (x : Int) (n : Nat) (w : World) : (Instr.build 222 (List.toArray [(0, .agg (fmC f)), (1, .bool b), (2, .int .i64 x), (3, W n)])).run Tryz.prog w = .ok (.agg (fmC f ++ (#[.bool b, .int .i64 x] ++ wc 8 n))) w := by kernel_rfl

set_option maxHeartbeats 4000000 in
theorem ask_int (f : Nat) (h1 : 1 ≤ f) (h4 : f ≤ 4) (m : Nat) (hm : m < 2 ^ fB f) (g : FuncId) (hg : GoF Tryz.prog g) (x : Int) (w0 : World) (hF : FmtIn w0)
    (hgv : ∀ w, Keeps [] w0 w → GivesAt Tryz.prog g #[.agg (ptC f m)] (.int .i64 x) w) : GivesAt Tryz.prog 152 #[.int .i64 f, Wd m, .func (.func g) #[] #[]] (.int .i64 x) w0 := by
  have hst := St.start [] w0
  have hk := Lib.hid (fun w (k : Keeps [] w0 w) => hF.keep k (by simp))
  have hm2 : m < M2 := Nat.lt_of_lt_of_le hm (by
    have := (fB_in f).2
    exact Nat.pow_le_pow_right (by omega) this)
  have hfit := fun w h => format_Fits f h1 h4 m hm2 w h
  rw [decide_eq_true hm] at hfit
  have hof := fun w h => format_Of f h1 h4 w h
  have hfr := wide_From m hm2
  have hmM : m < M := Nat.lt_of_lt_of_le hm2 (by rw [M_eq]; exact Nat.pow_le_pow_right B_pos (by omega))
  have hp := fP_in f
  have hb := fB_in f
  have hK := fK_in f
  have hhi := wHigh f m hm
  have hshr := wide_Shr m (fP f - 1 : Nat) hmM
  rw [clampN_nat _ (by omega)] at hshr
  have hle : m / 2 ^ (fP f - 1) * 2 ^ (fP f - 1) ≤ m := Nat.div_mul_le_self _ _
  have hshl := wide_Shl (m / 2 ^ (fP f - 1)) (fP f - 1 : Nat) (Nat.lt_of_le_of_lt (Nat.div_le_self _ _) hmM)
  rw [clampN_nat _ (by omega), Nat.mod_eq_of_lt (Nat.lt_of_le_of_lt hle hmM)] at hshl
  have hsub := wide_Sub m (m / 2 ^ (fP f - 1) * 2 ^ (fP f - 1)) hmM (Nat.lt_of_le_of_lt hle hmM)
  have hfrac : (m + M - m / 2 ^ (fP f - 1) * 2 ^ (fP f - 1)) % M = wFrac f m := by
    unfold wFrac
    have hd := Nat.div_add_mod m (2 ^ (fP f - 1))
    rw [Nat.mul_comm] at hd
    rw [show m + M - m / 2 ^ (fP f - 1) * 2 ^ (fP f - 1) = m % 2 ^ (fP f - 1) + M by omega, Nat.add_mod_right, Nat.mod_eq_of_lt (by omega)]
  rw [hfrac] at hsub
  have hbit := wide_Bit m (fB f - 1) hmM (by omega)
  rw [wNeg_bit f m hm] at hbit
  have hfield : bits .and .i64 ((m / 2 ^ (fP f - 1) : Nat) : Int) ((2 ^ fK f - 1 : Nat) : Int) = (wField f m : Int) := by
    have a1 : 2 ^ (fK f + 1) ≤ 2 ^ 16 := Nat.pow_le_pow_right (by omega) (by omega)
    have a2 : 2 ^ fK f ≤ 2 ^ 16 := Nat.pow_le_pow_right (by omega) (by omega)
    rw [bits_and_i64 _ _ (by omega) (by omega), Nat.and_two_pow_sub_one_eq_mod]
    rfl
  have hhB : m / 2 ^ (fP f - 1) < 65536 + 1 := by
    have a1 : 2 ^ (fK f + 1) ≤ 2 ^ 16 := Nat.pow_le_pow_right (by omega) (by omega)
    omega
  have hlb : lb (m / 2 ^ (fP f - 1)) 0 = m / 2 ^ (fP f - 1) := by rw [lb_zero, Nat.mod_eq_of_lt (by rw [B_val]; omega)]
  have hpow : (2 : Int) ^ fK f - 1 = ((2 ^ fK f - 1 : Nat) : Int) := by
    have : 0 < 2 ^ fK f := Nat.pow_pos (by omega)
    rw [Int.natCast_sub (by omega)]; simp
  have hpw : 2 ^ fK f ≤ 65536 := by
    have a2 : 2 ^ fK f ≤ 2 ^ 16 := Nat.pow_le_pow_right (by omega) (by omega)
    omega
  have A1 : IntKind.i64.wrap ((m / 2 ^ (fP f - 1) : Nat) : Int) = ((m / 2 ^ (fP f - 1) : Nat) : Int) := by rw [IntKind.wrap_i64]; omega
  have A2 : IntKind.i64.wrap ((2 : Int) ^ fK f) = (2 : Int) ^ fK f := by rw [show (2 : Int) ^ fK f = ((2 ^ fK f - 1 : Nat) : Int) + 1 by omega, IntKind.wrap_i64]; omega
  have A3 : IntKind.i64.wrap ((2 : Int) ^ fK f - 1) = ((2 ^ fK f - 1 : Nat) : Int) := by rw [hpow, IntKind.wrap_i64]; omega
  clear hpow
  have c1 : ((fP f - 1 : Nat) : Int) = (fP f : Int) - 1 := by omega
  have c2 : ((fB f - 1 : Nat) : Int) = (fB f : Int) - 1 := by omega
  rw [c1] at hshr hshl
  rw [c2] at hbit
  have z1 := fmC_size f
  have z2 := fmC_one f
  have g0 : (fmC f)[0]? = some (.int .i64 (fB f : Nat)) := rfl
  have g1 : (fmC f)[0 + 1]? = some (.int .i64 (fP f : Nat)) := rfl
  have g4 : (fmC f)[0 + 4]? = some (.int .i64 (fK f : Nat)) := rfl
  have y1 := ptC_size f m
  have y2 := ptC_one f m
  have hpt : ptC f m = fmC f ++ (#[.bool (wNeg f m), .int .i64 (wField f m : Nat)] ++ wc 8 (wFrac f m)) := rfl
  have hgv' := Lib.hid hgv
  have hw1 : IntKind.i64.wrap ((fP f : Int) - 1) = (fP f : Int) - 1 := by rw [IntKind.wrap_i64]; omega
  have hw2 : IntKind.i64.wrap ((fB f : Int) - 1) = (fB f : Int) - 1 := by rw [IntKind.wrap_i64]; omega
  have hbp := fun w => build_parts f (wNeg f m) (wField f m : Nat) (wFrac f m) w
  rw [← hpt] at hbp
  clear hF hm hm2 hmM hhi hle hfrac hgv c1 c2 hpt
  generalize ptC f m = ps at *
  generalize m / 2 ^ (fP f - 1) * 2 ^ (fP f - 1) = hx at *
  generalize m / 2 ^ (fP f - 1) = hi' at *
  generalize wFrac f m = fr at *
  generalize wField f m = fld at *
  generalize wNeg f m = ng at *
  generalize fmC f = cs at *
  go_enter Tryz.func152, Tryz.ntmps152
  go_wp2_with ((first | (refine kg gf169 hst (fun w hst => hfit w (hk.out w hst.keeps)) rfl rfl rfl rfl ?_; clear hst; intro w hst) | (refine kg gf70 hst (fun w hst => hof w (hk.out w hst.keeps)) rfl rfl rfl rfl ?_; clear hst; intro w hst) | (refine kf gf170 hst (hfr) rfl rfl rfl rfl ?_; clear hst; intro w hst) | (refine kf gf87 hst (hshr) rfl rfl rfl rfl ?_; clear hst; intro w hst) | (refine kb 4 hst rfl rfl ?_; clear hst; intro b4 w hb4 hst) | (refine kl hst ta24 rfl ?_) | (refine ka 8 hst tz128 rfl rfl ?_; clear hst; intro b8 w hb8 hst) | (refine kt hst ta128 rfl rfl ?_; clear hst; intro w hst) | (refine ka 10 hst tz44 rfl rfl ?_; clear hst; intro b10 w hb10 hst) | (refine kt hst ta44 rfl rfl ?_; clear hst; intro w hst) | (refine kl hst ta44 rfl ?_) | (refine kc hst tc3 rfl ?_) | (refine ka 11 hst tz44 rfl rfl ?_; clear hst; intro b11 w hb11 hst)); try simp only [pz, pn, sz, sc])
  refine wp_region_T 11  hst (by kernel_rfl) ?_; clear hst; intro w hst; (try simp only [List.length_cons, List.length_nil, Nat.reduceAdd, Array.replicate_succ, Array.replicate_zero, List.push_toArray, List.nil_append, List.cons_append])
  refine r0 2 ?_; simp only [pz, pn, sz, sc, hw1]
  refine rl 0 rfl ?_ (by first | exact ylA ta44 | exact ylM ta44); simp only [pz, pn, sz, sc, hw1]
  refine rl 1 rfl ?_ (by first | exact ylA ta44 | exact ylM ta44); simp only [pz, pn, sz, sc, hw1]
  refine rl 3 rfl ?_ (ylC tc3); simp only [pz, pn, sz, sc, hw1]
  refine r0 4 ?_; simp only [pz, pn, sz, sc, hw1]
  refine r2 5 10 ?_ ?_
  (refine kf gf48 hst (hshl) rfl rfl rfl rfl ?_; clear hst; intro w hst); (try simp only [pz, pn, sz, sc, hw1]); refine re ?_
  refine r2 6 10 ?_ ?_
  (refine kf gf122 hst (hsub) rfl rfl rfl rfl ?_; clear hst; intro w hst); (try simp only [pz, pn, sz, sc, hw1]); refine re ?_
  refine r0 7 ?_; simp only [pz, pn, sz, sc, hw1]
  refine r0 8 ?_; simp only [pz, pn, sz, sc, hw1]
  refine r0 9 ?_; simp only [pz, pn, sz, sc, hw1]
  refine r1 10 ?_; (refine ka 13 hst tz44 rfl rfl ?_; clear hst; intro b13 w hb13 hst); (try simp only [pz, pn, sz, sc, hw1]); refine re ?_
  refine r1 11 ?_; (refine kt hst ta44 rfl rfl ?_; clear hst; intro w hst); (try simp only [pz, pn, sz, sc, hw1]); refine re ?_
  refine r0 12 ?_; simp only [pz, pn, sz, sc, hw1]
  refine rd_ ?_
  rotate_left 1
  (refine ka 13 hst tz44 rfl rfl ?_; clear hst; intro b13 w hb13 hst); (try simp only [pz, pn, sz, sc, hw1]); refine re ?_
  refine r1 6 ?_; (refine kf gf122 hst (hsub) rfl rfl rfl rfl ?_; clear hst; intro w hst); (try simp only [pz, pn, sz, sc, hw1]); refine re ?_
  refine r0 7 ?_; simp only [pz, pn, sz, sc, hw1]
  refine r0 8 ?_; simp only [pz, pn, sz, sc, hw1]
  refine r0 9 ?_; simp only [pz, pn, sz, sc, hw1]
  refine r1 11 ?_; (refine kt hst ta44 rfl rfl ?_; clear hst; intro w hst); (try simp only [pz, pn, sz, sc, hw1]); refine re ?_
  refine r0 12 ?_; simp only [pz, pn, sz, sc, hw1]
  refine rd_ ?_
  rotate_right 1
  rotate_left 2
  (refine ka 13 hst tz44 rfl rfl ?_; clear hst; intro b13 w hb13 hst); (try simp only [pz, pn, sz, sc, hw1]); refine re ?_
  refine r1 5 ?_; (refine kf gf48 hst (hshl) rfl rfl rfl rfl ?_; clear hst; intro w hst); (try simp only [pz, pn, sz, sc, hw1]); refine re ?_
  refine r1 6 ?_; (refine kf gf122 hst (hsub) rfl rfl rfl rfl ?_; clear hst; intro w hst); (try simp only [pz, pn, sz, sc, hw1]); refine re ?_
  refine r0 7 ?_; simp only [pz, pn, sz, sc, hw1]
  refine r0 8 ?_; simp only [pz, pn, sz, sc, hw1]
  refine r0 9 ?_; simp only [pz, pn, sz, sc, hw1]
  refine r1 11 ?_; (refine kt hst ta44 rfl rfl ?_; clear hst; intro w hst); (try simp only [pz, pn, sz, sc, hw1]); refine re ?_
  refine r0 12 ?_; simp only [pz, pn, sz, sc, hw1]
  refine rd_ ?_
  rotate_right 2
  all_goals
    go_wp2_with fail
    refine wp_region_T 9  hst (by kernel_rfl) ?_; clear hst; intro w hst; (try simp only [List.length_cons, List.length_nil, Nat.reduceAdd, Array.replicate_succ, Array.replicate_zero, List.push_toArray, List.nil_append, List.cons_append])
    refine r0 0 ?_; simp only [pz, pn, sz, sc, A1, A2, A3, hfield]
    refine r0 3 ?_; simp only [pz, pn, sz, sc, A1, A2, A3, hfield]
    refine rl 1 rfl ?_ (ylC tc22); simp only [pz, pn, sz, sc, A1, A2, A3, hfield]
    refine r0 2 ?_; simp only [pz, pn, sz, sc, A1, A2, A3, hfield]
    refine rl 4 rfl ?_ (ylC tc3); simp only [pz, pn, sz, sc, A1, A2, A3, hfield]
    refine r0 5 ?_; simp only [pz, pn, sz, sc, A1, A2, A3, hfield]
    refine r0 6 ?_; simp only [pz, pn, sz, sc, A1, A2, A3, hfield]
    refine r0 7 ?_; simp only [pz, pn, sz, sc, A1, A2, A3, hfield]
    refine r0 8 ?_; simp only [pz, pn, sz, sc, A1, A2, A3, hfield]
    refine rd_ ?_
    go_wp2_with fail
    refine wp_region_T 12  hst (by kernel_rfl) ?_; clear hst; intro w hst; (try simp only [List.length_cons, List.length_nil, Nat.reduceAdd, Array.replicate_succ, Array.replicate_zero, List.push_toArray, List.nil_append, List.cons_append])
    refine r0 0 ?_; simp only [pz, pn, sz, sc, hw2]
    refine r0 3 ?_; simp only [pz, pn, sz, sc, hw2]
    refine r0 7 ?_; simp only [pz, pn, sz, sc, hw2]
    refine rl 1 rfl ?_ (by first | exact ylA ta128 | exact ylM ta128); simp only [pz, pn, sz, sc, hw2]
    refine rl 2 rfl ?_ (by first | exact ylA ta44 | exact ylM ta44); simp only [pz, pn, sz, sc, hw2]
    refine rl 4 rfl ?_ (ylC tc3); simp only [pz, pn, sz, sc, hw2]
    refine r0 5 ?_; simp only [pz, pn, sz, sc, hw2]
    refine rl 8 rfl ?_ (by first | exact ylA ta44 | exact ylM ta44); simp only [pz, pn, sz, sc, hw2]
    refine r1 6 ?_; (refine kf gf86 hst (hbit) rfl rfl rfl rfl ?_; clear hst; intro w hst); (try simp only [pz, pn, sz, sc, hw2]); refine re ?_
    refine r0 9 ?_ (hy := yB (hbp)); simp only [pz, pn, sz, sc, hw2]
    refine r1 10 ?_; (refine kg hg hst (fun w hst => hgv'.out w hst.keeps) rfl rfl rfl rfl ?_; clear hst; intro w hst); (try simp only [pz, pn, sz, sc, hw2]); refine re ?_
    refine r0 11 ?_; simp only [pz, pn, sz, sc, hw2]
    refine rd_ ?_
    go_wp2_with fail
    refine bp_t rfl rfl (by rfl) ⟨?_, hst.keeps⟩
    rfl

end Go.Proofs.YtefpoconpeggpaaGreatDoor.Rd
