/- Laws of calls that bring new blocks, or write some of ours; what limb.made, Shift answer. -/
import Derived.Test.YtggchelniblipaaGreatJ03
import Derived.Deep.MidRow
import Derived.Test.YtggchelniblipaaGreatJ02
import Derived.Laws.MakeOwn
import Derived.Test.YtggchelniblipaaGreatJ04
namespace Go.Proofs.YtggchelniblipaaGreat.Rd
open Go Go.RowKit
set_option linter.unusedVariables false
set_option linter.unusedSimpArgs false

/-- Cells set one by one from a place on. -/
def setAll (cs : Array Value) : Nat → List Value → Array Value
  | _, [] => cs
  | o, v :: r => setAll (cs.setIfInBounds o v) (o + 1) r
theorem setAll_size : ∀ (vs : List Value) (o : Nat) (cs : Array Value), (setAll cs o vs).size = cs.size
  | [], _, _ => rfl
  | v :: r, o, cs => by unfold setAll; rw [setAll_size r]; simp
theorem setAll_get : ∀ (vs : List Value) (o : Nat) (cs : Array Value) (k : Nat), (setAll cs o vs)[k]? = if o ≤ k ∧ k < o + vs.length ∧ k < cs.size then vs[k - o]? else cs[k]?
  | [], o, cs, k => by unfold setAll; rw [if_neg]; simp; omega
  | v :: r, o, cs, k => by
    unfold setAll
    rw [setAll_get r (o + 1) _ k]
    simp only [Array.size_setIfInBounds, List.length_cons]
    by_cases h1 : o = k
    · subst h1
      rw [if_neg (by omega)]
      by_cases h2 : o < cs.size
      · rw [if_pos (by omega)]; simp [Array.getElem?_setIfInBounds, h2]
      · rw [if_neg (by omega)]; simp [Array.getElem?_setIfInBounds, h2]
    · by_cases h2 : o + 1 ≤ k ∧ k < o + 1 + r.length ∧ k < cs.size
      · rw [if_pos h2, if_pos (by omega), show k - o = (k - (o + 1)) + 1 by omega]; rfl
      · rw [if_neg h2, if_neg (by omega), Array.getElem?_setIfInBounds, if_neg h1]

/-- cs has sub at place o; with sub' there it is cs'. -/
def Part (cs sub cs' sub' : Array Value) (o : Nat) : Prop := ∃ pre post : Array Value, cs = pre ++ sub ++ post ∧ cs' = pre ++ sub' ++ post ∧ pre.size = o ∧ sub'.size = sub.size
theorem Part.get {cs sub cs' sub' : Array Value} {o : Nat} (h : Part cs sub cs' sub' o) {j : Nat} {v : Value} (hv : sub[j]? = some v) : cs[o + j]? = some v := by
  obtain ⟨pre, post, rfl, _, rfl, _⟩ := h
  have hj : j < sub.size := (Array.getElem?_eq_some_iff.1 hv).1
  rw [Array.append_assoc, Array.getElem?_append_right (by omega), Nat.add_sub_cancel_left, Array.getElem?_append_left hj]
  exact hv
theorem Part.le {cs sub cs' sub' : Array Value} {o : Nat} (h : Part cs sub cs' sub' o) : o + sub.size ≤ cs.size := by
  obtain ⟨pre, post, rfl, _, rfl, _⟩ := h
  simp
theorem Part.set {cs sub cs' sub' : Array Value} {o : Nat} (h : Part cs sub cs' sub' o) : setAll cs o sub'.toList = cs' := by
  have hle := h.le
  obtain ⟨pre, post, rfl, rfl, rfl, hs⟩ := h
  apply Array.ext_getElem?
  intro k
  rw [setAll_get]
  simp only [Array.length_toList, Array.size_append] at *
  split
  · rename_i hk
    rw [Array.append_assoc, Array.getElem?_append_right (by omega), Array.getElem?_append_left (by omega), Array.getElem?_toList]
  · rename_i hk
    by_cases h1 : k < pre.size
    · rw [Array.append_assoc, Array.append_assoc, Array.getElem?_append_left h1, Array.getElem?_append_left h1]
    · by_cases h2 : k < pre.size + sub.size
      · exact absurd ⟨by omega, by omega, by omega⟩ hk
      · rw [Array.getElem?_append_right (by simp; omega), Array.getElem?_append_right (by simp; omega)]
        simp [hs]
theorem part0 (a a' b : Array Value) (h : a'.size = a.size) : Part (a ++ b) a (a' ++ b) a' 0 := ⟨#[], b, by simp, by simp, rfl, h⟩
theorem part1 (n : Nat) (a b b' : Array Value) (hn : a.size = n) (h : b'.size = b.size) : Part (a ++ b) b (a ++ b') b' n := ⟨a, #[], by simp, by simp, hn, h⟩

/-- The cells of some wides, one behind the other. -/
def wcs : List Nat → Array Value
  | [] => #[]
  | n :: l => wc 8 n ++ wcs l
theorem wcs_size : ∀ l, (wcs l).size = 8 * l.length
  | [] => rfl
  | n :: l => by simp [wcs, wcs_size l]; omega
theorem wcs_part : ∀ (l : List Nat) (i n : Nat), l[i]? = some n → Part (wcs l) (wc 8 n) (wcs l) (wc 8 n) (8 * i)
  | [], i, n, h => by simp at h
  | m :: l, 0, n, h => by
    simp at h; subst h
    exact part0 _ _ _ rfl
  | m :: l, i + 1, n, h => by
    obtain ⟨pre, post, h1, h2, h3, h4⟩ := wcs_part l i n (by simpa using h)
    exact ⟨wc 8 m ++ pre, post, by rw [wcs, h1]; simp, by rw [wcs, h1]; simp, by simp [h3]; omega, h4⟩
theorem wcs_at {l : List Nat} {i n : Nat} (h : l[i]? = some n) : Part (wcs l) (wc 8 n) (wcs l) (wc 8 n) (i * 8) := by rw [Nat.mul_comm]; exact wcs_part l i n h

theorem heap_setCells (b : Nat) (E : TypeId) : ∀ (vs : List Value) (o : Nat) (cs : Array Value) (w : World), w.heap[b]? = some (.cells cs E (0, 0)) →
    (w.setCells b o vs).heap[b]? = some (.cells (setAll cs o vs) E (0, 0)) ∧ Keeps [b] w (w.setCells b o vs)
  | [], _, _, w, h => ⟨h, Keeps.refl _ _⟩
  | v :: r, o, cs, w, h => by
    have h1 := heap_setCell_same w b o cs E v h
    obtain ⟨h2, h3⟩ := heap_setCells b E r (o + 1) _ _ h1
    have hk : Keeps [b] w (w.setCell ⟨b, o, none⟩ v) := ⟨rfl, rfl, rfl, by simp [World.setCell], fun k _ hn => heap_setCell_other w ⟨b, o, none⟩ k v (by simpa using hn)⟩
    exact ⟨h2, hk.trans h3 (fun x hx _ => hx)⟩

section laws
variable {P : Program} {ops : Array Oper} {rest : List Oper} {Q : Exit → Act → World → Prop} {a : Act} {w w0 : World} {S : List Nat} {L L' : List (Nat × Obj)}

theorem descAgg_row {d : TypeDesc} (h : descAgg d = true) : d.isRow = true := by cases d <;> first | rfl | cases h

theorem run_loadMid {T : TypeId} {b n o : Nat} {cs sub cs' sub' : Array Value} {E : TypeId} {fr : Nat × Nat} (hT : AggT P T n) (hn : sub.size = n) (hc : Part cs sub cs' sub' o) (hb : w.heap[b]? = some (.cells cs E fr)) :
    (Instr.loadAt T (.pointer (some ⟨b, o, none⟩))).run P w = .ok (.agg sub) w := by
  obtain ⟨d, hu, hd, hi⟩ := hT
  have := run_loadAt_mid (P := P) w b o T sub.toList d (fun j v hv => by
    rw [cell_of_row w b (o + j) cs E fr hb]
    exact hc.get (by rwa [Array.getElem?_toList] at hv)) hu (descAgg_row hd) (by rw [Array.length_toList, hn]; exact hi)
  simpa using this

/-- A load of a struct or an array out of the middle of a block. -/
theorem klm {o : Oper} {T : TypeId} {x : Operand} {n b f : Nat} {cs sub cs' sub' : Array Value} {E : TypeId} {fr : Nat × Nat} (hst : St w0 S L w) (hT : AggT P T n) (ho : o.op = .load T x) (h : wpList P ops Q rest (a.put o.dst (.agg sub)) w)
    (hx : a.eval x = .pointer (some ⟨b, f, none⟩) := by rfl) (hm : (b, .cells cs E fr) ∈ L := by repeat (first | exact List.Mem.head _ | refine List.Mem.tail _ ?_))
    (hc : Part cs sub cs' sub' f := by first | exact wcs_at (by assumption) | exact part0 _ _ _ rfl | exact part1 _ _ _ _ (by first | rfl | exact wc_size _ _) rfl) (hn : sub.size = n := by first | rfl | exact wc_size _ _) (hg : o.guard = none := by rfl) : wpList P ops Q (o :: rest) a w := by
  refine wpList_plain hg fun K hK => ?_
  unfold Oper.wp execOp
  simp only [ho, hx, Sem.run_bind, run_loadMid hT hn hc (hst.own _ _ hm), Sem.run_pure, Result.andThen_ok]
  exact hK _ _ h

/-- A store of a struct or an array into the middle of a block. -/
theorem ktm {o : Oper} {T : TypeId} {x y : Operand} {n b f : Nat} {cs sub cs' sub' : Array Value} {E : TypeId} (hst : St w0 S L w) (hT : AggT P T n) (hd : o.dst = none) (ho : o.op = .store T x y) (h : ∀ w', St w0 S L' w' → wpList P ops Q rest a w')
    (hx : a.eval x = .pointer (some ⟨b, f, none⟩) := by rfl) (hy : a.eval y = .agg sub' := by rfl) (h1 : sub'.all (·.oneCell') = true := by first | rfl | exact wc_one _ _ | exact wdc_one _ | exact OneC.h (by assumption) | kernel_rfl)
    (hm : (b, .cells cs E (0, 0)) ∈ L := by repeat (first | exact List.Mem.head _ | refine List.Mem.tail _ ?_))
    (hc : Part cs sub cs' sub' f := by first | exact part0 _ _ _ (by simp) | exact part1 _ _ _ _ (by first | rfl | exact wc_size _ _) (by simp)) (hn : sub'.size = n := by first | rfl | exact wc_size _ _)
    (hat : At b (.cells cs E (0, 0)) (.cells cs' E (0, 0)) L L' := by repeat (first | exact At.head _ | apply At.tail))
    (hb : w0.heap.size ≤ b ∨ b ∈ S := by first | exact Or.inl (by assumption) | (refine Or.inr ?_; simp)) (hg : o.guard = none := by rfl) : wpList P ops Q (o :: rest) a w := by
  obtain ⟨_, _, _, hi⟩ := hT
  have hown := hst.own _ _ hat.mem
  have hle := hc.le
  have hs : sub'.size = sub.size := by obtain ⟨_, _, _, _, _, h⟩ := hc; exact h
  have ht : w.there b f sub'.size := fun j hj => by
    rw [cell_of_row w b (f + j) cs E _ hown, frozen_of_row w b (f + j) cs E hown]
    exact ⟨by rw [Array.getElem?_eq_getElem (by omega)]; rfl, rfl⟩
  obtain ⟨h2, h3⟩ := heap_setCells b E sub'.toList f cs w hown
  rw [hc.set] at h2
  refine wpList_plain hg fun K hK => ?_
  unfold Oper.wp execOp
  simp only [ho, hx, hy, Sem.run_bind, run_storeAt_mid (P := P) w b f T sub' ht (by rw [hn]; exact hi) h1, Sem.run_pure, Result.andThen_ok]
  have hput : a.put o.dst undef = a := by rw [hd]; rfl
  rw [Oper.upon_skip, hput]
  exact hK _ _ (h _ (hst.put hat hb h3 h2))

theorem run_opLoadMid {o : Oper} {T : TypeId} {x : Operand} {n b f : Nat} {cs sub cs' sub' : Array Value} {E : TypeId} {fr : Nat × Nat} (hst : St w0 S L w) (hT : AggT P T n) (ho : o.op = .load T x) (hx : a.eval x = .pointer (some ⟨b, f, none⟩))
    (hm : (b, .cells cs E fr) ∈ L) (hc : Part cs sub cs' sub' f) (hn : sub.size = n) : (execOp a.eval o).run P w = .ok (.value (.agg sub)) w := by
  unfold execOp
  simp only [ho, hx, Sem.run_bind, run_loadMid hT hn hc (hst.own _ _ hm), Sem.run_pure, Result.andThen_ok]
theorem ylM {T : TypeId} {x : Operand} {m b f : Nat} {cs sub cs' sub' : Array Value} {E : TypeId} {fr : Nat × Nat} {ty : TypeId} {pos : String} {af : Array Edge} {dst : Option Tmp} {g : Option (Nat × Bool)} (hT : AggT P T m)
    (hx : a.eval x = .pointer (some ⟨b, f, none⟩) := by rfl) (hm : (b, .cells cs E fr) ∈ L := by repeat (first | exact List.Mem.head _ | refine List.Mem.tail _ ?_))
    (hc : Part cs sub cs' sub' f := by first | exact wcs_at (by assumption) | exact part0 _ _ _ rfl | exact part1 _ _ _ _ (by first | rfl | exact wc_size _ _) rfl) (hn : sub.size = m := by first | rfl | exact wc_size _ _) :
    ∀ w, St w0 S L w → (execOp a.eval ⟨dst, .load T x, ty, pos, af, g⟩).run P w = .ok (.value (.agg sub)) w := fun _ hw => run_opLoadMid hw hT rfl hx hm hc hn

/-- A struct, or an array, that is built. -/
theorem kB {o : Oper} {T : TypeId} {parts : Array (Nat × Operand)} {v : Value} {args : List (Nat × Value)} (hb : ∀ w, (Instr.build T args.toArray).run P w = .ok v w) (ho : o.op = .build T parts)
    (h : wpList P ops Q rest (a.put o.dst v) w) (hargs : parts.toList.map (fun q => (q.1, a.eval q.2)) = args := by rfl) (hg : o.guard = none := by rfl) : wpList P ops Q (o :: rest) a w := by
  refine wpList_plain hg fun K hK => ?_
  have e : parts.map (fun (i, x) => (i, a.eval x)) = args.toArray := by rw [← hargs]; exact Array.toList_inj.1 (by simp)
  unfold Oper.wp execOp
  simp only [ho, e, Sem.run_bind, hb, Sem.run_pure, Result.andThen_ok]
  exact hK _ _ h
theorem yB {T : TypeId} {parts : Array (Nat × Operand)} {v : Value} {args : List (Nat × Value)} {ty : TypeId} {pos : String} {af : Array Edge} {dst : Option Tmp} {g : Option (Nat × Bool)} (hb : ∀ w, (Instr.build T args.toArray).run P w = .ok v w)
    (hargs : parts.toList.map (fun q => (q.1, a.eval q.2)) = args := by rfl) : ∀ w, (execOp a.eval ⟨dst, .build T parts, ty, pos, af, g⟩).run P w = .ok (.value v) w := fun w => by
  have e : parts.map (fun (i, x) => (i, a.eval x)) = args.toArray := by rw [← hargs]; exact Array.toList_inj.1 (by simp)
  unfold execOp
  simp only [e, Sem.run_bind, hb, Sem.run_pure, Result.andThen_ok]

/-- A slice literal of elements of many cells. -/
theorem kS (s : Nat) {o : Oper} {T e : TypeId} {len : Nat} {parts : Array (Nat × Operand)} {cells : Array Value} {args : List (Nat × Value)} (hst : St w0 S L w) (hu : SliceT P T e) (hb : P.builtSlice e len args = some cells) (hd : o.dst = some s) (ho : o.op = .buildSlice T len parts)
    (h : ∀ b w', w0.heap.size ≤ b → St w0 S ((b, .cells cells e) :: L) w' → wpList P ops Q rest (a.put o.dst (.slice (some ⟨b, 0, none⟩) len len)) w') (hargs : parts.toList.map (fun q => (q.1, a.eval q.2)) = args := by rfl) (hg : o.guard = none := by rfl) : wpList P ops Q (o :: rest) a w :=
  wl_buildSlice hst hu hg ho (by rw [← hb, ← hargs]; simp) h

end laws

theorem tb102_0 (x0 : Option Addr) (w : World) : (Instr.build 102 (List.toArray [(0, .pointer x0)])).run Tryz.prog w = .ok (.agg (#[.pointer x0])) w := by kernel_rfl
theorem tb106_0 (x0 : Option Addr) (w : World) : (Instr.build 106 (List.toArray [(0, .pointer x0)])).run Tryz.prog w = .ok (.agg (#[.pointer x0])) w := by kernel_rfl
theorem tb150_01 (x0 : Int) (x1 : Nat) (w : World) : (Instr.build 150 (List.toArray [(0, .int .i64 x0), (1, W x1)])).run Tryz.prog w = .ok (.agg (#[.int .i64 x0] ++ wc 8 x1)) w := by kernel_rfl
theorem tb150_1 (x1 : Nat) (w : World) : (Instr.build 150 (List.toArray [(1, W x1)])).run Tryz.prog w = .ok (.agg (#[.int .i64 0] ++ wc 8 x1)) w := by kernel_rfl
theorem tb177_01 (x0 : Nat) (x1 : Nat) (w : World) : (Instr.build 177 (List.toArray [(0, W x0), (1, W x1)])).run Tryz.prog w = .ok (.agg (wc 8 x0 ++ wc 8 x1)) w := by kernel_rfl
theorem tb181_012 (x0 : Int) (x1 : Int) (x2 : Nat) (w : World) : (Instr.build 181 (List.toArray [(0, .int .i64 x0), (1, .int .i64 x1), (2, W x2)])).run Tryz.prog w = .ok (.agg (#[.int .i64 x0, .int .i64 x1] ++ wc 8 x2)) w := by kernel_rfl
theorem tb190_01 (x0 : Nat) (x1 : Nat) (w : World) : (Instr.build 190 (List.toArray [(0, W x0), (1, W x1)])).run Tryz.prog w = .ok (.agg (wc 8 x0 ++ wc 8 x1)) w := by kernel_rfl
theorem tb233_01 (x0 : Nat) (x1 : Nat) (w : World) : (Instr.build 233 (List.toArray [(0, W x0), (1, W x1)])).run Tryz.prog w = .ok (.agg (wc 8 x0 ++ wc 8 x1)) w := by kernel_rfl
theorem tb239_01 (x0 : Nat) (x1 : Nat) (w : World) : (Instr.build 239 (List.toArray [(0, W x0), (1, W x1)])).run Tryz.prog w = .ok (.agg (wc 8 x0 ++ wc 8 x1)) w := by kernel_rfl
theorem tb85_01 (x0 : Option Addr) (x1 : Option Addr) (w : World) : (Instr.build 85 (List.toArray [(0, .pointer x0), (1, .pointer x1)])).run Tryz.prog w = .ok (.agg (#[.pointer x0, .pointer x1])) w := by kernel_rfl
theorem tb91_01 (x0 : Option Addr) (x1 : Option Addr) (w : World) : (Instr.build 91 (List.toArray [(0, .pointer x0), (1, .pointer x1)])).run Tryz.prog w = .ok (.agg (#[.pointer x0, .pointer x1])) w := by kernel_rfl
theorem tb94_0 (x0 : Option Addr) (w : World) : (Instr.build 94 (List.toArray [(0, .pointer x0)])).run Tryz.prog w = .ok (.agg (#[.pointer x0])) w := by kernel_rfl
theorem tb98_0 (x0 : Option Addr) (w : World) : (Instr.build 98 (List.toArray [(0, .pointer x0)])).run Tryz.prog w = .ok (.agg (#[.pointer x0])) w := by kernel_rfl
theorem ts162_ : SliceT Tryz.prog 162 25 := by unfold SliceT; kernel_rfl
theorem tw25_2 (x0 x1 : Nat) : Tryz.prog.builtSlice 25 2 [(0, W x0), (1, W x1)] = some (wcs [x0, x1]) := by kernel_rfl
theorem tw25_3 (x0 x1 x2 : Nat) : Tryz.prog.builtSlice 25 3 [(0, W x0), (1, W x1), (2, W x2)] = some (wcs [x0, x1, x2]) := by kernel_rfl
end Go.Proofs.YtggchelniblipaaGreat.Rd

namespace Go.Proofs.YtggchelniblipaaGreat.Rd
open Go Go.RowKit
set_option linter.unusedVariables false
set_option linter.unusedSimpArgs false
set_option maxRecDepth 100000

/-- The cells of a number of k digits. -/
def uw (k n : Nat) : Array Value := (Array.range k).map fun i => .int .u32 (dg n i : Nat)
@[simp] theorem uw_size (k n : Nat) : (uw k n).size = k := by simp [uw]
theorem uw_get (k n i : Nat) (h : i < k) : (uw k n)[i]? = some (.int .u32 (dg n i : Nat)) := by simp [uw, h]

theorem dg_add_at (n d k i : Nat) (hn : n < C ^ k) (hd : d < C) : dg (n + d * C ^ k) i = if i = k then d else dg n i := by
  unfold dg
  rcases Nat.lt_trichotomy i k with h | h | h
  · rw [if_neg (by omega)]
    have e : C ^ k = C ^ i * (C * C ^ (k - i - 1)) := by
      rw [← Nat.pow_succ', ← Nat.pow_add]; congr 1; omega
    rw [e, show n + d * (C ^ i * (C * C ^ (k - i - 1))) = n + C ^ i * (C * (d * C ^ (k - i - 1))) by
      rw [Nat.mul_left_comm, Nat.mul_left_comm d], Nat.add_mul_div_left _ _ (Cp_pos i), Nat.add_mul_mod_self_left]
  · subst h
    rw [if_pos rfl, Nat.add_mul_div_right _ _ (Cp_pos i), Nat.div_eq_of_lt hn, Nat.zero_add, Nat.mod_eq_of_lt hd]
  · rw [if_neg (by omega)]
    have h1 : n + d * C ^ k < C ^ (k + 1) := by
      rw [Nat.pow_succ, Nat.mul_comm (C ^ k)]
      calc n + d * C ^ k < C ^ k + d * C ^ k := by omega
        _ = (d + 1) * C ^ k := by rw [Nat.add_mul, Nat.one_mul, Nat.add_comm]
        _ ≤ C * C ^ k := Nat.mul_le_mul_right _ hd
    have h2 : C ^ (k + 1) ≤ C ^ i := Nat.pow_le_pow_right C_pos h
    have h3 : C ^ k ≤ C ^ i := Nat.pow_le_pow_right C_pos (by omega)
    rw [Nat.div_eq_of_lt (by omega), Nat.div_eq_of_lt (by omega)]

theorem dg_part (n o len i : Nat) (h : i < len) : dg (n / C ^ o % C ^ len) i = dg n (o + i) := by
  unfold dg
  have e : C ^ len = C ^ i * C ^ (len - i) := by rw [← Nat.pow_add]; congr 1; omega
  rw [e, Nat.mod_mul_right_div_self, Nat.div_div_eq_div_mul, ← Nat.pow_add, Nat.mod_mod_of_dvd]
  exact ⟨C ^ (len - i - 1), by rw [← Nat.pow_succ']; congr 1; omega⟩

/-- A number with another digit at a place. -/
def setC (m j d : Nat) : Nat := m % C ^ j + d * C ^ j + m / C ^ (j + 1) * C ^ (j + 1)

theorem setC_eq (m j d : Nat) : setC m j d + dg m j * C ^ j = m + d * C ^ j := by
  have h1 := Nat.div_add_mod m (C ^ (j + 1))
  have h2 := dg_split m j
  unfold setC
  rw [Nat.mul_comm] at h1
  omega

theorem dg_setC (m j d i : Nat) (hd : d < C) : dg (setC m j d) i = if i = j then d else dg m i := by
  have hlo : m % C ^ j < C ^ j := Nat.mod_lt _ (Cp_pos j)
  have hlow : m % C ^ j + d * C ^ j < C ^ (j + 1) := by
    rw [Nat.pow_succ, Nat.mul_comm (C ^ j)]
    have : (d + 1) * C ^ j ≤ C * C ^ j := Nat.mul_le_mul_right _ hd
    rw [Nat.add_mul, Nat.one_mul] at this
    omega
  unfold setC
  rcases Nat.lt_or_ge j i with h | h
  · rw [if_neg (by omega)]
    unfold dg
    have e : C ^ i = C ^ (j + 1) * C ^ (i - (j + 1)) := by rw [← Nat.pow_add]; congr 1; omega
    rw [e, ← Nat.div_div_eq_div_mul, ← Nat.div_div_eq_div_mul, Nat.add_mul_div_right _ _ (Cp_pos (j + 1)), Nat.div_eq_of_lt hlow, Nat.zero_add]
  · have e : m / C ^ (j + 1) * C ^ (j + 1) = C ^ i * (C * (m / C ^ (j + 1) * C ^ (j - i))) := by
      have : C ^ (j + 1) = C ^ i * (C * C ^ (j - i)) := by rw [← Nat.pow_succ', ← Nat.pow_add]; congr 1; omega
      rw [Nat.mul_comm (m / C ^ (j + 1)) (C ^ (j - i)), ← Nat.mul_assoc C, ← Nat.mul_assoc (C ^ i), ← this, Nat.mul_comm]
    have h2 : dg (m % C ^ j + d * C ^ j + m / C ^ (j + 1) * C ^ (j + 1)) i = dg (m % C ^ j + d * C ^ j) i := by
      unfold dg
      rw [e, Nat.add_mul_div_left _ _ (Cp_pos i), Nat.add_mul_mod_self_left]
    rw [h2, dg_add_at _ _ _ _ hlo hd]
    by_cases hij : i = j
    · rw [if_pos hij, if_pos hij]
    · rw [if_neg hij, if_neg hij]
      have := dg_part m 0 j i (by omega)
      simpa using this

theorem uw_setC (k m j d : Nat) (hd : d < C) : (uw k m).setIfInBounds j (.int .u32 (d : Nat)) = uw k (setC m j d) := by
  apply Array.ext_getElem?
  intro i
  rw [Array.getElem?_setIfInBounds]
  by_cases hk : i < k
  · rw [uw_get k _ i hk, uw_get k _ i hk, dg_setC m j d i hd, uw_size]
    by_cases h : j = i
    · subst h; simp [hk]
    · rw [if_neg h, if_neg (by omega)]
  · have e1 : (uw k m)[i]? = none := Array.getElem?_eq_none (by simp; omega)
    have e2 : (uw k (setC m j d))[i]? = none := Array.getElem?_eq_none (by simp; omega)
    rw [e1, e2, uw_size]
    split
    · rename_i h; subst h; rw [if_neg hk]
    · rfl

theorem setC_lt (m j d k : Nat) (hm : m < C ^ k) (hd : d < C) (hj : j < k) : setC m j d < C ^ k := by
  have h : setC m j d % C ^ k = setC m j d := by
    have : setC m j d / C ^ k = 0 := by
      have e : C ^ k = C ^ (j + 1) * C ^ (k - (j + 1)) := by rw [← Nat.pow_add]; congr 1; omega
      have hlow : m % C ^ j + d * C ^ j < C ^ (j + 1) := by
        have hlo : m % C ^ j < C ^ j := Nat.mod_lt _ (Cp_pos j)
        rw [Nat.pow_succ, Nat.mul_comm (C ^ j)]
        have : (d + 1) * C ^ j ≤ C * C ^ j := Nat.mul_le_mul_right _ hd
        rw [Nat.add_mul, Nat.one_mul] at this
        omega
      unfold setC
      rw [e, ← Nat.div_div_eq_div_mul, Nat.add_mul_div_right _ _ (Cp_pos (j + 1)), Nat.div_eq_of_lt hlow, Nat.zero_add, Nat.div_div_eq_div_mul, ← e]
      exact Nat.div_eq_of_lt hm
    rw [Nat.mod_eq_of_lt]
    exact (Nat.div_eq_zero_iff_lt (Cp_pos k)).1 this
  rw [← h]
  exact Nat.mod_lt _ (Cp_pos k)


section
variable {P : Program} {ops : Array Oper} {rest : List Oper} {Q : Exit → Act → World → Prop} {a : Act} {w w0 : World} {S : List Nat} {L : List (Nat × Obj)}
theorem run_opLoadOld {o : Oper} {T : TypeId} {x : Operand} {b i : Nat} {cs : Array Value} {E : TypeId} {fr : Nat × Nat} {v : Value} (hk : Keeps [] w0 w) (hT : CellT P T) (ho : o.op = .load T x) (hx : a.eval x = .pointer (some ⟨b, i, none⟩))
    (hb : w0.heap[b]? = some (.cells cs E fr)) (hv : cs[i]? = some v) : (execOp a.eval o).run P w = .ok (.value v) w := by
  have hb' : w.heap[b]? = some (.cells cs E fr) := by rw [hk.block b (lt_of_some hb) (by simp)]; exact hb
  unfold execOp
  simp only [ho, hx, Sem.run_bind, run_loadCell hT hb' hv, Sem.run_pure, Result.andThen_ok]
/-- make, of elements of one cell. -/
theorem wl_make {o : Oper} {T e : TypeId} {x y : Operand} {z : Value} {n bytes : Nat} {cs : Array Value} (hst : St w0 S L w) (hT : SliceT P T e) (he : ElemT P e 1 z) (hby : BytesT P e bytes) (hg : o.guard = none) (ho : o.op = .makeSlice T x y)
    (hx : a.eval x = .int .i64 (n : Int)) (hy : a.eval y = .int .i64 (n : Int)) (hcs : madeCells z.cells n = cs) (hroom : bytes * n ≤ 281474976710656) (hn : n ≤ 9223372036854775807)
    (h : ∀ b w', w0.heap.size ≤ b → St w0 S ((b, .cells cs e) :: L) w' → wpList P ops Q rest (a.put o.dst (.slice (some ⟨b, 0, none⟩) n n)) w') : wpList P ops Q (o :: rest) a w := by
  obtain ⟨i, hi, hisz, hz⟩ := he
  have hby' : i.bytes = bytes := by simpa [BytesT, hi] using hby
  have hr := run_make (P := P) w T e i z hT hi hz .i64 .i64 n n (by omega) (by omega) (by rw [hby']; have : ((bytes * n : Nat) : Int) ≤ 281474976710656 := by omega
                                                                                          rwa [Int.natCast_mul] at this) (by omega)
  simp only [Int.toNat_natCast, hisz, Nat.mul_one, hcs] at hr
  refine wpList_plain hg fun K hK => ?_
  unfold Oper.wp execOp
  simp only [ho, hx, hy, Sem.run_bind, hr, Sem.run_pure, Result.andThen_ok]
  exact hK _ _ (h _ _ hst.keeps.size (hst.alloc _))
end

theorem made_u32 (n : Nat) : madeCells #[.int .u32 0] n = uw n 0 := by
  unfold madeCells uw
  apply Array.ext
  · simp
  · intro i h1 h2
    simp [dg, Nat.mod_one]

/-- A slice of a block of digits. -/
theorem big_of_uw {w0 : World} {L : List (Nat × Obj)} {g l n : Nat} {E : TypeId} (hn : n < C ^ l) (hl : l ≤ 1000000) (hg : w0.heap.size ≤ g) (hm : (g, .cells (uw l n) E (0, 0)) ∈ L) :
    (∀ S w, St w0 S L w → BigAt w (.slice (some ⟨g, 0, none⟩) l l) l n) ∧ BigIn w0.heap.size [(g, .cells (uw l n) E (0, 0))] (.slice (some ⟨g, 0, none⟩) (dl n) l) n := by
  have hd : dl n ≤ l := dl_le.2 hn
  exact ⟨fun S w hst => ⟨hn, hl, _, l, rfl, Nat.le_refl _, fun _ => ⟨g, _, E, rfl, hst.own _ _ hm, fun j hj => uw_get l n j hj⟩⟩, by simpa using hg, by simp, by omega, _, l, rfl, hd, fun _ => ⟨g, _, E, rfl, by simp, fun j hj => uw_get l n j (by omega)⟩⟩

/-- A step of a product's carry. -/
theorem mul_step (m j c x y : Nat) (hc : c < C) (hx : x < C) (hy : y < C) :
    c + dg m j + x * y < C * C ∧ (c + dg m j + x * y) / C < C ∧ setC m j ((c + dg m j + x * y) % C) + (c + dg m j + x * y) / C * C ^ (j + 1) = m + c * C ^ j + x * y * C ^ j := by
  have hd := dg_lt m j
  have h := setC_eq m j ((c + dg m j + x * y) % C)
  have hlt : c + dg m j + x * y < C * C := by
    have h1 : x * y ≤ (C - 1) * (C - 1) := Nat.mul_le_mul (by omega) (by omega)
    have h2 : (C - 1) * (C - 1) + (C - 1) + (C - 1) < C * C := by decide
    omega
  have e := Nat.div_add_mod (c + dg m j + x * y) C
  refine ⟨hlt, (Nat.div_lt_iff_lt_mul C_pos).2 hlt, ?_⟩
  generalize (c + dg m j + x * y) / C = q at *
  generalize (c + dg m j + x * y) % C = r at *
  have e2 : (C * q + r) * C ^ j = (c + dg m j + x * y) * C ^ j := by rw [e]
  rw [Nat.add_mul, Nat.add_mul, Nat.add_mul] at e2
  have e3 : q * C ^ (j + 1) = C * q * C ^ j := by rw [Nat.pow_succ', ← Nat.mul_assoc, Nat.mul_comm q]
  omega

end Go.Proofs.YtggchelniblipaaGreat.Rd

namespace Go.Proofs.YtggchelniblipaaGreat.Rd
open Go Go.RowKit
set_option linter.unusedVariables false
set_option linter.unusedSimpArgs false
set_option maxRecDepth 100000

/-- New blocks: all from s on, each once. -/
def NewIn (s : Nat) (Lg : List (Nat × Obj)) : Prop := (∀ x ∈ Lg, s ≤ x.1) ∧ (Lg.map Prod.fst).Nodup
/-- What a call brings: a value and new blocks, as R says. -/
def PostN (R : List (Nat × Obj) → Value → Prop) (w0 : World) (e : Ending) (w' : World) : Prop := ∃ v Lg, e = .returned v ∧ Keeps [] w0 w' ∧ NewIn w0.heap.size Lg ∧ R Lg v ∧ ∀ b o, (b, o) ∈ Lg → w'.heap[b]? = some o
def GivesN (P : Program) (f : FuncId) (args : Array Value) (R : List (Nat × Obj) → Value → Prop) (w0 : World) : Prop := Calls P f args w0 (PostN R w0)
theorem PostN.of {R : List (Nat × Obj) → Value → Prop} {w0 w : World} {v : Value} {Lg L : List (Nat × Obj)} (hst : St w0 [] L w) (hn : NewIn w0.heap.size Lg) (hR : R Lg v) (hs : ∀ x ∈ Lg, x ∈ L) : PostN R w0 (.returned v) w := ⟨v, Lg, rfl, hst.keeps, hn, hR, fun b o h => hst.own b o (hs _ h)⟩

theorem St.morel {w0 w w' : World} {S : List Nat} {L Lg : List (Nat × Obj)} (h : St w0 S L w) (k : Keeps [] w w') (hn : NewIn w.heap.size Lg) (h3 : ∀ b o, (b, o) ∈ Lg → w'.heap[b]? = some o) : St w0 S (Lg ++ L) w' := by
  have hk := h.keep k
  refine ⟨hk.keeps, fun b o hm => ?_, ?_⟩
  · rcases List.mem_append.1 hm with h' | h'
    · exact h3 _ _ h'
    · exact hk.own _ _ h'
  · rw [List.map_append]
    refine List.nodup_append.2 ⟨hn.2, h.nodup, ?_⟩
    intro b hb b' hb' e
    subst e
    obtain ⟨x, hx, rfl⟩ := List.mem_map.1 hb
    obtain ⟨y, hy, e⟩ := List.mem_map.1 hb'
    have := h.lt (b := y.1) (o := y.2) hy
    have := hn.1 x hx
    rw [e] at *
    omega

/-- In L the blocks of Ls hold what it says; with Ls' there it is L'. -/
inductive Swap : List (Nat × Obj) → List (Nat × Obj) → List (Nat × Obj) → List (Nat × Obj) → Prop
  | nil (L) : Swap [] [] L L
  | cons {b : Nat} {o o' : Obj} {Ls Ls' L L1 L'} : At b o o' L L1 → Swap Ls Ls' L1 L' → Swap ((b, o) :: Ls) ((b, o') :: Ls') L L'
theorem Swap.keys {Ls Ls' L L' : List (Nat × Obj)} (h : Swap Ls Ls' L L') : L'.map Prod.fst = L.map Prod.fst := by
  induction h with
  | nil => rfl
  | cons ha _ ih => rw [ih, ha.keys]
theorem Swap.mem {Ls Ls' L L' : List (Nat × Obj)} (h : Swap Ls Ls' L L') (hn : (L.map Prod.fst).Nodup) : ∀ b x, (b, x) ∈ L' → (b, x) ∈ Ls' ∨ (b ∉ Ls.map Prod.fst ∧ (b, x) ∈ L) := by
  induction h with
  | nil => intro b x hm; exact .inr ⟨by simp, hm⟩
  | cons ha hs ih =>
    intro b x hm
    rcases ih (by rw [ha.keys]; exact hn) b x hm with h' | ⟨h1, h2⟩
    · exact .inl (List.mem_cons_of_mem _ h')
    · rcases ha.mem' hn b x h2 with ⟨rfl, rfl⟩ | ⟨h3, h4⟩
      · exact .inl (List.mem_cons_self ..)
      · exact .inr ⟨by simp only [List.map_cons, List.mem_cons, not_or]; exact ⟨h3, h1⟩, h4⟩
theorem Swap.own {Ls Ls' L L' : List (Nat × Obj)} (h : Swap Ls Ls' L L') (hn : (Ls.map Prod.fst).Nodup) : ∀ x ∈ Ls, x ∈ L := by
  induction h with
  | nil => intro x hm; cases hm
  | @cons b o o' Ls Ls' L L1 L' ha hs ih =>
    simp only [List.map_cons, List.nodup_cons] at hn
    intro x hm
    rcases List.mem_cons.1 hm with rfl | hm
    · exact ha.mem
    · have h1 := ih hn.2 x hm
      have hne : x.1 ≠ b := fun e => hn.1 (e ▸ List.mem_map_of_mem (f := Prod.fst) hm)
      clear ih hs hm
      induction ha with
      | head L =>
        rcases List.mem_cons.1 h1 with rfl | h
        · exact absurd rfl hne
        · exact List.mem_cons_of_mem _ h
      | tail y L L' _ ih =>
        rcases List.mem_cons.1 h1 with rfl | h
        · exact List.mem_cons_self ..
        · exact List.mem_cons_of_mem _ (ih h)
theorem St.puts {w0 w w' : World} {S : List Nat} {Ls Ls' L L' : List (Nat × Obj)} (h : St w0 S L w) (hs : Swap Ls Ls' L L') (hb : ∀ x ∈ Ls, w0.heap.size ≤ x.1 ∨ x.1 ∈ S)
    (k : Keeps (Ls.map Prod.fst) w w') (hnew : ∀ b o, (b, o) ∈ Ls' → w'.heap[b]? = some o) : St w0 S L' w' :=
  ⟨h.keeps.trans k (fun x hx hlt => by
      obtain ⟨y, hy, rfl⟩ := List.mem_map.1 hx
      rcases hb y hy with h' | h'
      · omega
      · exact h'),
    fun b x hm => by
      rcases hs.mem h.nodup b x hm with h1 | ⟨h1, h2⟩
      · exact hnew _ _ h1
      · have hown := h.own b x h2
        rw [k.block b (lt_of_some hown) h1]
        exact hown,
    by rw [hs.keys]; exact h.nodup⟩

/-- Each of these blocks is new, or one that may turn. -/
inductive Mine (s : Nat) (S : List Nat) : List (Nat × Obj) → Prop
  | nil : Mine s S []
  | cons {b : Nat} {o : Obj} {L : List (Nat × Obj)} : (s ≤ b ∨ b ∈ S) → Mine s S L → Mine s S ((b, o) :: L)
theorem Mine.all {s : Nat} {S : List Nat} {L : List (Nat × Obj)} (h : Mine s S L) : ∀ x ∈ L, s ≤ x.1 ∨ x.1 ∈ S := by
  induction h with
  | nil => intro x hx; cases hx
  | cons h _ ih =>
    intro x hx
    rcases List.mem_cons.1 hx with rfl | hx
    · exact h
    · exact ih x hx

/-- A call that writes the blocks Ls, so that they are Ls' then. -/
def GivesT (P : Program) (f : FuncId) (args : Array Value) (v : Value) (Ls Ls' : List (Nat × Obj)) (w : World) : Prop := Calls P f args w fun e w' => e = .returned v ∧ Keeps (Ls.map Prod.fst) w w' ∧ ∀ b o, (b, o) ∈ Ls' → w'.heap[b]? = some o
theorem GivesT.of {S : List Nat} {w0 w : World} {v : Value} {Ls L' Ls' : List (Nat × Obj)} (hst : St w0 S L' w) (hS : S = Ls.map Prod.fst) (hs : ∀ x ∈ Ls', x ∈ L') : (Ending.returned v = .returned v) ∧ Keeps (Ls.map Prod.fst) w0 w ∧ ∀ b o, (b, o) ∈ Ls' → w.heap[b]? = some o :=
  ⟨rfl, hS ▸ hst.keeps, fun b o h => hst.own b o (hs _ h)⟩

section
variable {P : Program} {ops : Array Oper} {rest : List Oper} {Q : Exit → Act → World → Prop} {a : Act} {w w0 : World} {S : List Nat} {L L' : List (Nat × Obj)}
theorem kN {o : Oper} {c : Call} {x : Operand} {f : FuncId} {cap : Array Value} {args : List Value} {R : List (Nat × Obj) → Value → Prop} (hf : GoF P f) (hst : St w0 S L w) (hc : ∀ w, St w0 S L w → GivesN P f args.toArray R w)
    (ho : o.op = .call c) (hcal : c.callee = .value x) (hx : a.eval x = .func (.func f) #[] cap) (hargs : c.args.toList.map a.eval ++ cap.toList = args)
    (h : ∀ v Lg w', NewIn w0.heap.size Lg → R Lg v → St w0 S (L ++ Lg) w' → wpList P ops Q rest (a.put o.dst v) w') (hg : o.guard = none := by rfl) : wpList P ops Q (o :: rest) a w := by
  refine wpList_plain hg fun K hK => ?_
  unfold Oper.wp
  rw [run_execOp_call ho hcal hx, args_eq hargs, run_callFunc_go hf, Oper.upon_enter]
  refine (hc w hst).mono fun e w'' hh => ?_
  obtain ⟨v, Lg, rfl, hk, hn, hR, hown⟩ := hh
  exact hK _ _ (h v Lg w'' ⟨fun x hx => Nat.le_trans hst.keeps.size (hn.1 x hx), hn.2⟩ hR (hst.more hk hn.1 hn.2 hown))
theorem kT {o : Oper} {c : Call} {x : Operand} {f : FuncId} {cap : Array Value} {args : List Value} {v : Value} {Ls Ls' : List (Nat × Obj)} (hf : GoF P f) (hst : St w0 S L w) (hc : ∀ w, St w0 S L w → GivesT P f args.toArray v Ls Ls' w)
    (ho : o.op = .call c) (hcal : c.callee = .value x) (hx : a.eval x = .func (.func f) #[] cap) (hargs : c.args.toList.map a.eval ++ cap.toList = args)
    (h : ∀ w', St w0 S L' w' → wpList P ops Q rest (a.put o.dst v) w')
    (hsw : Swap Ls Ls' L L' := by repeat (first | exact Swap.nil _ | exact At.head _ | apply At.tail | apply Swap.cons))
    (hb : Mine w0.heap.size S Ls := by repeat (first | exact Mine.nil | refine Mine.cons (by first | exact Or.inl (by assumption) | (refine Or.inr ?_; simp)) ?_)) (hg : o.guard = none := by rfl) : wpList P ops Q (o :: rest) a w := by
  refine wpList_plain hg fun K hK => ?_
  unfold Oper.wp
  rw [run_execOp_call ho hcal hx, args_eq hargs, run_callFunc_go hf, Oper.upon_enter]
  refine (hc w hst).mono fun e w'' hh => ?_
  obtain ⟨rfl, hk, hown⟩ := hh
  exact hK _ _ (h w'' (hst.puts hsw hb.all hk hown))
end

/-- A slice of limbs in a block of its own. -/
def LimbIn (l n : Nat) (Lg : List (Nat × Obj)) (v : Value) : Prop := n < B ^ l ∧ l ≤ 100000 ∧ ∃ b cap k m E, v = .slice (some ⟨b, 0, none⟩) l cap ∧ l ≤ cap ∧ l ≤ k ∧ Lg = [(b, .cells (wc k m) E)] ∧ m % B ^ l = n
theorem LimbIn.at {l n : Nat} {Lg : List (Nat × Obj)} {v : Value} (h : LimbIn l n Lg v) {w0 w : World} {S : List Nat} {L : List (Nat × Obj)} (hst : St w0 S L w) (hs : ∀ x ∈ Lg, x ∈ L) : LimbAt w v l n := by
  obtain ⟨h1, h2, b, cap, k, m, E, rfl, h3, h4, rfl, h5⟩ := h
  exact ⟨h1, h2, b, cap, k, m, E, (0, 0), rfl, h3, h4, hst.own _ _ (hs _ (by simp)), h5⟩

theorem tl_mod (n : Nat) : ∀ k, n < B ^ k → n < B ^ tl n 0 k
  | 0, h => h
  | k + 1, h => by
    unfold tl
    split
    · rename_i h0
      rw [Nat.zero_add] at h0
      apply tl_mod n k
      have := lb_split n k
      rw [h0, Nat.zero_mul, Nat.add_zero, Nat.mod_eq_of_lt h] at this
      rw [this]; exact Nat.mod_lt _ (Bp_pos k)
    · exact h
theorem made_u64 (n : Nat) : madeCells #[.int .u64 0] n = wc n 0 := by
  apply Array.ext_getElem?
  intro i
  by_cases h : i < n
  · rw [wc_get _ _ _ h]
    have : lb 0 i = 0 := by unfold lb; simp
    rw [this]
    simp [madeCells, h, Nat.mod_one]
  · have h1 : (madeCells #[.int .u64 0] n).size = n := by unfold madeCells; simp
    rw [Array.getElem?_eq_none (by omega), Array.getElem?_eq_none (by rw [wc_size]; omega)]

set_option maxHeartbeats 4000000 in
theorem limb_made (g : FuncId) (hg : GoF Tryz.prog g) (cap : Array Value) (f : Nat → Nat) (n : Nat) (hn : n ≤ 2000) (hf : ∀ i, f i < B) (w0 : World)
    (hgf : ∀ i w, i < n → Keeps [] w0 w → GivesAt Tryz.prog g ([Value.int .i64 (i : Nat)] ++ cap.toList).toArray (.int .u64 (f i : Nat)) w) :
    GivesN Tryz.prog 175 #[.int .i64 n, .func (.func g) #[] cap] (LimbIn (tl (lsum f n) 0 n) (lsum f n)) w0 := by
  have hst := St.start [] w0
  have hf' := Lib.hid hf
  clear hf
  have hmade := Lib.hid (made_u64 n)
  go_enter Tryz.func175, Tryz.ntmps175
  go_wp2_with ((first | (refine wl_make (bytes := 8) (o := ⟨some 8, _, _, _, _, _⟩) hst (show SliceT _ 145 23 by unfold SliceT; kernel_rfl) (show ElemT _ 23 1 (.int .u64 0) from ElemT.of (by kernel_rfl)) (show BytesT _ _ _ by unfold BytesT; kernel_rfl) rfl rfl (by rfl) (by rfl) hmade.out (by omega) (by omega) ?_; clear hst; intro b8 w hb8 hst; (try simp only [pz, pn, sz, sc])) | (refine ks hst tc23 rfl rfl ?_; clear hst; intro w hst)); try simp only [pz, pn, sz, sc])
  go_loopw [6, 11] (fun u i wr => ∃ k : Nat, k ≤ n ∧ i = .int .i64 k ∧ St w0 [] [(b8, .cells (wc n (lsum f k)) 23)] wr) (fun _ i _ => n - (intOf i).toNat)
  case atStart => exact ⟨0, by omega, rfl, hst⟩
  case round =>
    clear hst
    obtain ⟨k, hk, rfl, hst⟩ := hrel
    have hl1 := Lib.hid (lsum_lt f hf'.out k)
    by_cases hlt : k < n
    · have hi0 : (0 : Int) ≤ (k : Int) := by omega
      have hi8 : (k : Int) < (n : Int) := by omega
      have hc := fun w h => hgf k w hlt h
      have hfk := Lib.hid (hf'.out k)
      have hset := Lib.hid (wc_set n (lsum f k) (f k) k hl1.out hfk.out)
      go_wp2_with ((first | (refine kg hg hst (fun w hst => hc w hst.keeps) rfl rfl rfl rfl ?_; clear hst; intro w hst) | (refine ks hst tc23 rfl rfl ?_; clear hst; intro w hst; (try rw [hset.out] at hst))); try simp only [pz, pn, sz, sc])
      go_roundw
      case rel => exact ⟨k + 1, by omega, by go_num, hst⟩
      case measure => simp [intOf]; omega
    · have : k = n := by omega
      subst this
      have hi8 : ¬ ((k : Int) < (k : Int)) := by omega
      have htrim := fun w h => limb_trim b8 0 k k k (lsum f k) 23 (0, 0) (by omega) (by omega) (by omega) w h
      clear hgf hmade
      go_wp2_with ((first | (refine kg gf105 hst (fun w hst => htrim w (hst.own _ _ (by repeat (first | exact List.Mem.head _ | refine List.Mem.tail _ ?_)))) rfl rfl rfl rfl ?_; clear hst; intro w hst) | (refine ks hst tc23 rfl rfl ?_; clear hst; intro w hst)); try simp only [pz, pn, sz, sc])
      have hlt := tl_mod _ k hl1.out
      have htl := tl_le (lsum f k) 0 k
      refine bp_t rfl rfl (by rfl) (PostN.of hst (Lg := [(b8, .cells (wc k (lsum f k)) 23)]) ⟨by simpa using hb8, by simp⟩ ⟨hlt, by omega, b8, _, k, lsum f k, _, rfl, by omega, by omega, rfl, Nat.mod_eq_of_lt hlt⟩ (fun x h => h))

end Go.Proofs.YtggchelniblipaaGreat.Rd
