/- What the reference's Len and Cmp answer. -/
import Derived.Test.YtggchelniblipaaGreatDoorJ02
import Derived.Deep.MidRow
import Derived.Defers
import Derived.Laws.Pointers
import Derived.Laws.LoneSync
import Derived.RegionCalls
import Derived.Laws.NewBlocks
namespace Go.Proofs.YtggchelniblipaaGreatDoor.Rd
open Go Go.RowKit
set_option linter.unusedVariables false
set_option linter.unusedSimpArgs false

/-- Cells set one by one from a place on. -/
def setAll (cs : Array Value) : Nat → List Value → Array Value
  | _, [] => cs
  | o, v :: r => setAll (cs.setIfInBounds o v) (o + 1) r
theorem setAll_size : ∀ (vs : List Value) (o : Nat) (cs : Array Value), (setAll cs o vs).size = cs.size
  | [], _, _ => rfl
  | v :: r, o, cs => by unfold setAll; rw [setAll_size r]; simp
theorem setAll_get : ∀ (vs : List Value) (o : Nat) (cs : Array Value) (k : Nat), (setAll cs o vs)[k]? = if o ≤ k ∧ k < o + vs.length ∧ k < cs.size then vs[k - o]? else cs[k]?
  | [], o, cs, k => by unfold setAll; rw [if_neg]; simp; omega
  | v :: r, o, cs, k => by
    unfold setAll
    rw [setAll_get r (o + 1) _ k]
    simp only [Array.size_setIfInBounds, List.length_cons]
    by_cases h1 : o = k
    · subst h1
      rw [if_neg (by omega)]
      by_cases h2 : o < cs.size
      · rw [if_pos (by omega)]; simp [Array.getElem?_setIfInBounds, h2]
      · rw [if_neg (by omega)]; simp [Array.getElem?_setIfInBounds, h2]
    · by_cases h2 : o + 1 ≤ k ∧ k < o + 1 + r.length ∧ k < cs.size
      · rw [if_pos h2, if_pos (by omega), show k - o = (k - (o + 1)) + 1 by omega]; rfl
      · rw [if_neg h2, if_neg (by omega), Array.getElem?_setIfInBounds, if_neg h1]

/-- cs has sub at place o; with sub' there it is cs'. -/
def Part (cs sub cs' sub' : Array Value) (o : Nat) : Prop := ∃ pre post : Array Value, cs = pre ++ sub ++ post ∧ cs' = pre ++ sub' ++ post ∧ pre.size = o ∧ sub'.size = sub.size
theorem Part.get {cs sub cs' sub' : Array Value} {o : Nat} (h : Part cs sub cs' sub' o) {j : Nat} {v : Value} (hv : sub[j]? = some v) : cs[o + j]? = some v := by
  obtain ⟨pre, post, rfl, _, rfl, _⟩ := h
  have hj : j < sub.size := (Array.getElem?_eq_some_iff.1 hv).1
  rw [Array.append_assoc, Array.getElem?_append_right (by omega), Nat.add_sub_cancel_left, Array.getElem?_append_left hj]
  exact hv
theorem Part.le {cs sub cs' sub' : Array Value} {o : Nat} (h : Part cs sub cs' sub' o) : o + sub.size ≤ cs.size := by
  obtain ⟨pre, post, rfl, _, rfl, _⟩ := h
  simp
theorem Part.set {cs sub cs' sub' : Array Value} {o : Nat} (h : Part cs sub cs' sub' o) : setAll cs o sub'.toList = cs' := by
  have hle := h.le
  obtain ⟨pre, post, rfl, rfl, rfl, hs⟩ := h
  apply Array.ext_getElem?
  intro k
  rw [setAll_get]
  simp only [Array.length_toList, Array.size_append] at *
  split
  · rename_i hk
    rw [Array.append_assoc, Array.getElem?_append_right (by omega), Array.getElem?_append_left (by omega), Array.getElem?_toList]
  · rename_i hk
    by_cases h1 : k < pre.size
    · rw [Array.append_assoc, Array.append_assoc, Array.getElem?_append_left h1, Array.getElem?_append_left h1]
    · by_cases h2 : k < pre.size + sub.size
      · exact absurd ⟨by omega, by omega, by omega⟩ hk
      · rw [Array.getElem?_append_right (by simp; omega), Array.getElem?_append_right (by simp; omega)]
        simp [hs]
theorem part0 (a a' b : Array Value) (h : a'.size = a.size) : Part (a ++ b) a (a' ++ b) a' 0 := ⟨#[], b, by simp, by simp, rfl, h⟩
theorem part1 (n : Nat) (a b b' : Array Value) (hn : a.size = n) (h : b'.size = b.size) : Part (a ++ b) b (a ++ b') b' n := ⟨a, #[], by simp, by simp, hn, h⟩

/-- The cells of some wides, one behind the other. -/
def wcs : List Nat → Array Value
  | [] => #[]
  | n :: l => wc 8 n ++ wcs l
theorem wcs_size : ∀ l, (wcs l).size = 8 * l.length
  | [] => rfl
  | n :: l => by simp [wcs, wcs_size l]; omega
theorem wcs_part : ∀ (l : List Nat) (i n : Nat), l[i]? = some n → Part (wcs l) (wc 8 n) (wcs l) (wc 8 n) (8 * i)
  | [], i, n, h => by simp at h
  | m :: l, 0, n, h => by
    simp at h; subst h
    exact part0 _ _ _ rfl
  | m :: l, i + 1, n, h => by
    obtain ⟨pre, post, h1, h2, h3, h4⟩ := wcs_part l i n (by simpa using h)
    exact ⟨wc 8 m ++ pre, post, by rw [wcs, h1]; simp, by rw [wcs, h1]; simp, by simp [h3]; omega, h4⟩
theorem wcs_at {l : List Nat} {i n : Nat} (h : l[i]? = some n) : Part (wcs l) (wc 8 n) (wcs l) (wc 8 n) (i * 8) := by rw [Nat.mul_comm]; exact wcs_part l i n h

theorem heap_setCells (b : Nat) (E : TypeId) : ∀ (vs : List Value) (o : Nat) (cs : Array Value) (w : World), w.heap[b]? = some (.cells cs E (0, 0)) →
    (w.setCells b o vs).heap[b]? = some (.cells (setAll cs o vs) E (0, 0)) ∧ Keeps [b] w (w.setCells b o vs)
  | [], _, _, w, h => ⟨h, Keeps.refl _ _⟩
  | v :: r, o, cs, w, h => by
    have h1 := heap_setCell_same w b o cs E v h
    obtain ⟨h2, h3⟩ := heap_setCells b E r (o + 1) _ _ h1
    have hk : Keeps [b] w (w.setCell ⟨b, o, none⟩ v) := ⟨rfl, rfl, rfl, by simp [World.setCell], fun k _ hn => heap_setCell_other w ⟨b, o, none⟩ k v (by simpa using hn)⟩
    exact ⟨h2, hk.trans h3 (fun x hx _ => hx)⟩

section laws
variable {P : Program} {ops : Array Oper} {rest : List Oper} {Q : Exit → Act → World → Prop} {a : Act} {w w0 : World} {S : List Nat} {L L' : List (Nat × Obj)}

theorem descAgg_row {d : TypeDesc} (h : descAgg d = true) : d.isRow = true := by cases d <;> first | rfl | cases h

theorem run_loadMid {T : TypeId} {b n o : Nat} {cs sub cs' sub' : Array Value} {E : TypeId} {fr : Nat × Nat} (hT : AggT P T n) (hn : sub.size = n) (hc : Part cs sub cs' sub' o) (hb : w.heap[b]? = some (.cells cs E fr)) :
    (Instr.loadAt T (.pointer (some ⟨b, o, none⟩))).run P w = .ok (.agg sub) w := by
  obtain ⟨d, hu, hd, hi⟩ := hT
  have := run_loadAt_mid (P := P) w b o T sub.toList d (fun j v hv => by
    rw [cell_of_row w b (o + j) cs E fr hb]
    exact hc.get (by rwa [Array.getElem?_toList] at hv)) hu (descAgg_row hd) (by rw [Array.length_toList, hn]; exact hi)
  simpa using this

/-- A load of a struct or an array out of the middle of a block. -/
theorem klm {o : Oper} {T : TypeId} {x : Operand} {n b f : Nat} {cs sub cs' sub' : Array Value} {E : TypeId} {fr : Nat × Nat} (hst : St w0 S L w) (hT : AggT P T n) (ho : o.op = .load T x) (h : wpList P ops Q rest (a.put o.dst (.agg sub)) w)
    (hx : a.eval x = .pointer (some ⟨b, f, none⟩) := by rfl) (hm : (b, .cells cs E fr) ∈ L := by repeat (first | exact List.Mem.head _ | refine List.Mem.tail _ ?_))
    (hc : Part cs sub cs' sub' f := by first | exact wcs_at (by assumption) | exact part0 _ _ _ rfl | exact part1 _ _ _ _ (by first | rfl | exact wc_size _ _) rfl) (hn : sub.size = n := by first | rfl | exact wc_size _ _) (hg : o.guard = none := by rfl) : wpList P ops Q (o :: rest) a w := by
  refine wpList_plain hg fun K hK => ?_
  unfold Oper.wp execOp
  simp only [ho, hx, Sem.run_bind, run_loadMid hT hn hc (hst.own _ _ hm), Sem.run_pure, Result.andThen_ok]
  exact hK _ _ h

/-- A store of a struct or an array into the middle of a block. -/
theorem ktm {o : Oper} {T : TypeId} {x y : Operand} {n b f : Nat} {cs sub cs' sub' : Array Value} {E : TypeId} (hst : St w0 S L w) (hT : AggT P T n) (hd : o.dst = none) (ho : o.op = .store T x y) (h : ∀ w', St w0 S L' w' → wpList P ops Q rest a w')
    (hx : a.eval x = .pointer (some ⟨b, f, none⟩) := by rfl) (hy : a.eval y = .agg sub' := by rfl) (h1 : sub'.all (·.oneCell') = true := by first | rfl | exact wc_one _ _ | exact wdc_one _ | exact OneC.h (by assumption) | kernel_rfl)
    (hm : (b, .cells cs E (0, 0)) ∈ L := by repeat (first | exact List.Mem.head _ | refine List.Mem.tail _ ?_))
    (hc : Part cs sub cs' sub' f := by first | exact part0 _ _ _ (by simp) | exact part1 _ _ _ _ (by first | rfl | exact wc_size _ _) (by simp)) (hn : sub'.size = n := by first | rfl | exact wc_size _ _)
    (hat : At b (.cells cs E (0, 0)) (.cells cs' E (0, 0)) L L' := by repeat (first | exact At.head _ | apply At.tail))
    (hb : w0.heap.size ≤ b ∨ b ∈ S := by first | exact Or.inl (by assumption) | (refine Or.inr ?_; simp)) (hg : o.guard = none := by rfl) : wpList P ops Q (o :: rest) a w := by
  obtain ⟨_, _, _, hi⟩ := hT
  have hown := hst.own _ _ hat.mem
  have hle := hc.le
  have hs : sub'.size = sub.size := by obtain ⟨_, _, _, _, _, h⟩ := hc; exact h
  have ht : w.there b f sub'.size := fun j hj => by
    rw [cell_of_row w b (f + j) cs E _ hown, frozen_of_row w b (f + j) cs E hown]
    exact ⟨by rw [Array.getElem?_eq_getElem (by omega)]; rfl, rfl⟩
  obtain ⟨h2, h3⟩ := heap_setCells b E sub'.toList f cs w hown
  rw [hc.set] at h2
  refine wpList_plain hg fun K hK => ?_
  unfold Oper.wp execOp
  simp only [ho, hx, hy, Sem.run_bind, run_storeAt_mid (P := P) w b f T sub' ht (by rw [hn]; exact hi) h1, Sem.run_pure, Result.andThen_ok]
  have hput : a.put o.dst undef = a := by rw [hd]; rfl
  rw [Oper.upon_skip, hput]
  exact hK _ _ (h _ (hst.put hat hb h3 h2))

theorem run_opLoadMid {o : Oper} {T : TypeId} {x : Operand} {n b f : Nat} {cs sub cs' sub' : Array Value} {E : TypeId} {fr : Nat × Nat} (hst : St w0 S L w) (hT : AggT P T n) (ho : o.op = .load T x) (hx : a.eval x = .pointer (some ⟨b, f, none⟩))
    (hm : (b, .cells cs E fr) ∈ L) (hc : Part cs sub cs' sub' f) (hn : sub.size = n) : (execOp a.eval o).run P w = .ok (.value (.agg sub)) w := by
  unfold execOp
  simp only [ho, hx, Sem.run_bind, run_loadMid hT hn hc (hst.own _ _ hm), Sem.run_pure, Result.andThen_ok]
theorem ylM {T : TypeId} {x : Operand} {m b f : Nat} {cs sub cs' sub' : Array Value} {E : TypeId} {fr : Nat × Nat} {ty : TypeId} {pos : String} {af : Array Edge} {dst : Option Tmp} {g : Option (Nat × Bool)} (hT : AggT P T m)
    (hx : a.eval x = .pointer (some ⟨b, f, none⟩) := by rfl) (hm : (b, .cells cs E fr) ∈ L := by repeat (first | exact List.Mem.head _ | refine List.Mem.tail _ ?_))
    (hc : Part cs sub cs' sub' f := by first | exact wcs_at (by assumption) | exact part0 _ _ _ rfl | exact part1 _ _ _ _ (by first | rfl | exact wc_size _ _) rfl) (hn : sub.size = m := by first | rfl | exact wc_size _ _) :
    ∀ w, St w0 S L w → (execOp a.eval ⟨dst, .load T x, ty, pos, af, g⟩).run P w = .ok (.value (.agg sub)) w := fun _ hw => run_opLoadMid hw hT rfl hx hm hc hn

/-- A struct, or an array, that is built. -/
theorem kB {o : Oper} {T : TypeId} {parts : Array (Nat × Operand)} {v : Value} {args : List (Nat × Value)} (hb : ∀ w, (Instr.build T args.toArray).run P w = .ok v w) (ho : o.op = .build T parts)
    (h : wpList P ops Q rest (a.put o.dst v) w) (hargs : parts.toList.map (fun q => (q.1, a.eval q.2)) = args := by rfl) (hg : o.guard = none := by rfl) : wpList P ops Q (o :: rest) a w := by
  refine wpList_plain hg fun K hK => ?_
  have e : parts.map (fun (i, x) => (i, a.eval x)) = args.toArray := by rw [← hargs]; exact Array.toList_inj.1 (by simp)
  unfold Oper.wp execOp
  simp only [ho, e, Sem.run_bind, hb, Sem.run_pure, Result.andThen_ok]
  exact hK _ _ h
theorem yB {T : TypeId} {parts : Array (Nat × Operand)} {v : Value} {args : List (Nat × Value)} {ty : TypeId} {pos : String} {af : Array Edge} {dst : Option Tmp} {g : Option (Nat × Bool)} (hb : ∀ w, (Instr.build T args.toArray).run P w = .ok v w)
    (hargs : parts.toList.map (fun q => (q.1, a.eval q.2)) = args := by rfl) : ∀ w, (execOp a.eval ⟨dst, .build T parts, ty, pos, af, g⟩).run P w = .ok (.value v) w := fun w => by
  have e : parts.map (fun (i, x) => (i, a.eval x)) = args.toArray := by rw [← hargs]; exact Array.toList_inj.1 (by simp)
  unfold execOp
  simp only [e, Sem.run_bind, hb, Sem.run_pure, Result.andThen_ok]

/-- A slice literal of elements of many cells. -/
theorem kS (s : Nat) {o : Oper} {T e : TypeId} {len : Nat} {parts : Array (Nat × Operand)} {cells : Array Value} {args : List (Nat × Value)} (hst : St w0 S L w) (hu : SliceT P T e) (hb : P.builtSlice e len args = some cells) (hd : o.dst = some s) (ho : o.op = .buildSlice T len parts)
    (h : ∀ b w', w0.heap.size ≤ b → St w0 S ((b, .cells cells e) :: L) w' → wpList P ops Q rest (a.put o.dst (.slice (some ⟨b, 0, none⟩) len len)) w') (hargs : parts.toList.map (fun q => (q.1, a.eval q.2)) = args := by rfl) (hg : o.guard = none := by rfl) : wpList P ops Q (o :: rest) a w :=
  wl_buildSlice hst hu hg ho (by rw [← hb, ← hargs]; simp) h

end laws

theorem tb100_0 (x0 : Option Addr) (w : World) : (Instr.build 100 (List.toArray [(0, .pointer x0)])).run Tryz.prog w = .ok (.agg (#[.pointer x0])) w := by kernel_rfl
theorem tb104_0 (x0 : Option Addr) (w : World) : (Instr.build 104 (List.toArray [(0, .pointer x0)])).run Tryz.prog w = .ok (.agg (#[.pointer x0])) w := by kernel_rfl
theorem tb108_0 (x0 : Option Addr) (w : World) : (Instr.build 108 (List.toArray [(0, .pointer x0)])).run Tryz.prog w = .ok (.agg (#[.pointer x0])) w := by kernel_rfl
theorem tb153_01 (x0 : Int) (x1 : Nat) (w : World) : (Instr.build 153 (List.toArray [(0, .int .i64 x0), (1, W x1)])).run Tryz.prog w = .ok (.agg (#[.int .i64 x0] ++ wc 8 x1)) w := by kernel_rfl
theorem tb153_1 (x1 : Nat) (w : World) : (Instr.build 153 (List.toArray [(1, W x1)])).run Tryz.prog w = .ok (.agg (#[.int .i64 0] ++ wc 8 x1)) w := by kernel_rfl
theorem tb180_01 (x0 : Nat) (x1 : Nat) (w : World) : (Instr.build 180 (List.toArray [(0, W x0), (1, W x1)])).run Tryz.prog w = .ok (.agg (wc 8 x0 ++ wc 8 x1)) w := by kernel_rfl
theorem tb184_012 (x0 : Int) (x1 : Int) (x2 : Nat) (w : World) : (Instr.build 184 (List.toArray [(0, .int .i64 x0), (1, .int .i64 x1), (2, W x2)])).run Tryz.prog w = .ok (.agg (#[.int .i64 x0, .int .i64 x1] ++ wc 8 x2)) w := by kernel_rfl
theorem tb193_01 (x0 : Nat) (x1 : Nat) (w : World) : (Instr.build 193 (List.toArray [(0, W x0), (1, W x1)])).run Tryz.prog w = .ok (.agg (wc 8 x0 ++ wc 8 x1)) w := by kernel_rfl
theorem tb235_01 (x0 : Nat) (x1 : Nat) (w : World) : (Instr.build 235 (List.toArray [(0, W x0), (1, W x1)])).run Tryz.prog w = .ok (.agg (wc 8 x0 ++ wc 8 x1)) w := by kernel_rfl
theorem tb241_01 (x0 : Nat) (x1 : Nat) (w : World) : (Instr.build 241 (List.toArray [(0, W x0), (1, W x1)])).run Tryz.prog w = .ok (.agg (wc 8 x0 ++ wc 8 x1)) w := by kernel_rfl
theorem tb78_01 (x0 : Option Addr) (x1 : Option Addr) (w : World) : (Instr.build 78 (List.toArray [(0, .pointer x0), (1, .pointer x1)])).run Tryz.prog w = .ok (.agg (#[.pointer x0, .pointer x1])) w := by kernel_rfl
theorem tb84_01 (x0 : Option Addr) (x1 : Option Addr) (w : World) : (Instr.build 84 (List.toArray [(0, .pointer x0), (1, .pointer x1)])).run Tryz.prog w = .ok (.agg (#[.pointer x0, .pointer x1])) w := by kernel_rfl
theorem tb96_0 (x0 : Option Addr) (w : World) : (Instr.build 96 (List.toArray [(0, .pointer x0)])).run Tryz.prog w = .ok (.agg (#[.pointer x0])) w := by kernel_rfl
theorem ts165_ : SliceT Tryz.prog 165 24 := by unfold SliceT; kernel_rfl
theorem tw24_2 (x0 x1 : Nat) : Tryz.prog.builtSlice 24 2 [(0, W x0), (1, W x1)] = some (wcs [x0, x1]) := by kernel_rfl
theorem tw24_3 (x0 x1 x2 : Nat) : Tryz.prog.builtSlice 24 3 [(0, W x0), (1, W x1), (2, W x2)] = some (wcs [x0, x1, x2]) := by kernel_rfl
end Go.Proofs.YtggchelniblipaaGreatDoor.Rd

namespace Go.Proofs.YtggchelniblipaaGreatDoor.Rd
open Go Go.RowKit
set_option linter.unusedVariables false
set_option linter.unusedSimpArgs false
set_option maxRecDepth 100000

theorem on_disable (w : World) : (callFunc 41 #[]).run Tryz.prog w = .ok (.value (.tuple #[])) w := run_call_mark0 Tryz.func41 (by kernel_rfl) (by kernel_rfl) (by kernel_rfl) .disable (by kernel_rfl) w
theorem on_enable (w : World) : (callFunc 43 #[]).run Tryz.prog w = .ok (.value (.tuple #[])) w := run_call_mark0 Tryz.func43 (by kernel_rfl) (by kernel_rfl) (by kernel_rfl) .enable (by kernel_rfl) w
theorem on_acquire (a : Addr) (w : World) : (callFunc 44 #[.pointer (some a)]).run Tryz.prog w = .ok (.value (.tuple #[])) w := run_call_marked Tryz.func44 (by kernel_rfl) (by kernel_rfl) (by kernel_rfl) .acquire (by kernel_rfl) a w
theorem on_release (a : Addr) (w : World) : (callFunc 46 #[.pointer (some a)]).run Tryz.prog w = .ok (.value (.tuple #[])) w := run_call_marked Tryz.func46 (by kernel_rfl) (by kernel_rfl) (by kernel_rfl) .releaseMerge (by kernel_rfl) a w

theorem on_store (a : Addr) (x : Value) (u : FrameMode) (w : World) (hc : w.cell? a = some x) (hz : w.frozen? a = false) :
    CallsD Tryz.prog 36 #[.pointer (some a), .bool true] u w fun e u' w' => u' = u ∧ (e = .returned (.tuple #[]) ∧ w' = w.drew.setCell a (.int .u32 1)) := by
  have hc' : w.drew.cell? a = some x := by go_simp
  have hz' : w.drew.frozen? a = false := by go_simp
  have hst := run_call_store (P := Tryz.prog) Tryz.func39 (by kernel_rfl) (by kernel_rfl) (by kernel_rfl) (by kernel_rfl) (k := .u32) (y := 1) hc' hz'
  go_enter_d Tryz.func36, Tryz.ntmps36
  go_wp2
  go_region_calls
  all_goals (go_end0; exact ⟨rfl, rfl⟩)

theorem on_unlock (a : Addr) (u : FrameMode) (w : World) (hc : w.cell? a = some (.int .i32 1)) (hz : w.frozen? a = false) :
    CallsD Tryz.prog 35 #[.pointer (some a)] u w fun e u' w' => u' = u ∧ (e = .returned (.tuple #[]) ∧ w' = w.setCell a (.int .i32 0)) := by
  have hd := on_disable
  have he := on_enable
  have hr := on_release
  have hadd := run_call_add (P := Tryz.prog) Tryz.func47 (by kernel_rfl) (by kernel_rfl) (by kernel_rfl) .i32 (by kernel_rfl) (y := -1) (s := 0) hc hz (by simp [go_sem]; rfl)
  have hcv := run_convert_to_unsafe (P := Tryz.prog) (src := 119) (dst := 123) Tryz.underlying119 Tryz.underlying123 (by kernel_rfl) hc
  go_enter_d Tryz.func35, Tryz.ntmps35
  go_wp2
  go_end0
  go_wp2
  go_end0
  exact ⟨rfl, rfl⟩

theorem on_lock (a : Addr) (w : World) (hc : w.cell? a = some (.int .i32 0)) (hz : w.frozen? a = false) :
    Calls Tryz.prog 34 #[.pointer (some a)] w fun e w' => e = .returned (.tuple #[]) ∧ w' = w.setCell a (.int .i32 1) := by
  have hd := on_disable
  have he := on_enable
  have ha := on_acquire
  have hcas := run_call_cas_hit (P := Tryz.prog) Tryz.func42 (by kernel_rfl) (by kernel_rfl) (by kernel_rfl) .i32 (by kernel_rfl) (y := 1) hc hz
  have hc' : (w.setCell a (.int .i32 1)).cell? a = some (.int .i32 1) := World.cell?_setCell_same w a _ hc
  have hcv := run_convert_to_unsafe (P := Tryz.prog) (src := 119) (dst := 123) Tryz.underlying119 Tryz.underlying123 (by kernel_rfl) hc'
  go_enter Tryz.func34, Tryz.ntmps34
  go_wp2
  first | go_end0 | (simp only [Exit.inBlock, Exit.then]; refine bodyPost_ret (results_none rfl _ _ _) rfl ?_) | refine bodyPost_ret (results_none rfl _ _ _) rfl ?_
  go_wp2
  go_end0
  exact ⟨rfl, rfl⟩

set_option maxHeartbeats 1600000 in
theorem on_slow (f : FuncId) (hf : GoF Tryz.prog f) (cap : Array Value) (b off : Nat) (R : World → Prop) (w : World)
    (h0 : w.cell? ⟨b, off, none⟩ = some (.int .u32 0)) (h1 : w.cell? ⟨b, off + 1, none⟩ = some (.int .i32 0)) (f0 : w.frozen? ⟨b, off, none⟩ = false) (f1 : w.frozen? ⟨b, off + 1, none⟩ = false)
    (hc : Calls Tryz.prog f cap (w.setCell ⟨b, off + 1, none⟩ (.int .i32 1)) fun e w2 => e = .returned (.tuple #[]) ∧ (∃ x, w2.cell? ⟨b, off, none⟩ = some x) ∧ w2.frozen? ⟨b, off, none⟩ = false ∧ w2.cell? ⟨b, off + 1, none⟩ = some (.int .i32 1) ∧ w2.frozen? ⟨b, off + 1, none⟩ = false ∧ R w2) :
    Calls Tryz.prog 31 #[.pointer (some ⟨b, off, none⟩), .func (.func f) #[] cap] w fun e w' => e = .returned (.tuple #[]) ∧ ∃ w2, R w2 ∧ w' = (w2.drew.setCell ⟨b, off, none⟩ (.int .u32 1)).setCell ⟨b, off + 1, none⟩ (.int .i32 0) := by
  have hl := run_call_load (P := Tryz.prog) Tryz.func33 (by kernel_rfl) (by kernel_rfl) (by kernel_rfl) .u32 (by kernel_rfl) (w := w.setCell ⟨b, off + 1, none⟩ (.int .i32 1)) (a := ⟨b, off, none⟩) (x := 0) ((World.cell?_setCell_other _ ⟨b, off + 1, none⟩ ⟨b, off, none⟩ _ (by simp)).trans h0)
  have hnot : ∀ (x : Bool) (w : World), (Op.unary .not (.bool x)).run Tryz.prog w = .ok (.bool (!x)) w := fun _ _ => rfl
  go_enter_defers Tryz.func31, Tryz.ntmps31
  go_wp2_with (go_at_call 34; refine (on_lock ⟨b, off + 1, none⟩ _ (by go_simp) (by go_simp)).mono ?_; rintro e w' ⟨rfl, rfl⟩)
  go_wp2
  rw [run_callFunc_go hf, Oper.upon_enter]
  refine hc.mono ?_
  rintro e w2 ⟨rfl, ⟨x, hx⟩, z0, c1, z1, hR⟩
  go_wp2
  -- the door: two deferred calls, the last laid first
  refine leaves_cons (f := 36) (args := #[.pointer (some ⟨b, off, none⟩), .bool true]) (by simp) (by simp [go_sem]) ?_
  refine (on_store ⟨b, off, none⟩ x .returning _ hx z0).mono ?_
  rintro e u' w'' ⟨rfl, rfl, rfl⟩
  refine leaves_cons (f := 35) (args := #[.pointer (some ⟨b, off + 1, none⟩)]) (by simp [settle]) (by simp [go_sem]) ?_
  refine (on_unlock ⟨b, off + 1, none⟩ _ _ ?_ (by simp [z1])).mono ?_
  · refine (World.cell?_setCell_other _ ⟨b, off, none⟩ ⟨b, off + 1, none⟩ _ (by simp)).trans ?_
    rw [World.cell?_drew]; exact c1
  rintro e u' w'' ⟨rfl, rfl, rfl⟩
  simp [Leaves, settle, results, Tryz.results31]
  exact ⟨w2, hR, rfl⟩

/-- Do, not yet done, the lock free. -/
theorem on_do (f : FuncId) (hf : GoF Tryz.prog f) (cap : Array Value) (b off : Nat) (R : World → Prop) (w : World)
    (h0 : w.cell? ⟨b, off, none⟩ = some (.int .u32 0)) (h1 : w.cell? ⟨b, off + 1, none⟩ = some (.int .i32 0)) (f0 : w.frozen? ⟨b, off, none⟩ = false) (f1 : w.frozen? ⟨b, off + 1, none⟩ = false)
    (hc : Calls Tryz.prog f cap (w.setCell ⟨b, off + 1, none⟩ (.int .i32 1)) fun e w2 => e = .returned (.tuple #[]) ∧ (∃ x, w2.cell? ⟨b, off, none⟩ = some x) ∧ w2.frozen? ⟨b, off, none⟩ = false ∧ w2.cell? ⟨b, off + 1, none⟩ = some (.int .i32 1) ∧ w2.frozen? ⟨b, off + 1, none⟩ = false ∧ R w2) :
    Calls Tryz.prog 21 #[.pointer (some ⟨b, off, none⟩), .func (.func f) #[] cap] w fun e w' => e = .returned (.tuple #[]) ∧ ∃ w2, R w2 ∧ w' = (w2.drew.setCell ⟨b, off, none⟩ (.int .u32 1)).setCell ⟨b, off + 1, none⟩ (.int .i32 0) := by
  have hl := run_call_load (P := Tryz.prog) Tryz.func33 (by kernel_rfl) (by kernel_rfl) (by kernel_rfl) .u32 (by kernel_rfl) h0
  have hnot : ∀ (x : Bool) (w : World), (Op.unary .not (.bool x)).run Tryz.prog w = .ok (.bool (!x)) w := fun _ _ => rfl
  go_enter Tryz.func21, Tryz.ntmps21
  go_wp2_with (first | (go_at_call 31; refine (on_slow f hf cap b off R _ h0 h1 f0 f1 hc).mono ?_; rintro e w' ⟨rfl, w2, hR, rfl⟩) | (go_at_call 30; go_in))
  go_end0
  exact ⟨rfl, w2, hR, rfl⟩

/-- Do, done already. -/
theorem on_done (a : Addr) (d : Int) (hd : ¬ d = 0) (fv : Value) (w : World) (h0 : w.cell? a = some (.int .u32 d)) :
    Calls Tryz.prog 21 #[.pointer (some a), fv] w fun e w' => e = .returned (.tuple #[]) ∧ w' = w := by
  have hl := run_call_load (P := Tryz.prog) Tryz.func33 (by kernel_rfl) (by kernel_rfl) (by kernel_rfl) .u32 (by kernel_rfl) h0
  have hnot : ∀ (x : Bool) (w : World), (Op.unary .not (.bool x)).run Tryz.prog w = .ok (.bool (!x)) w := fun _ _ => rfl
  have hd' : (d != 0) = true := by simp [hd]
  go_enter Tryz.func21, Tryz.ntmps21
  go_wp2
  go_end0
  exact ⟨rfl, rfl⟩

end Go.Proofs.YtggchelniblipaaGreatDoor.Rd

namespace Go.Proofs.YtggchelniblipaaGreatDoor.Rd
open Go Go.RowKit
set_option linter.unusedVariables false
set_option linter.unusedSimpArgs false
set_option maxRecDepth 100000

def C : Nat := 4294967296
theorem C_val : C = 4294967296 := rfl
theorem C_pos : 0 < C := by decide
theorem Cp_pos (k : Nat) : 0 < C ^ k := Nat.pow_pos C_pos
theorem C_pow (k : Nat) : C ^ k = 2 ^ (32 * k) := by rw [show C = 2 ^ 32 from rfl, ← Nat.pow_mul]
/-- A digit by 2^32. -/
def dg (n i : Nat) : Nat := n / C ^ i % C
theorem dg_lt (n i : Nat) : dg n i < C := Nat.mod_lt _ C_pos
theorem dg_lt' (n i : Nat) : dg n i < 4294967296 := dg_lt n i
/-- How many digits by 2^32. -/
def dl (n : Nat) : Nat := (bl n + 31) / 32
theorem dl_le {n l : Nat} : dl n ≤ l ↔ n < C ^ l := by
  rw [C_pow, ← bl_le]; unfold dl; omega
theorem dl_lt (n : Nat) : n < C ^ dl n := dl_le.1 (Nat.le_refl _)
theorem dl_zero : dl 0 = 0 := rfl
theorem dl_eq {n l : Nat} (h1 : n < C ^ l) (h2 : l = 0 ∨ C ^ (l - 1) ≤ n) : dl n = l := by
  have h3 := dl_le.2 h1
  rcases h2 with h | h
  · omega
  · by_cases h4 : dl n ≤ l - 1
    · have := dl_le.1 h4; omega
    · omega
theorem dl_pos {n : Nat} : 0 < dl n ↔ 0 < n := by
  constructor
  · intro h
    rcases Nat.eq_zero_or_pos n with h0 | h0
    · subst h0; simp [dl_zero] at h
    · exact h0
  · intro h
    rcases Nat.eq_zero_or_pos (dl n) with h0 | h0
    · have := dl_lt n; rw [h0] at this; simp at this; omega
    · exact h0
theorem dg_ge {n l i : Nat} (h : n < C ^ l) (hi : l ≤ i) : dg n i = 0 := by
  unfold dg
  rw [Nat.div_eq_of_lt (Nat.lt_of_lt_of_le h (Nat.pow_le_pow_right C_pos hi))]; rfl
theorem lt_down {n k : Nat} (h : n < C ^ (k + 1)) (h0 : dg n k = 0) : n < C ^ k := by
  unfold dg at h0
  have h1 : n / C ^ k < C := by rw [Nat.div_lt_iff_lt_mul (Cp_pos k), ← Nat.pow_succ']; exact h
  rw [Nat.mod_eq_of_lt h1] at h0
  exact (Nat.div_eq_zero_iff_lt (Cp_pos k)).1 h0
theorem ge_top {n k : Nat} (h0 : dg n k ≠ 0) : C ^ k ≤ n := by
  rcases Nat.lt_or_ge n (C ^ k) with h | h
  · exact absurd (dg_ge h (Nat.le_refl k)) h0
  · exact h
theorem dg_split (n k : Nat) : n % C ^ (k + 1) = n % C ^ k + dg n k * C ^ k := by
  unfold dg
  rw [Nat.pow_succ, Nat.mod_mul, Nat.mul_comm (C ^ k)]

/-- The slice v of l digits holds n. -/
def BigAt (w : World) (v : Value) (l n : Nat) : Prop :=
  n < C ^ l ∧ l ≤ 1000000 ∧ ∃ a cap, v = .slice a l cap ∧ l ≤ cap ∧ (0 < l → ∃ g cur E, a = some ⟨g, 0, none⟩ ∧ w.heap[g]? = some (.cells cur E (0, 0)) ∧ ∀ j, j < l → cur[j]? = some (.int .u32 (dg n j : Nat)))
theorem BigAt.keep {w w' : World} {v : Value} {l n : Nat} (h : BigAt w v l n) (k : Keeps [] w w') : BigAt w' v l n := by
  obtain ⟨h1, h2, a, cap, h3, h4, h5⟩ := h
  refine ⟨h1, h2, a, cap, h3, h4, fun h0 => ?_⟩
  obtain ⟨g, cur, E, h6, h7, h8⟩ := h5 h0
  refine ⟨g, cur, E, h6, ?_, h8⟩
  rw [k.block g _ (by simp)]
  · exact h7
  · rcases Nat.lt_or_ge g w.heap.size with h | h
    · exact h
    · rw [Array.getElem?_eq_none h] at h7; cases h7

end Go.Proofs.YtggchelniblipaaGreatDoor.Rd

namespace Go.Proofs.YtggchelniblipaaGreatDoor.Rd
open Go Go.RowKit
set_option linter.unusedVariables false
set_option linter.unusedSimpArgs false
set_option maxRecDepth 100000

theorem or_low (a b s : Nat) (ha : a * 2 ^ s < B) (hb : b < 2 ^ s) (hB : b < B) : bits .or .u64 ((a * 2 ^ s : Nat) : Int) (b : Int) = ((a * 2 ^ s + b : Nat) : Int) := by
  rw [bits_or_u64_nat _ _ (by rw [← B_val]; exact ha) (by rw [← B_val]; exact hB)]
  congr 1
  rw [Nat.mul_comm, Nat.two_pow_add_eq_or_of_lt hb]
theorem wrap_sub_nat (a b c : Nat) (h : a = b + c) (hc : c < B) : IntKind.u64.wrap ((a : Int) - (b : Int)) = (c : Int) := by
  rw [show (a : Int) - (b : Int) = (c : Int) by omega, u64_wrap, Nat.mod_eq_of_lt hc]
theorem wrap_sub_mod (a b c : Nat) (h : (a + (B - b)) % B = c) (hb : b < B) : IntKind.u64.wrap ((a : Int) - (b : Int)) = (c : Int) := by
  rw [B_val] at *
  show ((a : Int) - (b : Int)) % 18446744073709551616 = _
  omega
theorem u64_wrap' (x : Int) (n c : Nat) (h : x = (n : Int)) (hc : n % B = c) : IntKind.u64.wrap x = (c : Int) := by
  rw [h, u64_wrap, hc]

theorem and_low (a : Nat) (ha : a < B) : bits .and .u64 (a : Int) 4294967295 = ((a % 4294967296 : Nat) : Int) := by
  have := bits_and_u64_nat a 4294967295 (by rw [← B_val]; exact ha) (by omega)
  rw [show ((4294967295 : Nat) : Int) = 4294967295 from rfl] at this
  rw [this]
  congr 1
  exact Nat.and_two_pow_sub_one_eq_mod a 32

end Go.Proofs.YtggchelniblipaaGreatDoor.Rd

namespace Go.Proofs.YtggchelniblipaaGreatDoor.Rd
open Go Go.RowKit
set_option linter.unusedVariables false
set_option linter.unusedSimpArgs false
set_option maxRecDepth 100000

/-- v holds n, without noughts at the end, in blocks of Lg, all from s on. -/
def BigIn (s : Nat) (Lg : List (Nat × Obj)) (v : Value) (n : Nat) : Prop :=
  (∀ x ∈ Lg, s ≤ x.1) ∧ (Lg.map Prod.fst).Nodup ∧ dl n ≤ 1000000 ∧ ∃ a cap, v = .slice a (dl n) cap ∧ dl n ≤ cap ∧ (0 < dl n → ∃ g cur E, a = some ⟨g, 0, none⟩ ∧ (g, .cells cur E (0, 0)) ∈ Lg ∧ ∀ j, j < dl n → cur[j]? = some (.int .u32 (dg n j : Nat)))
theorem BigIn.at {s : Nat} {Lg : List (Nat × Obj)} {v : Value} {n : Nat} (h : BigIn s Lg v n) {w0 w : World} {S : List Nat} {L : List (Nat × Obj)} (hst : St w0 S L w) (hs : ∀ x ∈ Lg, x ∈ L) : BigAt w v (dl n) n := by
  obtain ⟨_, _, hl, a, cap, h1, h2, h3⟩ := h
  refine ⟨dl_lt n, hl, a, cap, h1, h2, fun h0 => ?_⟩
  obtain ⟨g, cur, E, h4, h5, h6⟩ := h3 h0
  exact ⟨g, cur, E, h4, hst.own _ _ (hs _ h5), h6⟩

def PostB (w0 : World) (n : Nat) (e : Ending) (w' : World) : Prop := ∃ v Lg, e = .returned v ∧ Keeps [] w0 w' ∧ BigIn w0.heap.size Lg v n ∧ ∀ b o, (b, o) ∈ Lg → w'.heap[b]? = some o
def GivesB (P : Program) (f : FuncId) (args : Array Value) (n : Nat) (w0 : World) : Prop := Calls P f args w0 (PostB w0 n)
theorem PostB.of {w0 w : World} {n : Nat} {v : Value} {Lg L : List (Nat × Obj)} (hst : St w0 [] L w) (hb : BigIn w0.heap.size Lg v n) (hs : ∀ x ∈ Lg, x ∈ L) : PostB w0 n (.returned v) w := ⟨v, Lg, rfl, hst.keeps, hb, fun b o h => hst.own b o (hs _ h)⟩

theorem St.more {w0 w w' : World} {S : List Nat} {L Lg : List (Nat × Obj)} (h : St w0 S L w) (k : Keeps [] w w') (h1 : ∀ x ∈ Lg, w.heap.size ≤ x.1) (h2 : (Lg.map Prod.fst).Nodup) (h3 : ∀ b o, (b, o) ∈ Lg → w'.heap[b]? = some o) : St w0 S (L ++ Lg) w' := by
  have hk := h.keep k
  refine ⟨hk.keeps, fun b o hm => ?_, ?_⟩
  · rcases List.mem_append.1 hm with h' | h'
    · exact hk.own _ _ h'
    · exact h3 _ _ h'
  · rw [List.map_append]
    refine List.nodup_append.2 ⟨h.nodup, h2, ?_⟩
    intro b hb b' hb' e
    subst e
    obtain ⟨x, hx, rfl⟩ := List.mem_map.1 hb
    obtain ⟨y, hy, e⟩ := List.mem_map.1 hb'
    have := h.lt (b := x.1) (o := x.2) hx
    have := h1 y hy
    rw [e] at this
    omega

section
variable {P : Program} {ops : Array Oper} {rest : List Oper} {Q : Exit → Act → World → Prop} {a : Act} {w w0 : World} {S : List Nat} {L : List (Nat × Obj)}
theorem wl_callB {o : Oper} {c : Call} {x : Operand} {f : FuncId} {cap : Array Value} {args : List Value} {n : Nat} (hf : GoF P f) (hst : St w0 S L w) (hc : ∀ w, St w0 S L w → GivesB P f args.toArray n w)
    (hg : o.guard = none) (ho : o.op = .call c) (hcal : c.callee = .value x) (hx : a.eval x = .func (.func f) #[] cap) (hargs : c.args.toList.map a.eval ++ cap.toList = args)
    (h : ∀ v Lg w', BigIn w0.heap.size Lg v n → St w0 S (L ++ Lg) w' → wpList P ops Q rest (a.put o.dst v) w') : wpList P ops Q (o :: rest) a w := by
  refine wpList_plain hg fun K hK => ?_
  unfold Oper.wp
  rw [run_execOp_call ho hcal hx, args_eq hargs, run_callFunc_go hf, Oper.upon_enter]
  refine (hc w hst).mono fun e w'' hh => ?_
  obtain ⟨v, Lg, rfl, hk, hb, hown⟩ := hh
  exact hK _ _ (h v Lg w'' ⟨fun x hx => Nat.le_trans hst.keeps.size (hb.1 x hx), hb.2⟩ (hst.more hk hb.1 hb.2.1 hown))
end

/-- The cells of k digits. -/
def uc (k n : Nat) : List Value := (List.range k).map fun j => .int .u32 (dg n j : Nat)
theorem uc_zero (n : Nat) : uc 0 n = [] := rfl
theorem uc_length (k n : Nat) : (uc k n).length = k := by simp [uc]
theorem uc_get (k n j : Nat) (h : j < k) : (uc k n)[j]? = some (.int .u32 (dg n j : Nat)) := by simp [uc, h]
theorem dg_low (n d k j : Nat) (h : j < k) : dg (n + d * C ^ k) j = dg n j := by
  unfold dg
  have e : d * C ^ k = C ^ j * (C * (d * C ^ (k - j - 1))) := by
    have : C ^ k = C ^ j * (C * C ^ (k - j - 1)) := by rw [← Nat.pow_succ', ← Nat.pow_add]; congr 1; omega
    rw [this, Nat.mul_left_comm, Nat.mul_left_comm d]
  rw [e, Nat.add_mul_div_left _ _ (Cp_pos j), Nat.add_mul_mod_self_left]
theorem dg_at (n d k : Nat) (hn : n < C ^ k) (hd : d < C) : dg (n + d * C ^ k) k = d := by
  unfold dg
  rw [Nat.add_mul_div_right _ _ (Cp_pos k), Nat.div_eq_of_lt hn, Nat.zero_add, Nat.mod_eq_of_lt hd]
theorem uc_snoc (n d k : Nat) (hn : n < C ^ k) (hd : d < C) : uc k n ++ [.int .u32 (d : Nat)] = uc (k + 1) (n + d * C ^ k) := by
  unfold uc
  rw [List.range_succ, List.map_append]
  congr 1
  · apply List.map_congr_left
    intro j hj
    rw [dg_low n d k j (List.mem_range.1 hj)]
  · simp [dg_at n d k hn hd]
theorem add_lt_C (n d k : Nat) (hn : n < C ^ k) (hd : d < C) : n + d * C ^ k < C ^ (k + 1) := by
  have : (d + 1) * C ^ k ≤ C * C ^ k := Nat.mul_le_mul_right _ hd
  rw [Nat.add_mul, Nat.one_mul] at this
  rw [Nat.pow_succ']; omega

/-- A slice that has grown to the digits of n holds n. -/
theorem GRow.big {w0 : World} {Lg L : List (Nat × Obj)} {e : TypeId} {v : Value} {m n : Nat} (h : GRow w0 Lg e 1 v m (uc m n)) (hn : n < C ^ m) (hm : m ≤ 1000000) (hs : ∀ x ∈ Lg, x ∈ L) :
    ∃ a cap, v = .slice a m cap ∧ (∀ S w, St w0 S L w → BigAt w v m n) ∧ BigIn w0.heap.size Lg (.slice a (dl n) cap) n := by
  have hd : dl n ≤ m := dl_le.2 hn
  obtain ⟨hl, ⟨rfl, rfl, rfl⟩ | ⟨g, cap, cur, rfl, rfl, h1, h2, h3, h4, h5⟩⟩ := h
  · have h0 : dl n = 0 := by omega
    exact ⟨none, 0, rfl, fun _ _ _ => ⟨hn, hm, none, 0, rfl, Nat.le_refl _, fun h => absurd h (by omega)⟩, by simp, by simp, by omega, none, 0, by rw [h0], by omega, fun h => by omega⟩
  · have hc : ∀ j, j < m → cur[j]? = some (.int .u32 (dg n j : Nat)) := fun j hj => by
      have := uc_get m n j hj
      rw [← h5, List.getElem?_take, if_pos (by omega), Array.getElem?_toList] at this
      exact this
    exact ⟨_, cap, rfl, fun _ _ hst => ⟨hn, hm, _, cap, rfl, h2, fun _ => ⟨g, cur, e, rfl, hst.own _ _ (hs _ (by simp)), hc⟩⟩, by simpa using h1, by simp, by omega, _, cap, rfl, by omega, fun _ => ⟨g, cur, e, rfl, by simp, fun j hj => hc j (by omega)⟩⟩

theorem u32_wrap (x : Nat) : IntKind.u32.wrap (x : Int) = ((x % C : Nat) : Int) := by
  show (x : Int) % 4294967296 = _
  rw [C_val]; omega

end Go.Proofs.YtggchelniblipaaGreatDoor.Rd

namespace Go.Proofs.YtggchelniblipaaGreatDoor.Rd
open Go Go.RowKit
set_option linter.unusedVariables false
set_option linter.unusedSimpArgs false
set_option maxRecDepth 100000

theorem bl_half (d : Nat) (h : d ≠ 0) : bl d = 1 + bl (d / 2) := by
  by_cases h2 : d / 2 = 0
  · have : d = 1 := by omega
    subst this; decide
  · have := bl_shift d 1 (by simpa using h2)
    simpa using this
theorem bl_top {n l : Nat} (h : dl n = l + 1) : bl n = 32 * l + bl (dg n l) ∧ dg n l ≠ 0 := by
  have h1 := dl_lt n
  rw [h] at h1
  have h2 : dg n l ≠ 0 := fun h0 => by
    have := dl_le.2 (lt_down h1 h0); omega
  have h3 : dg n l = n / 2 ^ (32 * l) := by
    unfold dg
    rw [C_pow, Nat.mod_eq_of_lt]
    rw [Nat.div_lt_iff_lt_mul (Nat.pow_pos (by omega)), ← C_pow, ← Nat.pow_succ']; exact h1
  refine ⟨?_, h2⟩
  rw [h3] at h2 ⊢
  exact bl_shift n (32 * l) h2

def cmp (a b : Nat) : Int := if a < b then -1 else if b < a then 1 else 0
theorem div_dg (n k : Nat) : n / C ^ k = n / C ^ (k + 1) * C + dg n k := by
  have := Nat.div_add_mod (n / C ^ k) C
  rw [Nat.div_div_eq_div_mul, show C ^ k * C = C ^ (k + 1) from rfl] at this
  unfold dg
  rw [Nat.mul_comm (n / C ^ (k + 1))]; exact this.symm
theorem lt_of_div {a b c : Nat} (h : a / c < b / c) : a < b := by
  rcases Nat.lt_or_ge a b with h' | h'
  · exact h'
  · have := Nat.div_le_div_right (c := c) h'; omega

end Go.Proofs.YtggchelniblipaaGreatDoor.Rd
