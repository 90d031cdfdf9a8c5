/- The walk's own words for this program: what a call keeps of memory, which blocks a walk owns, one law for each kind of operation that touches memory. -/
import Derived.WalkKit
import Derived.KernelRfl
import Derived.Below
import Derived.Great.Walk
import Derived.OrdersHeld
import Derived.RegionTactic
import Derived.Deep.RegionHeld3
import Derived.BigRegion
namespace Go.Proofs.YtoakmlopjeecoaaGreatDoor.Rd
open Go Go.RowKit
set_option linter.unusedVariables false
set_option linter.unusedSimpArgs false

/-- Of the blocks that were there only those of S may have turned; the streams are as they were. -/
structure Keeps (S : List Nat) (w w' : World) : Prop where
  os : w'.os = w.os
  tape : w'.tape = w.tape
  output : w'.output = w.output
  size : w.heap.size ≤ w'.heap.size
  block : ∀ k, k < w.heap.size → k ∉ S → w'.heap[k]? = w.heap[k]?

theorem Keeps.refl (S : List Nat) (w : World) : Keeps S w w := ⟨rfl, rfl, rfl, Nat.le_refl _, fun _ _ _ => rfl⟩

theorem Keeps.trans {S S' : List Nat} {w0 w1 w2 : World} (h : Keeps S w0 w1) (k : Keeps S' w1 w2) (hS : ∀ b ∈ S', b < w0.heap.size → b ∈ S) : Keeps S w0 w2 :=
  ⟨k.os.trans h.os, k.tape.trans h.tape, k.output.trans h.output, Nat.le_trans h.size k.size, fun i hi hn =>
    (k.block i (Nat.lt_of_lt_of_le hi h.size) (fun hm => hn (hS i hm hi))).trans (h.block i hi hn)⟩

theorem Keeps.mono {S S' : List Nat} {w w' : World} (h : Keeps S w w') (hS : ∀ b ∈ S, b < w.heap.size → b ∈ S') : Keeps S' w w' :=
  ⟨h.os, h.tape, h.output, h.size, fun k hk hn => h.block k hk (fun hm => hn (hS k hm hk))⟩

theorem Keeps.below {w w' : World} (h : Keeps [] w w') : Below w.heap.size w w' :=
  ⟨h.os, h.tape, h.output, h.size, fun k hk => h.block k hk (by simp)⟩

theorem Keeps.alloc (w : World) (o : Obj) : Keeps [] w (w.alloc o) :=
  ⟨rfl, rfl, rfl, by simp, fun _ hk _ => Below.heap_alloc _ _ _ hk⟩

theorem Keeps.drew (w : World) : Keeps [] w w.drew := ⟨rfl, rfl, rfl, Nat.le_refl _, fun _ _ _ => rfl⟩

/-- A block that is written anew. -/
theorem Keeps.setRow {S : List Nat} (w : World) (g : Nat) (cs : Array Value) (hg : g < w.heap.size → g ∈ S) : Keeps S w (w.setRow g cs) :=
  ⟨rfl, rfl, rfl, by simp, fun k hk hn => setRow_other w g k cs (fun e => hn (e ▸ hg (e ▸ hk)))⟩

/-- What a walk owns: from w0 on, only blocks of S have turned; block b holds o for each (b, o) of L. -/
structure St (w0 : World) (S : List Nat) (L : List (Nat × Obj)) (w : World) : Prop where
  keeps : Keeps S w0 w
  own : ∀ b o, (b, o) ∈ L → w.heap[b]? = some o
  nodup : (L.map Prod.fst).Nodup

theorem lt_of_some {w : World} {b : Nat} {o : Obj} (h : w.heap[b]? = some o) : b < w.heap.size := by
  rcases Nat.lt_or_ge b w.heap.size with h' | h'
  · exact h'
  · simp [Array.getElem?_eq_none h'] at h

theorem St.start (S : List Nat) (w : World) : St w S [] w := ⟨.refl _ _, fun _ _ h => by simp at h, by simp⟩

theorem St.add {w0 w : World} {S : List Nat} {L : List (Nat × Obj)} (h : St w0 S L w) {b : Nat} {o : Obj} (hb : w.heap[b]? = some o) (hn : b ∉ L.map Prod.fst) : St w0 S ((b, o) :: L) w :=
  ⟨h.keeps, fun b' o' hm => by
    rcases List.mem_cons.1 hm with e | hm
    · obtain ⟨rfl, rfl⟩ := Prod.mk.inj e; exact hb
    · exact h.own _ _ hm, by simp only [List.map_cons, List.nodup_cons]; exact ⟨hn, h.nodup⟩⟩

/-- Whatever keeps the old blocks keeps what is owned. -/
theorem St.keep {w0 w w' : World} {S : List Nat} {L : List (Nat × Obj)} (h : St w0 S L w) (k : Keeps [] w w') : St w0 S L w' :=
  ⟨h.keeps.trans k (by simp), fun b o hm => by
    have hb := h.own b o hm
    rw [k.block b (lt_of_some hb) (by simp)]; exact hb, h.nodup⟩

theorem St.drop {w0 w : World} {S : List Nat} {x : Nat × Obj} {L : List (Nat × Obj)} (h : St w0 S (x :: L) w) : St w0 S L w :=
  ⟨h.keeps, fun b o hm => h.own b o (List.mem_cons_of_mem _ hm), by
    have := h.nodup
    simp only [List.map_cons, List.nodup_cons] at this
    exact this.2⟩

/-- Owning less. -/
theorem St.sub {w0 w : World} {S : List Nat} {L L' : List (Nat × Obj)} (h : St w0 S L w) (hs : L'.Sublist L) : St w0 S L' w :=
  ⟨h.keeps, fun b o hm => h.own b o (hs.subset hm), h.nodup.sublist (hs.map _)⟩

theorem St.lt {w0 w : World} {S : List Nat} {L : List (Nat × Obj)} (h : St w0 S L w) {b : Nat} {o : Obj} (hm : (b, o) ∈ L) : b < w.heap.size := lt_of_some (h.own b o hm)

theorem St.fresh {w0 w : World} {S : List Nat} {L : List (Nat × Obj)} (h : St w0 S L w) : w.heap.size ∉ L.map Prod.fst := fun hm => by
  obtain ⟨⟨b, o⟩, hm, e⟩ := List.mem_map.1 hm
  have := h.lt hm
  simp only at e
  omega

theorem St.alloc {w0 w : World} {S : List Nat} {L : List (Nat × Obj)} (h : St w0 S L w) (o : Obj) : St w0 S ((w.heap.size, o) :: L) (w.alloc o) :=
  (h.keep (Keeps.alloc w o)).add (heap_alloc_new w o) h.fresh

/-- In L block b holds o; with o' there it is L'. -/
inductive At (b : Nat) (o o' : Obj) : List (Nat × Obj) → List (Nat × Obj) → Prop
  | head (L) : At b o o' ((b, o) :: L) ((b, o') :: L)
  | tail (x) (L L') : At b o o' L L' → At b o o' (x :: L) (x :: L')

theorem At.mem {b : Nat} {o o' : Obj} {L L' : List (Nat × Obj)} (h : At b o o' L L') : (b, o) ∈ L := by
  induction h with
  | head => simp
  | tail => simp [*]

theorem At.keys {b : Nat} {o o' : Obj} {L L' : List (Nat × Obj)} (h : At b o o' L L') : L'.map Prod.fst = L.map Prod.fst := by
  induction h with
  | head => simp
  | tail => simp [*]

theorem At.mem' {b : Nat} {o o' : Obj} {L L' : List (Nat × Obj)} (h : At b o o' L L') (hn : (L.map Prod.fst).Nodup) : ∀ b' x, (b', x) ∈ L' → (b' = b ∧ x = o') ∨ (b' ≠ b ∧ (b', x) ∈ L) := by
  induction h with
  | head L =>
    intro b' x hm
    simp only [List.map_cons, List.nodup_cons] at hn
    rcases List.mem_cons.1 hm with e | hm
    · obtain ⟨rfl, rfl⟩ := Prod.mk.inj e; exact .inl ⟨rfl, rfl⟩
    · exact .inr ⟨fun e => hn.1 (e ▸ List.mem_map_of_mem (f := Prod.fst) hm), List.mem_cons_of_mem _ hm⟩
  | tail y L L' h ih =>
    intro b' x hm
    simp only [List.map_cons, List.nodup_cons] at hn
    rcases List.mem_cons.1 hm with e | hm
    · refine .inr ⟨fun e' => hn.1 ?_, by rw [e]; simp⟩
      have : (y.1) = b := by rw [← e]; exact e'
      rw [this]
      exact List.mem_map_of_mem (f := Prod.fst) h.mem
    · rcases ih hn.2 b' x hm with h' | h'
      · exact .inl h'
      · exact .inr ⟨h'.1, List.mem_cons_of_mem _ h'.2⟩

/-- Block b is given other content; whatever else the world was stays. -/
theorem St.put {w0 w w' : World} {S : List Nat} {L L' : List (Nat × Obj)} {b : Nat} {o o' : Obj} (h : St w0 S L w) (hat : At b o o' L L')
    (hb : w0.heap.size ≤ b ∨ b ∈ S) (k : Keeps [b] w w') (hnew : w'.heap[b]? = some o') : St w0 S L' w' :=
  ⟨h.keeps.trans k (fun x hx hlt => by
      simp only [List.mem_singleton] at hx
      subst hx
      rcases hb with hb | hb
      · omega
      · exact hb),
    fun b' x hm => by
      rcases hat.mem' h.nodup b' x hm with ⟨rfl, rfl⟩ | ⟨hne, hm'⟩
      · exact hnew
      · have hown := h.own b' x hm'
        rw [k.block b' (lt_of_some hown) (by simpa using hne)]
        exact hown,
    by rw [hat.keys]; exact h.nodup⟩

/-- Is it a struct's or an array's? -/
def descAgg : TypeDesc → Bool | .struct _ | .array _ _ => true | _ => false
/-- T is a struct's or an array's type of n cells. -/
def AggT (P : Program) (T : TypeId) (n : Nat) : Prop := ∃ d, P.underlying T = some d ∧ descAgg d = true ∧ (P.info? T).map (·.size) = some n
/-- T is a type of one cell. -/
def CellT (P : Program) (T : TypeId) : Prop := ∃ d, P.underlying T = some d ∧ descAgg d = false ∧ (P.info? T).map (·.size) = some 1
/-- The cells of T's zero value. -/
def ZeroT (P : Program) (T : TypeId) (cs : Array Value) : Prop := ∃ z : Value, z.cells = cs ∧ ∀ w, (zeroValue T).run P w = .ok z w
theorem ZeroT.of {P : Program} {T : TypeId} {z : Value} {cs : Array Value} (h : (P.info? T).bind (·.zero) = some z) (hc : z.cells = cs) : ZeroT P T cs := ⟨z, hc, fun w => by
  cases hq : P.info? T with
  | none => simp [hq] at h
  | some i =>
    simp only [hq, Option.bind_some] at h
    simp [zeroValue, typeInfo, hq, h]⟩
theorem cells_agg (cs : Array Value) : (Value.agg cs).cells = cs := rfl
theorem cells_int (k : IntKind) (n : Int) : (Value.int k n).cells = #[.int k n] := rfl
theorem cells_bool (b : Bool) : (Value.bool b).cells = #[.bool b] := rfl
theorem cells_string (s : ByteArray) : (Value.string s).cells = #[.string s] := rfl
theorem cells_pointer (a : Option Addr) : (Value.pointer a).cells = #[.pointer a] := rfl
theorem cells_slice (a : Option Addr) (l c : Nat) : (Value.slice a l c).cells = #[.slice a l c] := rfl
theorem cells_func (f : Fn) (x y : Array Value) : (Value.func f x y).cells = #[.func f x y] := rfl
/-- T is a slice type of elements of type e. -/
def SliceT (P : Program) (T e : TypeId) : Prop := P.underlying T = some (.slice e)

/-- T is an array type of n elements of type e. -/
def ArrT (P : Program) (T : TypeId) (n : Nat) (e : TypeId) : Prop := P.underlying T = some (.array n e)

/-- An element type: its size, its zero. -/
def ElemT (P : Program) (e : TypeId) (n : Nat) (z : Value) : Prop := ∃ i, P.info? e = some i ∧ i.size = n ∧ i.zero = some z

theorem ElemT.of {P : Program} {e : TypeId} {n : Nat} {z : Value} (h : (P.info? e).map (fun i => (i.size, i.zero)) = some (n, some z)) : ElemT P e n z := by
  cases hq : P.info? e with
  | none => simp [hq] at h
  | some i =>
    simp only [hq, Option.map_some, Option.some.injEq, Prod.mk.injEq] at h
    exact ⟨i, hq, h.1, h.2⟩
theorem AggT.of {P : Program} {T : TypeId} {n : Nat} (h : ((P.underlying T).map descAgg, (P.info? T).map (·.size)) = (some true, some n)) : AggT P T n := by
  obtain ⟨h1, h2⟩ := Prod.mk.inj h
  cases hq : P.underlying T with
  | none => simp [hq] at h1
  | some d => exact ⟨d, hq, by simpa [hq] using h1, h2⟩
theorem CellT.of {P : Program} {T : TypeId} (h : ((P.underlying T).map descAgg, (P.info? T).map (·.size)) = (some false, some 1)) : CellT P T := by
  obtain ⟨h1, h2⟩ := Prod.mk.inj h
  cases hq : P.underlying T with
  | none => simp [hq] at h1
  | some d => exact ⟨d, hq, by simpa [hq] using h1, h2⟩

/-- What a literal of so many elements of one cell holds. -/
theorem built_1 {P : Program} {e : TypeId} {z : Value} (h : ElemT P e 1 z) {v : Value} (hv : v.cells = #[v]) : P.builtSlice e 1 [(0, v)] = some #[v] := by
  obtain ⟨i, h1, h2, h3⟩ := h
  have e1 : Array.range 1 = #[0] := by decide
  simp [Program.builtSlice, h1, h2, h3, Instr.fill, hv, e1]
theorem built_2 {P : Program} {e : TypeId} {z : Value} (h : ElemT P e 1 z) {v u : Value} (hv : v.cells = #[v]) (hu : u.cells = #[u]) : P.builtSlice e 2 [(0, v), (1, u)] = some #[v, u] := by
  obtain ⟨i, h1, h2, h3⟩ := h
  have e1 : Array.range 2 = #[0, 1] := by decide
  simp [Program.builtSlice, h1, h2, h3, Instr.fill, hv, hu, e1]

/-- What a slot of a frame that is written out holds. -/
theorem eval_lit (l : List Value) (d : List Deferred) (n : Nat) : Act.eval ⟨l.toArray, d⟩ (.tmp n) = l.getD n undef := by
  simp [Act.eval]
theorem eval_k (a : Act) (v : Value) : Act.eval a (.const v) = v := rfl
theorem eval_f (a : Act) (f : FuncId) : Act.eval a (.func f) = .func (.func f) #[] #[] := rfl
theorem eval_g (a : Act) (g : Nat) : Act.eval a (.global g) = .pointer (some ⟨g, 0, none⟩) := rfl

theorem builtin_copy' (ats : Array TypeId) (ty : TypeId) (cs : Array Bool) (args : Array Value) : builtin .copy ats ty cs args = (do pure (.value (← Builtin.copy_ ats ty args))) := rfl

section laws
variable {P : Program} {ops : Array Oper} {rest : List Oper} {Q : Exit → Act → World → Prop} {a : Act} {w w0 : World} {S : List Nat} {L L' : List (Nat × Obj)}

/-- A new variable. -/
theorem wl_alloc {o : Oper} {T : TypeId} {cs : Array Value} (hst : St w0 S L w) (hz : ZeroT P T cs) (hg : o.guard = none) (ho : o.op = .alloc T)
    (h : ∀ b w', w0.heap.size ≤ b → St w0 S ((b, .cells cs T) :: L) w' → wpList P ops Q rest (a.put o.dst (.pointer (some ⟨b, 0, none⟩))) w') : wpList P ops Q (o :: rest) a w := by
  obtain ⟨z, rfl, hz⟩ := hz
  refine wpList_plain hg fun K hK => ?_
  unfold Oper.wp execOp
  simp only [ho, Sem.run_bind, Instr.alloc, newVar, newRow, run_newObj_alloc, Sem.run_pure, Result.andThen_ok, hz w]
  exact hK _ _ (h _ _ hst.keeps.size (hst.alloc _))

/-- A new variable that holds a value. -/
theorem wl_box {o : Oper} {T : TypeId} {x : Operand} {v : Value} {cs : Array Value} (hst : St w0 S L w) (hg : o.guard = none) (ho : o.op = .box T x) (hv : a.eval x = v) (hc : v.cells = cs)
    (h : ∀ b w', w0.heap.size ≤ b → St w0 S ((b, .cells cs T) :: L) w' → wpList P ops Q rest (a.put o.dst (.pointer (some ⟨b, 0, none⟩))) w') : wpList P ops Q (o :: rest) a w := by
  subst hc hv
  refine wpList_plain hg fun K hK => ?_
  unfold Oper.wp execOp
  simp only [ho, Sem.run_bind, Instr.box, newVar, newRow, run_newObj_alloc, Sem.run_pure, Result.andThen_ok]
  exact hK _ _ (h _ _ hst.keeps.size (hst.alloc _))

/-- A slice literal. -/
theorem wl_buildSlice {o : Oper} {T e : TypeId} {len : Nat} {parts : Array (Nat × Operand)} {cells : Array Value} (hst : St w0 S L w) (hu : SliceT P T e) (hg : o.guard = none) (ho : o.op = .buildSlice T len parts)
    (hf : P.builtSlice e len (parts.map fun (i, x) => (i, a.eval x)).toList = some cells)
    (h : ∀ b w', w0.heap.size ≤ b → St w0 S ((b, .cells cells e) :: L) w' → wpList P ops Q rest (a.put o.dst (.slice (some ⟨b, 0, none⟩) len len)) w') : wpList P ops Q (o :: rest) a w :=
  Go.Great.wpList_buildSliceTo hg T e len parts ho _ rfl _ rfl hu cells hf (h _ _ hst.keeps.size (hst.alloc _))

theorem run_isAgg_no {T : TypeId} (d : TypeDesc) (hu : P.underlying T = some d) (hd : descAgg d = false) (w : World) :
    (isAgg T).run P w = .ok false w := by
  unfold isAgg
  rw [Sem.run_bind, run_underlying hu w]
  cases d <;> simp_all [descAgg]

/-- What a load of one cell finds. -/
theorem run_loadCell {T : TypeId} {b i : Nat} {cs : Array Value} {E : TypeId} {fr : Nat × Nat} {v : Value} (hT : CellT P T) (hb : w.heap[b]? = some (.cells cs E fr)) (hv : cs[i]? = some v) :
    (Instr.loadAt T (.pointer (some ⟨b, i, none⟩))).run P w = .ok v w := by
  obtain ⟨d, hu, hd, _⟩ := hT
  have hc : w.cell? ⟨b, i, none⟩ = some v := by rw [cell_of_row w b i cs E fr hb]; exact hv
  simp [Instr.loadAt, Instr.sureAddr, loadVar, Sem.run_bind, run_isAgg_no d hu hd w, load, Sem.run, hc]

theorem run_loadAgg {T : TypeId} {b : Nat} {cs : Array Value} {E : TypeId} {fr : Nat × Nat} {n : Nat} (hT : AggT P T n) (hn : cs.size = n) (hb : w.heap[b]? = some (.cells cs E fr)) :
    (Instr.loadAt T (.pointer (some ⟨b, 0, none⟩))).run P w = .ok (.agg cs) w := by
  obtain ⟨d, hu, hd, hi⟩ := hT
  simp only [Instr.loadAt, Instr.sureAddr, Sem.run_bind, Sem.run_pure, Result.andThen_ok, run_loadVar_row w b E T cs fr d hb hu (by cases d <;> simp_all [descAgg]) (by rw [hn]; exact hi)]

theorem wl_loadAgg {o : Oper} {T : TypeId} {x : Operand} {n b : Nat} {cs : Array Value} {E : TypeId} {fr : Nat × Nat} (hst : St w0 S L w) (hT : AggT P T n) (hg : o.guard = none) (ho : o.op = .load T x) (hx : a.eval x = .pointer (some ⟨b, 0, none⟩))
    (hm : (b, .cells cs E fr) ∈ L) (hn : cs.size = n) (h : wpList P ops Q rest (a.put o.dst (.agg cs)) w) : wpList P ops Q (o :: rest) a w := by
  refine wpList_plain hg fun K hK => ?_
  unfold Oper.wp execOp
  simp only [ho, hx, Sem.run_bind, run_loadAgg hT hn (hst.own _ _ hm), Sem.run_pure, Result.andThen_ok]
  exact hK _ _ h

theorem wl_loadCell {o : Oper} {T : TypeId} {x : Operand} {b i : Nat} {cs : Array Value} {E : TypeId} {fr : Nat × Nat} {v : Value} (hst : St w0 S L w) (hT : CellT P T) (hg : o.guard = none) (ho : o.op = .load T x) (hx : a.eval x = .pointer (some ⟨b, i, none⟩))
    (hm : (b, .cells cs E fr) ∈ L) (hv : cs[i]? = some v) (h : wpList P ops Q rest (a.put o.dst v) w) : wpList P ops Q (o :: rest) a w := by
  refine wpList_plain hg fun K hK => ?_
  unfold Oper.wp execOp
  simp only [ho, hx, Sem.run_bind, run_loadCell hT (hst.own _ _ hm) hv, Sem.run_pure, Result.andThen_ok]
  exact hK _ _ h

/-- A store of one cell. -/
theorem wl_storeCell {o : Oper} {T : TypeId} {x y : Operand} {b i : Nat} {v : Value} {cs : Array Value} {E : TypeId} (hst : St w0 S L w) (hT : CellT P T) (hg : o.guard = none) (ho : o.op = .store T x y) (hdst : o.dst = none) (hx : a.eval x = .pointer (some ⟨b, i, none⟩))
    (hy : a.eval y = v) (h1 : v.oneCell' = true)
    (hat : At b (.cells cs E (0, 0)) (.cells (cs.setIfInBounds i v) E (0, 0)) L L') (hlt : i < cs.size) (hb : w0.heap.size ≤ b ∨ b ∈ S)
    (h : ∀ w', St w0 S L' w' → wpList P ops Q rest a w') : wpList P ops Q (o :: rest) a w := by
  obtain ⟨_, _, _, hi⟩ := hT
  have hown := hst.own _ _ hat.mem
  have hnew : (w.setCell ⟨b, i, none⟩ v).heap[b]? = some (.cells (cs.setIfInBounds i v) E (0, 0)) := heap_setCell_same w b i cs E v hown
  have hcell : w.cell? ⟨b, i, none⟩ = some cs[i] := by rw [cell_of_row w b i cs E _ hown]; simp [hlt]
  have hfz : w.frozen? ⟨b, i, none⟩ = false := frozen_of_row w b i cs E hown
  have hk : Keeps [b] w (w.setCell ⟨b, i, none⟩ v) := ⟨rfl, rfl, rfl, by simp [World.setCell], fun k _ hn => heap_setCell_other w ⟨b, i, none⟩ k v (by simpa using hn)⟩
  have hcells : v.cells = #[v] := by cases v <;> first | rfl | cases h1
  refine wpList_plain hg fun K hK => ?_
  unfold Oper.wp execOp
  cases hq : P.info? T with
  | none => simp [hq] at hi
  | some ti =>
    have hs : ti.size = 1 := by simpa [hq] using hi
    simp only [ho, hx, hy, Sem.run_bind, Instr.storeAt, Instr.sureAddr, storeVar, sizeOf, typeInfo, Sem.run_pure, Result.andThen_ok]
    simp [hq, hcells, hs, storeCells, run_store P w _ v _ h1, hcell, hfz, Addr.add]
    have hput : a.put o.dst undef = a := by rw [hdst]; rfl
    rw [Oper.upon_skip, hput]
    exact hK _ _ (h _ (hst.put hat hb hk hnew))

/-- A store of a whole block. -/
theorem wl_storeAgg {o : Oper} {T : TypeId} {x y : Operand} {n b : Nat} {cells cs : Array Value} {E : TypeId} (hst : St w0 S L w) (hT : AggT P T n) (hg : o.guard = none) (ho : o.op = .store T x y) (hdst : o.dst = none) (hx : a.eval x = .pointer (some ⟨b, 0, none⟩))
    (hy : a.eval y = .agg cells) (h1 : cells.all (·.oneCell') = true) (hi : cells.size = n)
    (hat : At b (.cells cs E (0, 0)) (.cells cells E (0, 0)) L L') (hsz : cs.size = n) (hb : w0.heap.size ≤ b ∨ b ∈ S)
    (h : ∀ w', St w0 S L' w' → wpList P ops Q rest a w') : wpList P ops Q (o :: rest) a w := by
  obtain ⟨_, _, _, hs⟩ := hT
  have hown := hst.own _ _ hat.mem
  refine wpList_store_row hg T x y ho b cells hx hy E cs hown (by rw [hi]; exact hs) (by rw [hsz, hi]) h1 ?_
  rw [hdst]
  exact h _ (hst.put hat hb (Keeps.setRow w b cells (fun _ => by simp)) (setRow_heap w b cs cells E _ hown))

/-- What a call of a function that only makes memory hands back. -/
def Gives (P : Program) (f : FuncId) (args : Array Value) (v : Value) : Prop := ∀ w, Calls P f args w fun e w' => e = .returned v ∧ Keeps [] w w'

def GivesAt (P : Program) (f : FuncId) (args : Array Value) (v : Value) (w : World) : Prop := Calls P f args w fun e w' => e = .returned v ∧ Keeps [] w w'
theorem Gives.at {P : Program} {f : FuncId} {args : Array Value} {v : Value} (h : Gives P f args v) (w : World) : GivesAt P f args v w := h w
theorem Gives.of_same {P : Program} {f : FuncId} {args : Array Value} {v : Value} (h : ∀ w, Calls P f args w fun e w' => e = .returned v ∧ w' = w) : Gives P f args v :=
  fun w => (h w).mono fun _ _ ⟨h1, h2⟩ => ⟨h1, h2 ▸ .refl _ _⟩
/-- f is a function with a Go body. -/
def GoF (P : Program) (f : FuncId) : Prop := ∃ fn, P.funcs[f]? = some fn ∧ (fn.name == "runtime.NumGoroutine") = false ∧ fn.body.isNone = false

theorem run_callFunc_go {f : FuncId} (hf : GoF P f) (args : Array Value) (w : World) : (callFunc f args).run P w = .ok (.enter f args) w := by
  obtain ⟨fn, h1, h2, h3⟩ := hf
  have h2' : fn.name ≠ "runtime.NumGoroutine" := by simpa using h2
  have h3' : fn.body ≠ none := fun e => by simp [e] at h3
  simp [callFunc, h1, h2', h3', Sem.run]

theorem run_execOp_call {o : Oper} {c : Call} (ho : o.op = .call c) {x : Operand} (hc : c.callee = .value x) {f : FuncId} {cap : Array Value} (hx : a.eval x = .func (.func f) #[] cap) (w : World) :
    (execOp a.eval o).run P w = (callFunc f (c.args.map a.eval ++ cap)).run P w := by
  unfold execOp
  simp [ho, resolve, hc, hx, Deferred.ofValue, Sem.run_bind, invoke]

theorem args_eq {xs : Array Operand} {cap : Array Value} {args : List Value} (h : xs.toList.map a.eval ++ cap.toList = args) : xs.map a.eval ++ cap = args.toArray := by
  apply Array.toList_inj.1
  simp [h]

/-- A call of a function by its contract; its arguments said. -/
theorem wl_call {o : Oper} {c : Call} {x : Operand} {f : FuncId} {cap : Array Value} {args : List Value} {v : Value} (hf : GoF P f) (hst : St w0 S L w) (hc : Gives P f args.toArray v)
    (hg : o.guard = none) (ho : o.op = .call c) (hcal : c.callee = .value x) (hx : a.eval x = .func (.func f) #[] cap) (hargs : c.args.toList.map a.eval ++ cap.toList = args)
    (h : ∀ w', St w0 S L w' → wpList P ops Q rest (a.put o.dst v) w') : wpList P ops Q (o :: rest) a w := by
  refine wpList_plain hg fun K hK => ?_
  unfold Oper.wp
  rw [run_execOp_call ho hcal hx, args_eq hargs, run_callFunc_go hf, Oper.upon_enter]
  refine (hc w).mono fun e w'' hh => ?_
  obtain ⟨rfl, hk⟩ := hh
  exact hK _ _ (h _ (hst.keep hk))

/-- A call of a function by a contract that leans on the world. -/
theorem wl_callAt {o : Oper} {c : Call} {x : Operand} {f : FuncId} {cap : Array Value} {args : List Value} {v : Value} (hf : GoF P f) (hst : St w0 S L w) (hc : ∀ w, St w0 S L w → GivesAt P f args.toArray v w)
    (hg : o.guard = none) (ho : o.op = .call c) (hcal : c.callee = .value x) (hx : a.eval x = .func (.func f) #[] cap) (hargs : c.args.toList.map a.eval ++ cap.toList = args)
    (h : ∀ w', St w0 S L w' → wpList P ops Q rest (a.put o.dst v) w') : wpList P ops Q (o :: rest) a w := by
  refine wpList_plain hg fun K hK => ?_
  unfold Oper.wp
  rw [run_execOp_call ho hcal hx, args_eq hargs, run_callFunc_go hf, Oper.upon_enter]
  refine (hc w hst).mono fun e w'' hh => ?_
  obtain ⟨rfl, hk⟩ := hh
  exact hK _ _ (h _ (hst.keep hk))

/-- A call that the model carries out by an entry of its own. -/
theorem wl_callX {o : Oper} {c : Call} {x : Operand} {f : FuncId} {cap : Array Value} {args : List Value} {v : Value} (hc : (callFunc f args.toArray).run P w = .ok (.value v) w)
    (hg : o.guard = none) (ho : o.op = .call c) (hcal : c.callee = .value x) (hx : a.eval x = .func (.func f) #[] cap) (hargs : c.args.toList.map a.eval ++ cap.toList = args)
    (h : wpList P ops Q rest (a.put o.dst v) w) : wpList P ops Q (o :: rest) a w := by
  refine wpList_plain hg fun K hK => ?_
  unfold Oper.wp
  rw [run_execOp_call ho hcal hx, args_eq hargs, hc, Oper.upon_value]
  exact hK _ _ h

/-- An element of an array that is a value, of one cell. -/
theorem wl_index {o : Oper} {T e : TypeId} {x y : Operand} {n j : Nat} {k : IntKind} {cs : Array Value} {v : Value} (hT : ArrT P T n e) (he : CellT P e) (hg : o.guard = none) (ho : o.op = .index T x y)
    (hx : a.eval x = .agg cs) (hy : a.eval y = .int k (j : Int)) (hj : j < n) (hv : cs[j]? = some v)
    (h : wpList P ops Q rest (a.put o.dst v) w) : wpList P ops Q (o :: rest) a w := by
  obtain ⟨d, hu, hd, hs⟩ := he
  have h1 : (Instr.index T (.agg cs) (.int k (j : Int))).run P w = .ok v w := by
    cases hq : P.info? e with
    | none => simp [hq] at hs
    | some i =>
      have hi : i.size = 1 := by simpa [hq] using hs
      have hlt : (j : Int) < (n : Int) := by omega
      simp [Instr.index, asIntOf, Sem.run_bind, run_underlying (show P.underlying T = some (.array n e) from hT) w, hj, sizeOf, typeInfo, hq, hi, part, run_isAgg_no d hu hd w, hv]
  refine wpList_plain hg fun K hK => ?_
  unfold Oper.wp execOp
  simp only [ho, hx, hy, Sem.run_bind, h1, Sem.run_pure, Result.andThen_ok]
  exact hK _ _ h

/-- An operation that leaves the world alone. -/
theorem wl_pure {o : Oper} {v : Value} (hg : o.guard = none) (hrun : ∀ w, (execOp a.eval o).run P w = .ok (.value v) w) (h : wpList P ops Q rest (a.put o.dst v) w) : wpList P ops Q (o :: rest) a w := by
  refine wpList_plain hg fun K hK => ?_
  unfold Oper.wp
  rw [hrun, Oper.upon_value]
  exact hK _ _ h

/-- A guard that says yes. -/
theorem wl_guard {d : Option Tmp} {op : Op} {ty : TypeId} {pos : String} {af : Array Edge} {g : Nat × Bool} (hw : Region.wanted ⟨d, op, ty, pos, af, some g⟩ (yielded ops a.tmps) = true)
    (h : wpList P ops Q (⟨d, op, ty, pos, af, none⟩ :: rest) a w) : wpList P ops Q (⟨d, op, ty, pos, af, some g⟩ :: rest) a w := by
  unfold wpList at h ⊢
  rw [if_pos hw]
  rw [if_pos (by rfl)] at h
  exact h

/-- What a load yields in every world that bears what is owned. -/
theorem run_opLoadAgg {o : Oper} {T : TypeId} {x : Operand} {n b : Nat} {cs : Array Value} {E : TypeId} {fr : Nat × Nat} (hst : St w0 S L w) (hT : AggT P T n) (ho : o.op = .load T x) (hx : a.eval x = .pointer (some ⟨b, 0, none⟩))
    (hm : (b, .cells cs E fr) ∈ L) (hn : cs.size = n) : (execOp a.eval o).run P w = .ok (.value (.agg cs)) w := by
  unfold execOp
  simp only [ho, hx, Sem.run_bind, run_loadAgg hT hn (hst.own _ _ hm), Sem.run_pure, Result.andThen_ok]
theorem run_opLoadCell {o : Oper} {T : TypeId} {x : Operand} {b i : Nat} {cs : Array Value} {E : TypeId} {fr : Nat × Nat} {v : Value} (hst : St w0 S L w) (hT : CellT P T) (ho : o.op = .load T x) (hx : a.eval x = .pointer (some ⟨b, i, none⟩))
    (hm : (b, .cells cs E fr) ∈ L) (hv : cs[i]? = some v) : (execOp a.eval o).run P w = .ok (.value v) w := by
  unfold execOp
  simp only [ho, hx, Sem.run_bind, run_loadCell hT (hst.own _ _ hm) hv, Sem.run_pure, Result.andThen_ok]

/-- copy of cells of one block into another one. -/
theorem wl_copy {o : Oper} {d s : Operand} {dT sT elem E E' : TypeId} {g off dLen dCap sb so sLen sCap : Nat} {cur new src : Array Value} {fr : Nat × Nat} {cs : List Value} {z : Value} (hst : St w0 S L w) (hu : SliceT P dT elem) (he : ElemT P elem 1 z)
    (hg : o.guard = none) (ho : o.op = .call { callee := .builtin .copy, args := #[d, s], argTypes := #[dT, sT] })
    (hd : a.eval d = .slice (some ⟨g, off, none⟩) dLen dCap) (hs : a.eval s = .slice (some ⟨sb, so, none⟩) sLen sCap)
    (hsm : (sb, .cells src E' fr) ∈ L) (hn : cs.length = Nat.min sLen dLen) (hsrc : ∀ j v, cs[j]? = some v → src[so + j]? = some v) (h1 : ∀ v ∈ cs, v.oneCell' = true)
    (hat : At g (.cells cur E (0, 0)) (.cells new E (0, 0)) L L') (hfit : off + cs.length ≤ cur.size) (hnew : new = (cur.toList.take off ++ cs ++ cur.toList.drop (off + cs.length)).toArray) (hb : w0.heap.size ≤ g ∨ g ∈ S)
    (h : ∀ w', St w0 S L' w' → wpList P ops Q rest (a.put o.dst (goInt cs.length)) w') : wpList P ops Q (o :: rest) a w := by
  obtain ⟨i, hi, hsz, _⟩ := he
  have hown := hst.own _ _ hat.mem
  have hso := hst.own _ _ hsm
  have hrun := run_copy_row (P := P) w dT sT o.type elem g off dLen dCap ⟨sb, so, none⟩ sLen sCap cur E cs hu (by simp [hi, hsz]) hown hn (fun j v hv => by
    have hadd : (⟨sb, so, none⟩ : Addr).add j = ⟨sb, so + j, none⟩ := by unfold Addr.add; split <;> simp_all
    rw [hadd, cell_of_row w sb (so + j) src E' fr hso]
    exact hsrc j v hv) hfit h1
  rw [← hnew] at hrun
  refine wpList_plain hg fun K hK => ?_
  unfold Oper.wp
  have e : execOp a.eval o = builtin .copy #[dT, sT] o.type ((#[d, s] : Array Operand).map fun | .const _ => true | _ => false) ((#[d, s] : Array Operand).map a.eval) := by
    unfold execOp
    rw [ho]
    rfl
  have e2 : (#[d, s] : Array Operand).map a.eval = #[.slice (some ⟨g, off, none⟩) dLen dCap, .slice (some ⟨sb, so, none⟩) sLen sCap] := by
    simp [hd, hs]
  rw [e, e2, builtin_copy', Sem.run_bind, hrun, Result.andThen_ok, Sem.run_pure, Oper.upon_value]
  exact hK _ _ (h _ (hst.put hat hb (Keeps.setRow w g new (fun _ => by simp)) (setRow_heap w g cur new E _ hown)))

end laws

section ends
variable {P : Program} {fn : Func} {R : Ending → World → Prop} {a : Act} {w w0 : World} {S : List Nat} {L : List (Nat × Obj)}

/-- What a result's cell holds at the end. -/
def LV (P : Program) (w : World) (a : Act) (p : Tmp) (ty : TypeId) (v : Value) : Prop := ∃ ad, a.tmps.getD p undef = .pointer (some ad) ∧ (loadVar ty ad).run P w = .ok v w

theorem lv_agg {p : Tmp} {T : TypeId} {b n : Nat} {cs : Array Value} {E : TypeId} {fr : Nat × Nat} (hst : St w0 S L w) (hT : AggT P T n) (hp : a.tmps.getD p undef = .pointer (some ⟨b, 0, none⟩)) (hm : (b, .cells cs E fr) ∈ L) (hn : cs.size = n) : LV P w a p T (.agg cs) := by
  obtain ⟨d, hu, hd, hi⟩ := hT
  exact ⟨_, hp, run_loadVar_row w b E T cs fr d (hst.own _ _ hm) hu (by cases d <;> simp_all [descAgg]) (by rw [hn]; exact hi)⟩

theorem bp_0 (h : fn.results = #[]) (hd : a.defers = []) (hR : R (.returned (.tuple #[])) w) : bodyPost P fn R .normal a w := bodyPost_end (results_none h _ _ _) hd hR
theorem bp_t {p : Tmp} {v : Value} (h : fn.results = #[.tmp p]) (hd : a.defers = []) (h1 : a.tmps.getD p undef = v) (hR : R (.returned v) w) : bodyPost P fn R .ret a w :=
  bodyPost_ret (by rw [results_tmp h, h1]) hd hR
theorem bp_tt {p q : Tmp} {v u : Value} (h : fn.results = #[.tmp p, .tmp q]) (hd : a.defers = []) (h1 : a.tmps.getD p undef = v) (h2 : a.tmps.getD q undef = u) (hR : R (.returned (.tuple #[v, u])) w) : bodyPost P fn R .ret a w :=
  bodyPost_ret (by rw [results_tmp2 h, h1, h2]) hd hR
theorem bp_c {p : Tmp} {T : TypeId} {v : Value} (h : fn.results = #[.cell p T]) (hd : a.defers = []) (h1 : LV P w a p T v) (hR : R (.returned v) w) : bodyPost P fn R .ret a w := by
  obtain ⟨ad, h1, h2⟩ := h1
  refine bodyPost_ret (v := v) ?_ hd hR
  simp only [results, h]
  simp only [Array.getD_eq_getD_getElem?] at h1
  simp [Sem.run_bind, Result.andThen, h1, asAddr, h2]
theorem bp_ct {p q : Tmp} {T : TypeId} {v u : Value} (h : fn.results = #[.cell p T, .tmp q]) (hd : a.defers = []) (h1 : LV P w a p T v) (h2 : a.tmps.getD q undef = u) (hR : R (.returned (.tuple #[v, u])) w) : bodyPost P fn R .ret a w := by
  obtain ⟨ad, h1, h3⟩ := h1
  subst h2
  refine bodyPost_ret (v := .tuple #[v, a.tmps.getD q undef]) ?_ hd hR
  simp only [results, h]
  simp only [Array.getD_eq_getD_getElem?] at h1
  simp [Sem.run_bind, Result.andThen, h1, asAddr, h3]
theorem bp_ctt {p q s : Tmp} {T : TypeId} {v u x : Value} (h : fn.results = #[.cell p T, .tmp q, .tmp s]) (hd : a.defers = []) (h1 : LV P w a p T v) (h2 : a.tmps.getD q undef = u) (h4 : a.tmps.getD s undef = x) (hR : R (.returned (.tuple #[v, u, x])) w) : bodyPost P fn R .ret a w := by
  obtain ⟨ad, h1, h3⟩ := h1
  subst h2 h4
  refine bodyPost_ret (v := .tuple #[v, a.tmps.getD q undef, a.tmps.getD s undef]) ?_ hd hR
  simp only [results, h]
  simp only [Array.getD_eq_getD_getElem?] at h1
  simp [Sem.run_bind, Result.andThen, h1, asAddr, h3]
end ends

/-! ### A region that draws its order: what may come up at any time is taken first; what is left comes up in one order. -/
section regions
variable {P : Program} {ops : Array Oper} {Q : Exit → Act → World → Prop} {md : Region.Mode} {V : World → Prop} {n : Nat} {a : Act} {w w0 : World} {S : List Nat} {L : List (Nat × Obj)}

/-- Whatever order is picked from here on; till number n has come up V holds behind every operation. -/
def anyT (P : Program) (md : Region.Mode) (ops : Array Oper) (Q : Exit → Act → World → Prop) (n : Nat) (V : World → Prop) : Nat → Array Bool → Act → World → Prop
  | 0, listed, a, w => Region.ready md ops listed = [] ∧ Q .normal a w
  | fuel + 1, listed, a, w =>
    (Region.ready md ops listed = [] → Q .normal a w) ∧
    ∀ i ∈ Region.ready md ops listed, wpOp P ops Q i (fun a' w' => ((listed.setIfInBounds i true).getD n false = true ∨ V w') ∧ anyT P md ops Q n V fuel (listed.setIfInBounds i true) a' w') a w

theorem anyT_sound : ∀ (fuel : Nat) (listed : Array Bool) (a : Act) (w : World), anyT P md ops Q n V fuel listed a w → wpAny P md ops Q fuel listed a w
  | 0, _, _, _, h => h
  | fuel + 1, _, _, _, h => ⟨h.1, fun i hi => wpOp_mono (fun a' w' h' => anyT_sound fuel _ a' w' h'.2) (h.2 i hi)⟩

theorem anyT_first {i : Nat} {oi : Oper} {v : Value} (hi : ops[i]? = some oi) (hsel : ∀ (j : Nat) (o : Oper) cs b, ops[j]? = some o → o.op ≠ .select cs b)
    (hQ : ∀ c a w, Q (.panic c) (a.put oi.dst v) w → Q (.panic c) a w) (hin : i ≠ n) (hw : ∀ on, ops[n]? = some on → ∃ e ∈ on.after, Region.binds md e = true ∧ e.on = i) :
    ∀ (fuel : Nat) (listed : Array Bool) (a : Act) (w : World),
      (∀ j oj, ops[j]? = some oj → j ≠ i → listed.getD j true = false → (∀ e ∈ oj.after, Region.binds md e = true → e.on ≠ i) → oi.apart ops oj = true) →
      i ∈ Region.ready md ops listed → YieldsIf P ops V oi v a → listed.getD n false = false → V w →
      anyT P md ops Q n V fuel (listed.setIfInBounds i true) (a.put oi.dst v) w → anyT P md ops Q n V (fuel + 1) listed a w := by
  intro fuel
  induction fuel with
  | zero =>
    intro listed a w _ hr hy hn hV H
    refine ⟨fun h => (by rw [h] at hr; cases hr), fun j hj => ?_⟩
    by_cases hji : j = i
    · subst hji; exact hy.wpOp hi hV ⟨.inr hV, H⟩
    · have := ready_mono hj hji
      rw [H.1] at this
      cases this
  | succ fuel ih =>
    intro listed a w hfree hr hy hn hV H
    refine ⟨fun h => (by rw [h] at hr; cases hr), fun j hj => ?_⟩
    by_cases hji : j = i
    · subst hji; exact hy.wpOp hi hV ⟨.inr hV, H⟩
    · have h1 := H.2 j (ready_mono hj hji)
      obtain ⟨hjun, oj, hoj, hall⟩ := mem_ready.1 hj
      have hnot : ∀ e ∈ oj.after, Region.binds md e = true → e.on ≠ i := fun e he hb heq => by
        have h1 := hall e he hb
        have h0 := (mem_ready.1 hr).1
        rw [heq] at h1
        rcases Nat.lt_or_ge i listed.size with h' | h'
        · simp [h'] at h0 h1; rw [h0] at h1; cases h1
        · simp [Array.getElem?_eq_none h'] at h1
      have hjn : j ≠ n := fun e => by
        obtain ⟨e', he, hb, hon⟩ := hw oj (e ▸ hoj)
        exact hnot e' he hb hon
      have h2 := wpOp_putIf hoj (hfree j oj hoj hji hjun hnot) (fun cs b => hsel i oi cs b hi) (fun cs b => hsel j oj cs b hoj) hQ hy h1
      have hfree' : ∀ k ok, ops[k]? = some ok → k ≠ i → (listed.setIfInBounds j true).getD k true = false →
          (∀ e ∈ ok.after, Region.binds md e = true → e.on ≠ i) → oi.apart ops ok = true := fun k ok hk hki hun hno => by
        refine hfree k ok hk hki ?_ hno
        by_cases hjk : j = k
        · subst hjk; exact hjun
        · rw [getD_set_ne true hjk] at hun; exact hun
      refine wpOp_mono (fun a' w' h3 => ?_) h2
      obtain ⟨hy', hT', H'⟩ := h3
      rw [Array.setIfInBounds_comm _ _ (Ne.symm hji)] at H' hT'
      have hn' : (listed.setIfInBounds j true).getD n false = false := by rw [getD_set_ne false hjn]; exact hn
      have hV' : V w' := by
        rcases hT' with hT' | hT'
        · rw [getD_set_ne false hin, hn'] at hT'; cases hT'
        · exact hT'
      exact ⟨.inr hV', ih (listed.setIfInBounds j true) a' w' hfree' (ready_mono hr (Ne.symm hji)) hy' hn' hV' H'⟩

/-- The same for an operation that yields its value in whatever world. -/
theorem anyT_first0 {i : Nat} {oi : Oper} {v : Value} (hi : ops[i]? = some oi) (hsel : ∀ (j : Nat) (o : Oper) cs b, ops[j]? = some o → o.op ≠ .select cs b)
    (hQ : ∀ c a w, Q (.panic c) (a.put oi.dst v) w → Q (.panic c) a w) (hin : i ≠ n) :
    ∀ (fuel : Nat) (listed : Array Bool) (a : Act) (w : World),
      (∀ j oj, ops[j]? = some oj → j ≠ i → listed.getD j true = false → (∀ e ∈ oj.after, Region.binds md e = true → e.on ≠ i) → oi.apart ops oj = true) →
      i ∈ Region.ready md ops listed → YieldsIf P ops (fun _ => True) oi v a → (listed.getD n false = true ∨ V w) →
      anyT P md ops Q n V fuel (listed.setIfInBounds i true) (a.put oi.dst v) w → anyT P md ops Q n V (fuel + 1) listed a w := by
  intro fuel
  induction fuel with
  | zero =>
    intro listed a w _ hr hy hV H
    refine ⟨fun h => (by rw [h] at hr; cases hr), fun j hj => ?_⟩
    by_cases hji : j = i
    · subst hji; exact hy.wpOp hi trivial ⟨by rw [getD_set_ne false hin]; exact hV, H⟩
    · have := ready_mono hj hji
      rw [H.1] at this
      cases this
  | succ fuel ih =>
    intro listed a w hfree hr hy hV H
    refine ⟨fun h => (by rw [h] at hr; cases hr), fun j hj => ?_⟩
    by_cases hji : j = i
    · subst hji; exact hy.wpOp hi trivial ⟨by rw [getD_set_ne false hin]; exact hV, H⟩
    · have h1 := H.2 j (ready_mono hj hji)
      obtain ⟨hjun, oj, hoj, hall⟩ := mem_ready.1 hj
      have hnot : ∀ e ∈ oj.after, Region.binds md e = true → e.on ≠ i := fun e he hb heq => by
        have h1 := hall e he hb
        have h0 := (mem_ready.1 hr).1
        rw [heq] at h1
        rcases Nat.lt_or_ge i listed.size with h' | h'
        · simp [h'] at h0 h1; rw [h0] at h1; cases h1
        · simp [Array.getElem?_eq_none h'] at h1
      have h2 := wpOp_putIf hoj (hfree j oj hoj hji hjun hnot) (fun cs b => hsel i oi cs b hi) (fun cs b => hsel j oj cs b hoj) hQ hy h1
      have hfree' : ∀ k ok, ops[k]? = some ok → k ≠ i → (listed.setIfInBounds j true).getD k true = false →
          (∀ e ∈ ok.after, Region.binds md e = true → e.on ≠ i) → oi.apart ops ok = true := fun k ok hk hki hun hno => by
        refine hfree k ok hk hki ?_ hno
        by_cases hjk : j = k
        · subst hjk; exact hjun
        · rw [getD_set_ne true hjk] at hun; exact hun
      refine wpOp_mono (fun a' w' h3 => ?_) h2
      obtain ⟨hy', hT', H'⟩ := h3
      rw [Array.setIfInBounds_comm _ _ (Ne.symm hji)] at H' hT'
      rw [getD_set_ne false hin] at hT'
      exact ⟨hT', ih (listed.setIfInBounds j true) a' w' hfree' (ready_mono hr (Ne.symm hji)) hy' hT' H'⟩

theorem get_of_drop {l rs : List Oper} {i : Nat} {oi : Oper} (h : l.drop i = oi :: rs) : l.toArray[i]? = some oi := by
  have : (l.drop i)[0]? = some oi := by rw [h]; rfl
  simpa using this

/-- Number i, which leaves the world alone and asks nothing of it, is taken first. -/
theorem anyT_take0 (i : Nat) {oi : Oper} {v : Value} {fuel : Nat} {listed : Array Bool} {l rs : List Oper} (hi' : l.drop i = oi :: rs)
    (hs : (Region.noSelect l.toArray && Region.free md l.toArray listed i && (Region.ready md l.toArray listed).contains i && i != n) = true)
    (hQ : ∀ c a w, Q (.panic c) (a.put oi.dst v) w → Q (.panic c) a w) (hV : listed.getD n false = true ∨ V w) (hwt : Region.wanted oi (yielded l.toArray a.tmps) = true) (hy : ∀ w, (execOp a.eval oi).run P w = .ok (.value v) w)
    (h : anyT P md l.toArray Q n V fuel (listed.setIfInBounds i true) (a.put oi.dst v) w) : anyT P md l.toArray Q n V (fuel + 1) listed a w := by
  have hi := get_of_drop hi'
  simp only [Bool.and_eq_true, bne_iff_ne] at hs
  obtain ⟨⟨⟨h1, h2⟩, h3⟩, h4⟩ := hs
  exact anyT_first0 hi (Region.noSelect_spec h1) hQ h4 fuel listed a w (Region.free_spec hi h2) (by simpa using h3) (.inl ⟨hwt, fun w _ => hy w⟩) hV h

/-- Is it that number n, if it is one of the region's, waits for i? -/
def waitsB (md : Region.Mode) (ops : Array Oper) (n i : Nat) : Bool :=
  i != n && match ops[n]? with
  | none => true
  | some o => o.after.any fun e => Region.binds md e && e.on == i

theorem waitsB_spec {i : Nat} (h : waitsB md ops n i = true) : i ≠ n ∧ ∀ on, ops[n]? = some on → ∃ e ∈ on.after, Region.binds md e = true ∧ e.on = i := by
  simp only [waitsB, Bool.and_eq_true, bne_iff_ne] at h
  refine ⟨h.1, fun on ho => ?_⟩
  have h2 := h.2
  simp only [ho] at h2
  obtain ⟨e, he, hb⟩ := Array.any_eq_true'.1 h2
  simp only [Bool.and_eq_true, beq_iff_eq] at hb
  exact ⟨e, he, hb.1, hb.2⟩

/-- Number i is taken first. -/
theorem anyT_take (i : Nat) {oi : Oper} {v : Value} {fuel : Nat} {listed : Array Bool} {l rs : List Oper} (hi' : l.drop i = oi :: rs)
    (hs : (Region.noSelect l.toArray && Region.free md l.toArray listed i && (Region.ready md l.toArray listed).contains i && waitsB md l.toArray n i && !listed.getD n false) = true)
    (hQ : ∀ c a w, Q (.panic c) (a.put oi.dst v) w → Q (.panic c) a w) (hV : V w) (hwt : Region.wanted oi (yielded l.toArray a.tmps) = true) (hy : ∀ w, V w → (execOp a.eval oi).run P w = .ok (.value v) w)
    (h : anyT P md l.toArray Q n V fuel (listed.setIfInBounds i true) (a.put oi.dst v) w) : anyT P md l.toArray Q n V (fuel + 1) listed a w := by
  have hi := get_of_drop hi'
  simp only [Bool.and_eq_true, Bool.not_eq_true'] at hs
  obtain ⟨⟨⟨⟨h1, h2⟩, h3⟩, h4⟩, h5⟩ := hs
  exact anyT_first hi (Region.noSelect_spec h1) hQ (waitsB_spec h4).1 (waitsB_spec h4).2 fuel listed a w (Region.free_spec hi h2) (by simpa using h3) (.inl ⟨hwt, hy⟩) h5 hV h

theorem wpOp_of_list {i : Nat} {oi : Oper} {l : List Oper} {T : Act → World → Prop} (hi : l.toArray[i]? = some oi) (h : wpList P l.toArray (Exit.then T Q) [oi] a w) : wpOp P l.toArray Q i T a w := by
  unfold wpOp
  simp only [hi]
  unfold wpList at h
  split
  · rename_i hw
    rw [if_pos hw] at h
    rcases h with h | h
    · left
      unfold Oper.wp at h ⊢
      generalize (execOp a.eval oi).run P w = r at *
      cases r with
      | ok nx w' =>
        cases nx <;> simp only [Oper.upon] at h ⊢
        case value u => exact h
        case skip => exact h
        case defer d => exact h
        case enter f args =>
          refine Calls.mono h fun e w'' he => ?_
          cases e with
          | returned u => exact he
          | panicked c => exact he
          | outgrown => obtain ⟨a0, w1, hq⟩ := he; exact ⟨a0, w1, hq⟩
        case row row args => exact Rows.mono h fun u w'' he => he
      | halt x w' =>
        cases x <;> simp only [Oper.upon] at h ⊢
        case panic u => exact h
    · right
      obtain ⟨h1, a0, w1, hq⟩ := h
      exact ⟨h1, a0, w1, hq⟩
  · rename_i hw
    rw [if_neg hw] at h
    exact h

theorem anyT_done {fuel : Nat} {listed : Array Bool} (hr : Region.ready md ops listed = []) (h : Q .normal a w) : anyT P md ops Q n V fuel listed a w := by
  cases fuel with
  | zero => exact ⟨hr, h⟩
  | succ => exact ⟨fun _ => h, by rw [hr]; simp⟩

/-- Only number i may come up: it is walked as a list of one. -/
theorem anyT_one (i : Nat) {oi : Oper} {fuel : Nat} {listed : Array Bool} {l rs : List Oper} (hi' : l.drop i = oi :: rs) (hr : Region.ready md l.toArray listed = [i])
    (h : wpList P l.toArray (Exit.then (fun a' w' => ((listed.setIfInBounds i true).getD n false = true ∨ V w') ∧ anyT P md l.toArray Q n V fuel (listed.setIfInBounds i true) a' w') Q) [oi] a w) : anyT P md l.toArray Q n V (fuel + 1) listed a w := by
  refine ⟨fun h0 => absurd (hr ▸ h0) (by simp), fun j hj => ?_⟩
  rw [hr] at hj
  have : j = i := by simpa using hj
  subst this
  exact wpOp_of_list (get_of_drop hi') h

/-- The beginning: V is what is owned; n: the first store. -/
theorem wp_region_T {id : Nat} {l : List Oper} (n : Nat) (hst : St w0 S L w) (hm : P.follows .mixedOrders = true)
    (h : ∀ w', St w0 S L w' → anyT P .any l.toArray Q n (St w0 S L) l.length (Array.replicate l.length false) a w') : (Code.region id l.toArray true).wp P Q a w := by
  exact wp_region_any hm (anyT_sound (n := n) (V := St w0 S L) _ _ _ _ (h w.drew (hst.keep (Keeps.drew w))))

theorem wp_region_TV {id : Nat} {l : List Oper} (n : Nat) (L0 : List (Nat × Obj)) (hst : St w0 S L w) (hm : P.follows .mixedOrders = true)
    (h : ∀ w', St w0 S L w' → anyT P .any l.toArray Q n (St w0 S L0) l.length (Array.replicate l.length false) a w') : (Code.region id l.toArray true).wp P Q a w := by
  exact wp_region_any hm (anyT_sound (n := n) (V := St w0 S L0) _ _ _ _ (h w.drew (hst.keep (Keeps.drew w))))
end regions

/-- Cells that each are one. -/
structure OneC (cs : Array Value) : Prop where
  h : cs.all (·.oneCell') = true

/-! ### The same laws in short: what a law asks beside the walk's own state is paid by a tactic that stands in its statement. -/
section short
variable {P : Program} {ops : Array Oper} {rest : List Oper} {Q : Exit → Act → World → Prop} {a : Act} {w w0 : World} {S : List Nat} {L L' : List (Nat × Obj)}

theorem cells_get {l : List Value} {i : Nat} {v : Value} (h : l[i]? = some v) : l.toArray[i]? = some v := by simpa using h
theorem pre_get {A B : Array Value} {i : Nat} {v : Value} (h : A[i]? = some v) : (A ++ B)[i]? = some v := by
  rw [Array.getElem?_append_left ((Array.getElem?_eq_some_iff.1 h).1)]; exact h
theorem pz (l : List Value) (d : List Deferred) (s : Tmp) (v : Value) : Act.put ⟨l.toArray, d⟩ (some s) v = ⟨(l.set s v).toArray, d⟩ := by simp [Act.put]
theorem pn (b : Act) (v : Value) : Act.put b none v = b := rfl
theorem sz (v u : Value) (l : List Value) : (u :: l).set 0 v = v :: l := rfl
theorem sc (v u : Value) (l : List Value) (n : Nat) : (u :: l).set (n + 1) v = u :: l.set n v := rfl

theorem ka (s : Nat) {o : Oper} {T : TypeId} {cs : Array Value} (hst : St w0 S L w) (hz : ZeroT P T cs)
    (hd : o.dst = some s) (ho : o.op = .alloc T) (h : ∀ b w', w0.heap.size ≤ b → St w0 S ((b, .cells cs T) :: L) w' → wpList P ops Q rest (a.put o.dst (.pointer (some ⟨b, 0, none⟩))) w') (hg : o.guard = none := by rfl) : wpList P ops Q (o :: rest) a w :=
  wl_alloc hst hz hg ho h

theorem kb (s : Nat) {o : Oper} {T : TypeId} {x : Operand} {v : Value} {cs : Array Value} (hst : St w0 S L w)
    (hd : o.dst = some s) (ho : o.op = .box T x) (h : ∀ b w', w0.heap.size ≤ b → St w0 S ((b, .cells cs T) :: L) w' → wpList P ops Q rest (a.put o.dst (.pointer (some ⟨b, 0, none⟩))) w')
    (hv : a.eval x = v := by (simp only [eval_lit, eval_k, eval_f, eval_g, List.getD_cons_succ, List.getD_cons_zero]) <;> rfl)
    (hc : v.cells = cs := by first | exact Wd_cells _ | exact W_cells _ | exact cells_int _ _ | exact cells_agg _ | exact cells_bool _ | exact cells_string _ | exact cells_pointer _ | exact cells_slice _ _ _ | exact cells_func _ _ _) (hg : o.guard = none := by rfl) : wpList P ops Q (o :: rest) a w :=
  wl_box hst hg ho hv hc h

theorem kl {o : Oper} {T : TypeId} {x : Operand} {n b : Nat} {cs : Array Value} {E : TypeId} {fr : Nat × Nat} (hst : St w0 S L w) (hT : AggT P T n) (ho : o.op = .load T x) (h : wpList P ops Q rest (a.put o.dst (.agg cs)) w)
    (hx : a.eval x = .pointer (some ⟨b, 0, none⟩) := by rfl) (hm : (b, .cells cs E fr) ∈ L := by repeat (first | exact List.Mem.head _ | refine List.Mem.tail _ ?_)) (hn : cs.size = n := by first | rfl | exact wc_size _ _ | assumption | (simp <;> fail)) (hg : o.guard = none := by rfl) :
    wpList P ops Q (o :: rest) a w := wl_loadAgg hst hT hg ho hx hm hn h

theorem kc {o : Oper} {T : TypeId} {x : Operand} {b i : Nat} {cs : Array Value} {E : TypeId} {fr : Nat × Nat} {v : Value} (hst : St w0 S L w) (hT : CellT P T) (ho : o.op = .load T x) (h : wpList P ops Q rest (a.put o.dst v) w)
    (hx : a.eval x = .pointer (some ⟨b, i, none⟩) := by rfl) (hm : (b, .cells cs E fr) ∈ L := by repeat (first | exact List.Mem.head _ | refine List.Mem.tail _ ?_)) (hv : cs[i]? = some v := by first | exact cells_get (by rfl) | exact pre_get (cells_get (by rfl)) | exact wc_get _ _ _ (by omega) | exact wdc_1 _ | exact wdc_0 _ | assumption | rfl) (hg : o.guard = none := by rfl) :
    wpList P ops Q (o :: rest) a w := wl_loadCell hst hT hg ho hx hm hv h

theorem ks {o : Oper} {T : TypeId} {x y : Operand} {b i : Nat} {v : Value} {cs : Array Value} {E : TypeId} (hst : St w0 S L w) (hT : CellT P T) (hd : o.dst = none) (ho : o.op = .store T x y) (h : ∀ w', St w0 S L' w' → wpList P ops Q rest a w')
    (hx : a.eval x = .pointer (some ⟨b, i, none⟩) := by rfl) (hy : a.eval y = v := by (simp only [eval_lit, eval_k, eval_f, eval_g, List.getD_cons_succ, List.getD_cons_zero]) <;> rfl) (h1 : v.oneCell' = true := by rfl)
    (hat : At b (.cells cs E (0, 0)) (.cells (cs.setIfInBounds i v) E (0, 0)) L L' := by repeat (first | exact At.head _ | apply At.tail)) (hlt : i < cs.size := by first | (simp <;> fail) | (simp; omega) | omega)
    (hb : w0.heap.size ≤ b ∨ b ∈ S := by first | exact Or.inl (by assumption) | (refine Or.inr ?_; simp)) (hg : o.guard = none := by rfl) : wpList P ops Q (o :: rest) a w :=
  wl_storeCell hst hT hg ho hd hx hy h1 hat hlt hb h

theorem kt {o : Oper} {T : TypeId} {x y : Operand} {n b : Nat} {cells cs : Array Value} {E : TypeId} (hst : St w0 S L w) (hT : AggT P T n) (hd : o.dst = none) (ho : o.op = .store T x y) (h : ∀ w', St w0 S L' w' → wpList P ops Q rest a w')
    (hx : a.eval x = .pointer (some ⟨b, 0, none⟩) := by rfl) (hy : a.eval y = .agg cells := by rfl) (h1 : cells.all (·.oneCell') = true := by first | rfl | exact wc_one _ _ | exact wdc_one _ | exact OneC.h (by assumption) | kernel_rfl) (hi : cells.size = n := by first | rfl | exact wc_size _ _ | assumption | (simp <;> fail))
    (hat : At b (.cells cs E (0, 0)) (.cells cells E (0, 0)) L L' := by repeat (first | exact At.head _ | apply At.tail)) (hsz : cs.size = n := by first | rfl | exact wc_size _ _ | assumption | (simp <;> fail))
    (hb : w0.heap.size ≤ b ∨ b ∈ S := by first | exact Or.inl (by assumption) | (refine Or.inr ?_; simp)) (hg : o.guard = none := by rfl) : wpList P ops Q (o :: rest) a w :=
  wl_storeAgg hst hT hg ho hd hx hy h1 hi hat hsz hb h

theorem ki {o : Oper} {T e : TypeId} {x y : Operand} {n j : Nat} {k : IntKind} {cs : Array Value} {v : Value} (hT : ArrT P T n e) (he : CellT P e) (ho : o.op = .index T x y) (h : wpList P ops Q rest (a.put o.dst v) w)
    (hx : a.eval x = .agg cs := by rfl) (hy : a.eval y = .int k (j : Int) := by rfl) (hj : j < n := by omega) (hv : cs[j]? = some v := by first | exact wc_get _ _ _ (by omega) | assumption) (hg : o.guard = none := by rfl) :
    wpList P ops Q (o :: rest) a w := wl_index hT he hg ho hx hy hj hv h

theorem kp {o : Oper} {v : Value} (h : wpList P ops Q rest (a.put o.dst v) w) (hg : o.guard = none := by rfl) (hrun : ∀ w, (execOp a.eval o).run P w = .ok (.value v) w := by intro _; first | rfl | (go_simp; done) | (go_simp; rfl)) : wpList P ops Q (o :: rest) a w :=
  wl_pure hg hrun h

theorem kf {o : Oper} {c : Call} {x : Operand} {f : FuncId} {cap : Array Value} {args : List Value} {v : Value} (hf : GoF P f) (hst : St w0 S L w) (hc : Gives P f args.toArray v) (ho : o.op = .call c) (hcal : c.callee = .value x) (hx : a.eval x = .func (.func f) #[] cap) (hargs : c.args.toList.map a.eval ++ cap.toList = args) (h : ∀ w', St w0 S L w' → wpList P ops Q rest (a.put o.dst v) w')
    (hg : o.guard = none := by rfl) : wpList P ops Q (o :: rest) a w :=
  wl_call hf hst hc hg ho hcal hx hargs h
theorem kg {o : Oper} {c : Call} {x : Operand} {f : FuncId} {cap : Array Value} {args : List Value} {v : Value} (hf : GoF P f) (hst : St w0 S L w) (hc : ∀ w, St w0 S L w → GivesAt P f args.toArray v w) (ho : o.op = .call c) (hcal : c.callee = .value x) (hx : a.eval x = .func (.func f) #[] cap) (hargs : c.args.toList.map a.eval ++ cap.toList = args) (h : ∀ w', St w0 S L w' → wpList P ops Q rest (a.put o.dst v) w')
    (hg : o.guard = none := by rfl) : wpList P ops Q (o :: rest) a w :=
  wl_callAt hf hst hc hg ho hcal hx hargs h
theorem kx {o : Oper} {c : Call} {x : Operand} {f : FuncId} {cap : Array Value} {args : List Value} {v : Value} (hc : (callFunc f args.toArray).run P w = .ok (.value v) w) (ho : o.op = .call c) (hcal : c.callee = .value x) (hx : a.eval x = .func (.func f) #[] cap) (hargs : c.args.toList.map a.eval ++ cap.toList = args) (h : wpList P ops Q rest (a.put o.dst v) w)
    (hg : o.guard = none := by rfl) : wpList P ops Q (o :: rest) a w :=
  wl_callX hc hg ho hcal hx hargs h
theorem la {p : Tmp} {T : TypeId} {b n : Nat} {cs : Array Value} {E : TypeId} {fr : Nat × Nat} (hst : St w0 S L w) (hT : AggT P T n) (hp : a.tmps.getD p undef = .pointer (some ⟨b, 0, none⟩) := by rfl)
    (hm : (b, .cells cs E fr) ∈ L := by repeat (first | exact List.Mem.head _ | refine List.Mem.tail _ ?_)) (hn : cs.size = n := by first | rfl | exact wc_size _ _ | assumption | (simp <;> fail)) : LV P w a p T (.agg cs) := lv_agg hst hT hp hm hn
end short

section shortRegions
variable {P : Program} {Q : Exit → Act → World → Prop} {md : Region.Mode} {V : World → Prop} {n : Nat} {a : Act} {w w0 : World} {S : List Nat} {L : List (Nat × Obj)} {fuel : Nat} {listed : Array Bool} {l rs : List Oper} {oi : Oper} {v : Value}

/-- Number i is taken first; it asks nothing of the world. -/
theorem r0 (i : Nat) (h : anyT P md l.toArray Q n V fuel (listed.setIfInBounds i true) (a.put oi.dst v) w) (hi' : l.drop i = oi :: rs := by rfl)
    (hs : (Region.noSelect l.toArray && Region.free md l.toArray listed i && (Region.ready md l.toArray listed).contains i && i != n) = true := by kernel_rfl)
    (hV : listed.getD n false = true ∨ V w := by first | exact .inl (by decide) | exact .inr (by first | assumption | exact St.sub ‹_› (by repeat (first | exact List.Sublist.refl _ | exact List.nil_sublist _ | refine List.Sublist.cons_cons _ ?_ | refine List.Sublist.cons _ ?_))))
    (hQ : ∀ c a w, Q (.panic c) (a.put oi.dst v) w → Q (.panic c) a w := by exact fun _ _ _ h => h) (hwt : Region.wanted oi (yielded l.toArray a.tmps) = true := by rfl)
    (hy : ∀ w, (execOp a.eval oi).run P w = .ok (.value v) w := by intro _; go_simp <;> rfl) : anyT P md l.toArray Q n V (fuel + 1) listed a w :=
  anyT_take0 i hi' hs hQ hV hwt hy h
/-- Number i, a load, is taken first. -/
theorem rl (i : Nat) (hi' : l.drop i = oi :: rs) (h : anyT P md l.toArray Q n V fuel (listed.setIfInBounds i true) (a.put oi.dst v) w) (hy : ∀ w, V w → (execOp a.eval oi).run P w = .ok (.value v) w)
    (hs : (Region.noSelect l.toArray && Region.free md l.toArray listed i && (Region.ready md l.toArray listed).contains i && waitsB md l.toArray n i && !listed.getD n false) = true := by kernel_rfl)
    (hV : V w := by first | assumption | exact St.sub ‹_› (by repeat (first | exact List.Sublist.refl _ | exact List.nil_sublist _ | refine List.Sublist.cons_cons _ ?_ | refine List.Sublist.cons _ ?_)))
    (hQ : ∀ c a w, Q (.panic c) (a.put oi.dst v) w → Q (.panic c) a w := by exact fun _ _ _ h => h) (hwt : Region.wanted oi (yielded l.toArray a.tmps) = true := by rfl) : anyT P md l.toArray Q n V (fuel + 1) listed a w :=
  anyT_take i hi' hs hQ hV hwt hy h
/-- Only number i may come up. -/
theorem r1 (i : Nat) (h : wpList P l.toArray (Exit.then (fun a' w' => ((listed.setIfInBounds i true).getD n false = true ∨ V w') ∧ anyT P md l.toArray Q n V fuel (listed.setIfInBounds i true) a' w') Q) [oi] a w)
    (hi' : l.drop i = oi :: rs := by rfl) (hr : Region.ready md l.toArray listed = [i] := by kernel_rfl) : anyT P md l.toArray Q n V (fuel + 1) listed a w := anyT_one i hi' hr h
/-- Number i or number j may come up. -/
theorem r2 (i j : Nat) {oj : Oper} {rs' : List Oper} (h : wpList P l.toArray (Exit.then (fun a' w' => ((listed.setIfInBounds i true).getD n false = true ∨ V w') ∧ anyT P md l.toArray Q n V fuel (listed.setIfInBounds i true) a' w') Q) [oi] a w)
    (h' : wpList P l.toArray (Exit.then (fun a' w' => ((listed.setIfInBounds j true).getD n false = true ∨ V w') ∧ anyT P md l.toArray Q n V fuel (listed.setIfInBounds j true) a' w') Q) [oj] a w)
    (hi' : l.drop i = oi :: rs := by rfl) (hj' : l.drop j = oj :: rs' := by rfl) (hr : Region.ready md l.toArray listed = [i, j] := by kernel_rfl) : anyT P md l.toArray Q n V (fuel + 1) listed a w := by
  refine ⟨fun h0 => absurd (hr ▸ h0) (by simp), fun k hk => ?_⟩
  rw [hr] at hk
  simp only [List.mem_cons, List.not_mem_nil, or_false] at hk
  rcases hk with rfl | rfl
  · exact wpOp_of_list (get_of_drop hi') h
  · exact wpOp_of_list (get_of_drop hj') h'
/-- What came up is done. -/
theorem re {ops : Array Oper} {T : Act → World → Prop} {B : Prop} (h : T a w) (hV : B ∨ V w := by first | exact .inl (by decide) | exact .inr (by first | assumption | exact St.sub ‹_› (by repeat (first | exact List.Sublist.refl _ | exact List.nil_sublist _ | refine List.Sublist.cons_cons _ ?_ | refine List.Sublist.cons _ ?_)))) :
    wpList P ops (Exit.then (fun a' w' => (B ∨ V w') ∧ T a' w') Q) [] a w := wpList_nil (show _ ∧ _ from ⟨hV, h⟩)
theorem rd_ {ops : Array Oper} (h : Q .normal a w) (hr : Region.ready md ops listed = [] := by kernel_rfl) : anyT P md ops Q n V fuel listed a w := anyT_done hr h
theorem ylA {T : TypeId} {x : Operand} {m b : Nat} {cs : Array Value} {E : TypeId} {fr : Nat × Nat} {ty : TypeId} {pos : String} {af : Array Edge} {dst : Option Tmp} {g : Option (Nat × Bool)} (hT : AggT P T m)
    (hx : a.eval x = .pointer (some ⟨b, 0, none⟩) := by rfl) (hm : (b, .cells cs E fr) ∈ L := by repeat (first | exact List.Mem.head _ | refine List.Mem.tail _ ?_)) (hn : cs.size = m := by first | rfl | exact wc_size _ _ | assumption | (simp <;> fail)) :
    ∀ w, St w0 S L w → (execOp a.eval ⟨dst, .load T x, ty, pos, af, g⟩).run P w = .ok (.value (.agg cs)) w := fun _ hw => run_opLoadAgg hw hT rfl hx hm hn
theorem ylC {T : TypeId} {x : Operand} {b i : Nat} {cs : Array Value} {E : TypeId} {fr : Nat × Nat} {u : Value} {ty : TypeId} {pos : String} {af : Array Edge} {dst : Option Tmp} {g : Option (Nat × Bool)} (hT : CellT P T)
    (hx : a.eval x = .pointer (some ⟨b, i, none⟩) := by rfl) (hm : (b, .cells cs E fr) ∈ L := by repeat (first | exact List.Mem.head _ | refine List.Mem.tail _ ?_)) (hv : cs[i]? = some u := by first | exact cells_get (by rfl) | exact pre_get (cells_get (by rfl)) | exact wc_get _ _ _ (by omega) | exact wdc_1 _ | exact wdc_0 _ | assumption | rfl) :
    ∀ w, St w0 S L w → (execOp a.eval ⟨dst, .load T x, ty, pos, af, g⟩).run P w = .ok (.value u) w := fun _ hw => run_opLoadCell hw hT rfl hx hm hv
end shortRegions

#print axioms St.put
#print axioms wl_storeCell
end Go.Proofs.YtoakmlopjeecoaaGreatDoor.Rd
