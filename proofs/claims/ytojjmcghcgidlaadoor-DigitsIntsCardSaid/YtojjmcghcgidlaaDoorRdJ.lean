/- Slices that grow by append: what a walk knows of one; the law of append. -/
import Derived.Test.YtojjmcghcgidlaaDoorRdE
import Derived.Laws.AppendOwn
namespace Go.Proofs.YtojjmcghcgidlaaDoor.Rd
open Go Go.RowKit
set_option linter.unusedVariables false
set_option linter.unusedSimpArgs false

/-- Lg is what the slice v of n elements, that has grown by appends since w0, owns: nothing, or one block whose first cells are xs. -/
def GRow (w0 : World) (Lg : List (Nat × Obj)) (e : TypeId) (sz : Nat) (v : Value) (n : Nat) (xs : List Value) : Prop :=
  xs.length = n * sz ∧ ((Lg = [] ∧ v = .slice none 0 0 ∧ n = 0) ∨
  ∃ g cap cur, Lg = [(g, .cells cur e (0, 0))] ∧ v = .slice (some ⟨g, 0, none⟩) n cap ∧ w0.heap.size ≤ g ∧ n ≤ cap ∧ cap ≤ maxLen ∧ cur.size = cap * sz ∧ cur.toList.take (n * sz) = xs)

theorem GRow.nil (w0 : World) (e : TypeId) (sz : Nat) : GRow w0 [] e sz (.slice none 0 0) 0 [] := ⟨by simp, .inl ⟨rfl, rfl, rfl⟩⟩

/-- L is pre, and behind it Lg. -/
inductive Tl (Lg : List (Nat × Obj)) : List (Nat × Obj) → List (Nat × Obj) → Prop
  | here : Tl Lg Lg []
  | there (x) (L pre) : Tl Lg L pre → Tl Lg (x :: L) (x :: pre)
theorem Tl.eq {Lg L pre : List (Nat × Obj)} (h : Tl Lg L pre) : L = pre ++ Lg := by
  induction h with
  | here => rfl
  | there x L pre h ih => rw [ih]; rfl

theorem At.snoc (pre : List (Nat × Obj)) (b : Nat) (o o' : Obj) : At b o o' (pre ++ [(b, o)]) (pre ++ [(b, o')]) := by
  induction pre with
  | nil => exact At.head _
  | cons x pre ih => exact At.tail _ _ _ ih

/-- The bytes of an element. -/
def BytesT (P : Program) (e : TypeId) (b : Nat) : Prop := (P.info? e).map (·.bytes) = some b

theorem add_lit' (g o j : Nat) : (⟨g, o, none⟩ : Addr).add j = ⟨g, o + j, none⟩ := by unfold Addr.add; split <;> simp_all

theorem builtin_append' (ats : Array TypeId) (ty : TypeId) (cs : Array Bool) (args : Array Value) : builtin .append ats ty cs args = (do pure (.value (← Builtin.append_ ats ty args))) := rfl

section
variable {P : Program} {ops : Array Oper} {rest : List Oper} {Q : Exit → Act → World → Prop} {a : Act} {w w0 : World} {S : List Nat} {L pre Lg : List (Nat × Obj)}

theorem run_app {t ty e : TypeId} {z v : Value} {sz n m c bytes : Nat} {xs news : List Value} {sb so : Nat} (hst : St w0 S (pre ++ Lg) w) (hg : GRow w0 Lg e sz v n xs) (hT : SliceT P t e) (he : ElemT P e sz z) (hz1 : z.cells.size = sz) (hsz : 0 < sz) (hby : BytesT P e bytes)
    (hm : news.length = m * sz) (hnews : ∀ j u, news[j]? = some u → w.cell? ⟨sb, so + j, none⟩ = some u) (h1 : ∀ u ∈ news, u.oneCell' = true)
    (hroom : (n + m) * bytes ≤ 140737488355328) (hroom' : n + m ≤ 1000000000000) :
    ∃ v' Lg' w', (Builtin.append_ #[t, t] ty #[v, .slice (some ⟨sb, so, none⟩) m c]).run P w = .ok v' w' ∧ GRow w0 Lg' e sz v' (n + m) (xs ++ news) ∧ St w0 S (pre ++ Lg') w' := by
  obtain ⟨i, hi, hisz, hz⟩ := he
  subst hisz
  have hby' : i.bytes = bytes := by simpa [BytesT, hi] using hby
  subst hby'
  obtain ⟨hlen, hg⟩ := hg
  have hlen2 : (xs ++ news).length = (n + m) * i.size := by rw [List.length_append, hlen, hm, Nat.add_mul]
  have hsrc : ∀ j u, news[j]? = some u → w.cell? ((⟨sb, so, none⟩ : Addr).add j) = some u := fun j u hv => by rw [add_lit']; exact hnews j u hv
  have hnd := hst.nodup
  rw [List.map_append] at hnd
  have hstpre : St w0 S pre w := hst.sub (List.sublist_append_left _ _)
  -- a new block takes what was and what comes
  have fresh : ∀ (cap : Nat) (cur : Array Value), n + m ≤ cap → cap ≤ maxLen → cur.size = cap * i.size → cur.toList.take ((n + m) * i.size) = xs ++ news →
      GRow w0 [(w.heap.size, .cells cur e (0, 0))] e i.size (.slice (some ⟨w.heap.size, 0, none⟩) (n + m) cap) (n + m) (xs ++ news) ∧ St w0 S (pre ++ [(w.heap.size, .cells cur e (0, 0))]) (w.drew.alloc (.cells cur e)) := by
    intro cap cur h1 h2 h3 h4
    refine ⟨⟨hlen2, .inr ⟨w.heap.size, cap, cur, rfl, rfl, hst.keeps.size, h1, h2, h3, h4⟩⟩, ?_⟩
    have h5 := (hstpre.keep (Keeps.drew w)).alloc (.cells cur e (0, 0))
    refine ⟨h5.keeps, fun b o hmem => ?_, ?_⟩
    · rcases List.mem_append.1 hmem with h | h
      · exact h5.own b o (List.mem_cons_of_mem _ h)
      · exact h5.own b o (by simp only [List.mem_singleton] at h; rw [h]; simp)
    · have := h5.nodup
      simp only [List.map_cons, List.nodup_cons] at this
      rw [List.map_append]
      refine List.nodup_append.2 ⟨hstpre.nodup, by simp, ?_⟩
      intro b hb b' hb' e
      simp only [List.map_cons, List.map_nil, List.mem_singleton] at hb'
      subst hb'
      exact this.1 (e ▸ hb)
  have hcapm : ∀ old, grownCap w (n + m) old e ≤ maxLen := fun old => grownCap_le_maxLen w (n + m) old e (by simp only [maxLen]; omega)
  rcases hg with ⟨rfl, rfl, rfl⟩ | ⟨g, cap, cur, rfl, rfl, hge, hle, hcap, hcs, htk⟩
  · have hx : xs = [] := List.eq_nil_of_length_eq_zero (by simpa using hlen)
    subst hx
    by_cases hm0 : m = 0
    · subst hm0
      have hn : news = [] := List.eq_nil_of_length_eq_zero (by simpa using hm)
      subst hn
      refine ⟨.slice none 0 0, [], w, ?_, GRow.nil _ _ _, hst⟩
      simp [Builtin.append_, run_underlying (show P.underlying t = some (.slice e) from hT), sizeOf, typeInfo, hi, Builtin.lenOf, Builtin.firstCells, loadCells, loadCellsFrom]
    · have hr := run_append_nil (P := P) w t ty e i z hT hi hz ⟨sb, so, none⟩ m c news hm hsrc (by omega) (by omega) (by have hb := hroom; simp only [Nat.zero_add] at hb; omega)
      have hge := grownCap_ge w m 0 e
      have h := fresh (grownCap w m 0 e) (news.toArray ++ Builtin.zeroCells z.cells (grownCap w m 0 e - m)) (by simpa using hge) (by simpa using hcapm 0) (by
          simp only [Array.size_append, List.size_toArray, size_zeroCells, hz1, hm, ← Nat.add_mul]; congr 1; omega) (by
          simp only [Array.toList_append, Nat.zero_add, List.nil_append]; rw [← hm]; exact List.take_left)
      simp only [Nat.zero_add, List.nil_append] at h ⊢
      exact ⟨_, _, _, hr, h.1, h.2⟩
  · have hheap : w.heap[g]? = some (.cells cur e (0, 0)) := hst.own _ _ (by simp)
    by_cases hfits : n + m ≤ cap
    · have hfit : n * i.size + news.length ≤ cur.size := by rw [hm, hcs, ← Nat.add_mul]; exact Nat.mul_le_mul_right _ hfits
      have hr := run_append_room (P := P) w t ty e i hT hi g n cap cur hheap ⟨sb, so, none⟩ m c news hm hsrc h1 hfits hfit
      have hat := At.snoc pre g (.cells cur e (0, 0)) (.cells (cur.toList.take (n * i.size) ++ news ++ cur.toList.drop (n * i.size + news.length)).toArray e (0, 0))
      refine ⟨_, _, _, hr, ⟨hlen2, .inr ⟨g, cap, _, rfl, rfl, hge, hfits, hcap, ?_, ?_⟩⟩, hst.put hat (.inl hge) (Keeps.setRow w g _ (fun _ => by simp)) (setRow_heap w g cur _ e _ hheap)⟩
      · simp only [List.size_toArray, List.length_append, List.length_take, List.length_drop, Array.length_toList]
        omega
      · rw [htk, ← hlen2]
        exact List.take_left
    · have holds : ∀ j u, xs[j]? = some u → w.cell? ((⟨g, 0, none⟩ : Addr).add j) = some u := fun j u hv => by
        rw [add_lit', Nat.zero_add, cell_of_row w g j cur e _ hheap]
        rw [← htk, List.getElem?_take] at hv
        split at hv
        · simpa using hv
        · cases hv
      have hr := run_append_grow (P := P) w t ty e i z hT hi hz ⟨g, 0, none⟩ n cap xs hlen holds ⟨sb, so, none⟩ m c news hm hsrc (by omega) (by omega) (growslice_fits (by omega) hroom)
      have hge2 := grownCap_ge w (n + m) cap e
      have h := fresh (grownCap w (n + m) cap e) (xs.toArray ++ news.toArray ++ Builtin.zeroCells z.cells (grownCap w (n + m) cap e - (n + m))) hge2 (hcapm cap) (by
          simp only [Array.size_append, List.size_toArray, size_zeroCells, hz1, hm, hlen, ← Nat.add_mul]; congr 1; omega) (by
          simp only [Array.toList_append, List.append_assoc]; rw [← List.append_assoc, ← hlen2]; exact List.take_left)
      exact ⟨_, _, _, hr, h.1, h.2⟩

/-- append of some cells that lie in a block of ours. -/
theorem wl_append {o : Oper} {s x : Operand} {t e E' : TypeId} {z v : Value} {sz n : Nat} {xs : List Value} {sb so m c bytes : Nat} {src : Array Value} {fr : Nat × Nat} (news : List Value) (hg : GRow w0 Lg e sz v n xs) (hst : St w0 S L w) (hT : SliceT P t e) (he : ElemT P e sz z) (hby : BytesT P e bytes)
    (hgd : o.guard = none) (ho : o.op = .call { callee := .builtin .append, args := #[s, x], argTypes := #[t, t] }) (hs : a.eval s = v) (hx : a.eval x = .slice (some ⟨sb, so, none⟩) m c)
    (htl : Tl Lg L pre) (hsm : (sb, .cells src E' fr) ∈ L) (hm : news.length = m * sz) (hnews : ∀ j u, news[j]? = some u → src[so + j]? = some u) (h1 : ∀ u ∈ news, u.oneCell' = true)
    (hz1 : z.cells.size = sz) (hsz : 0 < sz) (hroom : (n + m) * bytes ≤ 140737488355328) (hroom' : n + m ≤ 1000000000000)
    (h : ∀ v' Lg' w', GRow w0 Lg' e sz v' (n + m) (xs ++ news) → St w0 S (pre ++ Lg') w' → wpList P ops Q rest (a.put o.dst v') w') : wpList P ops Q (o :: rest) a w := by
  have hso := hst.own _ _ hsm
  have hL := htl.eq
  subst hL
  obtain ⟨v', Lg', w', hrun, hgr, hst'⟩ := run_app (ty := o.type) (c := c) hst hg hT he hz1 hsz hby hm (fun j u hv => by rw [cell_of_row w sb (so + j) src E' fr hso]; exact hnews j u hv) h1 hroom hroom'
  refine wpList_plain hgd fun K hK => ?_
  unfold Oper.wp
  have e : execOp a.eval o = builtin .append #[t, t] o.type ((#[s, x] : Array Operand).map fun | .const _ => true | _ => false) ((#[s, x] : Array Operand).map a.eval) := by
    unfold execOp
    rw [ho]
    rfl
  have e2 : (#[s, x] : Array Operand).map a.eval = #[v, .slice (some ⟨sb, so, none⟩) m c] := by simp [hs, hx]
  rw [e, e2, builtin_append', Sem.run_bind, hrun, Result.andThen_ok, Sem.run_pure, Oper.upon_value]
  exact hK _ _ (h _ _ _ hgr hst')

/-- The same of one value of one cell, out of a literal. -/
theorem wl_append1 {o : Oper} {s x : Operand} {t e E' : TypeId} {z v u : Value} {n : Nat} {xs : List Value} {sb bytes : Nat} {fr : Nat × Nat} (hg : GRow w0 Lg e 1 v n xs) (hst : St w0 S L w) (hT : SliceT P t e) (he : ElemT P e 1 z) (hby : BytesT P e bytes)
    (hgd : o.guard = none) (ho : o.op = .call { callee := .builtin .append, args := #[s, x], argTypes := #[t, t] }) (hs : a.eval s = v) (hx : a.eval x = .slice (some ⟨sb, 0, none⟩) 1 1)
    (htl : Tl Lg L ((sb, .cells #[u] E' fr) :: pre)) (h1 : u.oneCell' = true)
    (hz1 : z.cells.size = 1) (hroom : (n + 1) * bytes ≤ 140737488355328) (hroom' : n + 1 ≤ 1000000000000)
    (h : ∀ v' Lg' w', GRow w0 Lg' e 1 v' (n + 1) (xs ++ [u]) → St w0 S (pre ++ Lg') w' → wpList P ops Q rest (a.put o.dst v') w') : wpList P ops Q (o :: rest) a w := by
  have hL := htl.eq
  subst hL
  refine wl_append [u] hg hst hT he hby hgd ho hs hx htl (src := #[u]) (E' := E') (fr := fr) (by simp) (by simp) (fun j u' hv => ?_) (by simpa using h1) hz1 (by omega) hroom hroom' fun v' Lg' w' hgr hst' => h v' Lg' w' hgr ?_
  · cases j with
    | zero => simpa using hv
    | succ j => simp at hv
  · exact St.drop hst'

/-- A literal of one value of one cell. -/
theorem wl_slice1 {o : Oper} {T e : TypeId} {x : Operand} {v z : Value} (hst : St w0 S L w) (hu : SliceT P T e) (he : ElemT P e 1 z) (hg : o.guard = none) (ho : o.op = .buildSlice T 1 #[(0, x)]) (hx : a.eval x = v) (hv : v.cells = #[v])
    (h : ∀ b w', w0.heap.size ≤ b → St w0 S ((b, .cells #[v] e) :: L) w' → wpList P ops Q rest (a.put o.dst (.slice (some ⟨b, 0, none⟩) 1 1)) w') : wpList P ops Q (o :: rest) a w :=
  wl_buildSlice hst hu hg ho (by
    subst hx
    simpa using built_1 he hv) h
theorem wl_slice2 {o : Oper} {T e : TypeId} {x y : Operand} {v u z : Value} (hst : St w0 S L w) (hu : SliceT P T e) (he : ElemT P e 1 z) (hg : o.guard = none) (ho : o.op = .buildSlice T 2 #[(0, x), (1, y)]) (hx : a.eval x = v) (hy : a.eval y = u) (hv : v.cells = #[v]) (hu' : u.cells = #[u])
    (h : ∀ b w', w0.heap.size ≤ b → St w0 S ((b, .cells #[v, u] e) :: L) w' → wpList P ops Q rest (a.put o.dst (.slice (some ⟨b, 0, none⟩) 2 2)) w') : wpList P ops Q (o :: rest) a w :=
  wl_buildSlice hst hu hg ho (by
    subst hx
    subst hy
    simpa using built_2 he hv hu') h
end
end Go.Proofs.YtojjmcghcgidlaaDoor.Rd
