/- What an fpu answers of a record that may not be done; a batch that isn't there. -/
import Derived.Test.YtoakmlopjeecoaaGreatDoorK02
import Derived.Laws.AppendOwn
import Derived.Shelf.Spec.BitsCarry
import Derived.ChangeKeysEq
import Derived.Deep.MidRow
namespace Go.Proofs.YtoakmlopjeecoaaGreatDoor.Rd
open Go Go.RowKit
set_option linter.unusedVariables false
set_option linter.unusedSimpArgs false

/-- Lg is what the slice v of n elements, that has grown by appends since w0, owns: nothing, or one block whose first cells are xs. -/
def GRow (w0 : World) (Lg : List (Nat × Obj)) (e : TypeId) (sz : Nat) (v : Value) (n : Nat) (xs : List Value) : Prop :=
  xs.length = n * sz ∧ ((Lg = [] ∧ v = .slice none 0 0 ∧ n = 0) ∨
  ∃ g cap cur, Lg = [(g, .cells cur e (0, 0))] ∧ v = .slice (some ⟨g, 0, none⟩) n cap ∧ w0.heap.size ≤ g ∧ n ≤ cap ∧ cap ≤ maxLen ∧ cur.size = cap * sz ∧ cur.toList.take (n * sz) = xs)

theorem GRow.nil (w0 : World) (e : TypeId) (sz : Nat) : GRow w0 [] e sz (.slice none 0 0) 0 [] := ⟨by simp, .inl ⟨rfl, rfl, rfl⟩⟩

/-- L is pre, and behind it Lg. -/
inductive Tl (Lg : List (Nat × Obj)) : List (Nat × Obj) → List (Nat × Obj) → Prop
  | here : Tl Lg Lg []
  | there (x) (L pre) : Tl Lg L pre → Tl Lg (x :: L) (x :: pre)
theorem Tl.eq {Lg L pre : List (Nat × Obj)} (h : Tl Lg L pre) : L = pre ++ Lg := by
  induction h with
  | here => rfl
  | there x L pre h ih => rw [ih]; rfl

theorem At.snoc (pre : List (Nat × Obj)) (b : Nat) (o o' : Obj) : At b o o' (pre ++ [(b, o)]) (pre ++ [(b, o')]) := by
  induction pre with
  | nil => exact At.head _
  | cons x pre ih => exact At.tail _ _ _ ih

/-- The bytes of an element. -/
def BytesT (P : Program) (e : TypeId) (b : Nat) : Prop := (P.info? e).map (·.bytes) = some b

theorem add_lit' (g o j : Nat) : (⟨g, o, none⟩ : Addr).add j = ⟨g, o + j, none⟩ := by unfold Addr.add; split <;> simp_all

theorem builtin_append' (ats : Array TypeId) (ty : TypeId) (cs : Array Bool) (args : Array Value) : builtin .append ats ty cs args = (do pure (.value (← Builtin.append_ ats ty args))) := rfl

section
variable {P : Program} {ops : Array Oper} {rest : List Oper} {Q : Exit → Act → World → Prop} {a : Act} {w w0 : World} {S : List Nat} {L pre Lg : List (Nat × Obj)}

theorem run_app {t ty e : TypeId} {z v : Value} {sz n m c bytes : Nat} {xs news : List Value} {sb so : Nat} (hst : St w0 S (pre ++ Lg) w) (hg : GRow w0 Lg e sz v n xs) (hT : SliceT P t e) (he : ElemT P e sz z) (hz1 : z.cells.size = sz) (hsz : 0 < sz) (hby : BytesT P e bytes)
    (hm : news.length = m * sz) (hnews : ∀ j u, news[j]? = some u → w.cell? ⟨sb, so + j, none⟩ = some u) (h1 : ∀ u ∈ news, u.oneCell' = true)
    (hroom : (n + m) * bytes ≤ 140737488355328) (hroom' : n + m ≤ 1000000000000) :
    ∃ v' Lg' w', (Builtin.append_ #[t, t] ty #[v, .slice (some ⟨sb, so, none⟩) m c]).run P w = .ok v' w' ∧ GRow w0 Lg' e sz v' (n + m) (xs ++ news) ∧ St w0 S (pre ++ Lg') w' := by
  obtain ⟨i, hi, hisz, hz⟩ := he
  subst hisz
  have hby' : i.bytes = bytes := by simpa [BytesT, hi] using hby
  subst hby'
  obtain ⟨hlen, hg⟩ := hg
  have hlen2 : (xs ++ news).length = (n + m) * i.size := by rw [List.length_append, hlen, hm, Nat.add_mul]
  have hsrc : ∀ j u, news[j]? = some u → w.cell? ((⟨sb, so, none⟩ : Addr).add j) = some u := fun j u hv => by rw [add_lit']; exact hnews j u hv
  have hnd := hst.nodup
  rw [List.map_append] at hnd
  have hstpre : St w0 S pre w := hst.sub (List.sublist_append_left _ _)
  -- a new block takes what was and what comes
  have fresh : ∀ (cap : Nat) (cur : Array Value), n + m ≤ cap → cap ≤ maxLen → cur.size = cap * i.size → cur.toList.take ((n + m) * i.size) = xs ++ news →
      GRow w0 [(w.heap.size, .cells cur e (0, 0))] e i.size (.slice (some ⟨w.heap.size, 0, none⟩) (n + m) cap) (n + m) (xs ++ news) ∧ St w0 S (pre ++ [(w.heap.size, .cells cur e (0, 0))]) (w.drew.alloc (.cells cur e)) := by
    intro cap cur h1 h2 h3 h4
    refine ⟨⟨hlen2, .inr ⟨w.heap.size, cap, cur, rfl, rfl, hst.keeps.size, h1, h2, h3, h4⟩⟩, ?_⟩
    have h5 := (hstpre.keep (Keeps.drew w)).alloc (.cells cur e (0, 0))
    refine ⟨h5.keeps, fun b o hmem => ?_, ?_⟩
    · rcases List.mem_append.1 hmem with h | h
      · exact h5.own b o (List.mem_cons_of_mem _ h)
      · exact h5.own b o (by simp only [List.mem_singleton] at h; rw [h]; simp)
    · have := h5.nodup
      simp only [List.map_cons, List.nodup_cons] at this
      rw [List.map_append]
      refine List.nodup_append.2 ⟨hstpre.nodup, by simp, ?_⟩
      intro b hb b' hb' e
      simp only [List.map_cons, List.map_nil, List.mem_singleton] at hb'
      subst hb'
      exact this.1 (e ▸ hb)
  have hcapm : ∀ old, grownCap w (n + m) old e ≤ maxLen := fun old => grownCap_le_maxLen w (n + m) old e (by simp only [maxLen]; omega)
  rcases hg with ⟨rfl, rfl, rfl⟩ | ⟨g, cap, cur, rfl, rfl, hge, hle, hcap, hcs, htk⟩
  · have hx : xs = [] := List.eq_nil_of_length_eq_zero (by simpa using hlen)
    subst hx
    by_cases hm0 : m = 0
    · subst hm0
      have hn : news = [] := List.eq_nil_of_length_eq_zero (by simpa using hm)
      subst hn
      refine ⟨.slice none 0 0, [], w, ?_, GRow.nil _ _ _, hst⟩
      simp [Builtin.append_, run_underlying (show P.underlying t = some (.slice e) from hT), sizeOf, typeInfo, hi, Builtin.lenOf, Builtin.firstCells, loadCells, loadCellsFrom]
    · have hr := run_append_nil (P := P) w t ty e i z hT hi hz ⟨sb, so, none⟩ m c news hm hsrc (by omega) (by omega) (by have hb := hroom; simp only [Nat.zero_add] at hb; omega)
      have hge := grownCap_ge w m 0 e
      have h := fresh (grownCap w m 0 e) (news.toArray ++ Builtin.zeroCells z.cells (grownCap w m 0 e - m)) (by simpa using hge) (by simpa using hcapm 0) (by
          simp only [Array.size_append, List.size_toArray, size_zeroCells, hz1, hm, ← Nat.add_mul]; congr 1; omega) (by
          simp only [Array.toList_append, Nat.zero_add, List.nil_append]; rw [← hm]; exact List.take_left)
      simp only [Nat.zero_add, List.nil_append] at h ⊢
      exact ⟨_, _, _, hr, h.1, h.2⟩
  · have hheap : w.heap[g]? = some (.cells cur e (0, 0)) := hst.own _ _ (by simp)
    by_cases hfits : n + m ≤ cap
    · have hfit : n * i.size + news.length ≤ cur.size := by rw [hm, hcs, ← Nat.add_mul]; exact Nat.mul_le_mul_right _ hfits
      have hr := run_append_room (P := P) w t ty e i hT hi g n cap cur hheap ⟨sb, so, none⟩ m c news hm hsrc h1 hfits hfit
      have hat := At.snoc pre g (.cells cur e (0, 0)) (.cells (cur.toList.take (n * i.size) ++ news ++ cur.toList.drop (n * i.size + news.length)).toArray e (0, 0))
      refine ⟨_, _, _, hr, ⟨hlen2, .inr ⟨g, cap, _, rfl, rfl, hge, hfits, hcap, ?_, ?_⟩⟩, hst.put hat (.inl hge) (Keeps.setRow w g _ (fun _ => by simp)) (setRow_heap w g cur _ e _ hheap)⟩
      · simp only [List.size_toArray, List.length_append, List.length_take, List.length_drop, Array.length_toList]
        omega
      · rw [htk, ← hlen2]
        exact List.take_left
    · have holds : ∀ j u, xs[j]? = some u → w.cell? ((⟨g, 0, none⟩ : Addr).add j) = some u := fun j u hv => by
        rw [add_lit', Nat.zero_add, cell_of_row w g j cur e _ hheap]
        rw [← htk, List.getElem?_take] at hv
        split at hv
        · simpa using hv
        · cases hv
      have hr := run_append_grow (P := P) w t ty e i z hT hi hz ⟨g, 0, none⟩ n cap xs hlen holds ⟨sb, so, none⟩ m c news hm hsrc (by omega) (by omega) (growslice_fits (by omega) hroom)
      have hge2 := grownCap_ge w (n + m) cap e
      have h := fresh (grownCap w (n + m) cap e) (xs.toArray ++ news.toArray ++ Builtin.zeroCells z.cells (grownCap w (n + m) cap e - (n + m))) hge2 (hcapm cap) (by
          simp only [Array.size_append, List.size_toArray, size_zeroCells, hz1, hm, hlen, ← Nat.add_mul]; congr 1; omega) (by
          simp only [Array.toList_append, List.append_assoc]; rw [← List.append_assoc, ← hlen2]; exact List.take_left)
      exact ⟨_, _, _, hr, h.1, h.2⟩

/-- append of some cells that lie in a block of ours. -/
theorem wl_append {o : Oper} {s x : Operand} {t e E' : TypeId} {z v : Value} {sz n : Nat} {xs : List Value} {sb so m c bytes : Nat} {src : Array Value} {fr : Nat × Nat} (news : List Value) (hg : GRow w0 Lg e sz v n xs) (hst : St w0 S L w) (hT : SliceT P t e) (he : ElemT P e sz z) (hby : BytesT P e bytes)
    (hgd : o.guard = none) (ho : o.op = .call { callee := .builtin .append, args := #[s, x], argTypes := #[t, t] }) (hs : a.eval s = v) (hx : a.eval x = .slice (some ⟨sb, so, none⟩) m c)
    (htl : Tl Lg L pre) (hsm : (sb, .cells src E' fr) ∈ L) (hm : news.length = m * sz) (hnews : ∀ j u, news[j]? = some u → src[so + j]? = some u) (h1 : ∀ u ∈ news, u.oneCell' = true)
    (hz1 : z.cells.size = sz) (hsz : 0 < sz) (hroom : (n + m) * bytes ≤ 140737488355328) (hroom' : n + m ≤ 1000000000000)
    (h : ∀ v' Lg' w', GRow w0 Lg' e sz v' (n + m) (xs ++ news) → St w0 S (pre ++ Lg') w' → wpList P ops Q rest (a.put o.dst v') w') : wpList P ops Q (o :: rest) a w := by
  have hso := hst.own _ _ hsm
  have hL := htl.eq
  subst hL
  obtain ⟨v', Lg', w', hrun, hgr, hst'⟩ := run_app (ty := o.type) (c := c) hst hg hT he hz1 hsz hby hm (fun j u hv => by rw [cell_of_row w sb (so + j) src E' fr hso]; exact hnews j u hv) h1 hroom hroom'
  refine wpList_plain hgd fun K hK => ?_
  unfold Oper.wp
  have e : execOp a.eval o = builtin .append #[t, t] o.type ((#[s, x] : Array Operand).map fun | .const _ => true | _ => false) ((#[s, x] : Array Operand).map a.eval) := by
    unfold execOp
    rw [ho]
    rfl
  have e2 : (#[s, x] : Array Operand).map a.eval = #[v, .slice (some ⟨sb, so, none⟩) m c] := by simp [hs, hx]
  rw [e, e2, builtin_append', Sem.run_bind, hrun, Result.andThen_ok, Sem.run_pure, Oper.upon_value]
  exact hK _ _ (h _ _ _ hgr hst')

/-- A literal of one value of one cell. -/
theorem wl_slice1 {o : Oper} {T e : TypeId} {x : Operand} {v z : Value} (hst : St w0 S L w) (hu : SliceT P T e) (he : ElemT P e 1 z) (hg : o.guard = none) (ho : o.op = .buildSlice T 1 #[(0, x)]) (hx : a.eval x = v) (hv : v.cells = #[v])
    (h : ∀ b w', w0.heap.size ≤ b → St w0 S ((b, .cells #[v] e) :: L) w' → wpList P ops Q rest (a.put o.dst (.slice (some ⟨b, 0, none⟩) 1 1)) w') : wpList P ops Q (o :: rest) a w :=
  wl_buildSlice hst hu hg ho (by
    subst hx
    simpa using built_1 he hv) h
theorem wl_slice2 {o : Oper} {T e : TypeId} {x y : Operand} {v u z : Value} (hst : St w0 S L w) (hu : SliceT P T e) (he : ElemT P e 1 z) (hg : o.guard = none) (ho : o.op = .buildSlice T 2 #[(0, x), (1, y)]) (hx : a.eval x = v) (hy : a.eval y = u) (hv : v.cells = #[v]) (hu' : u.cells = #[u])
    (h : ∀ b w', w0.heap.size ≤ b → St w0 S ((b, .cells #[v, u] e) :: L) w' → wpList P ops Q rest (a.put o.dst (.slice (some ⟨b, 0, none⟩) 2 2)) w') : wpList P ops Q (o :: rest) a w :=
  wl_buildSlice hst hu hg ho (by
    subst hx
    subst hy
    simpa using built_2 he hv hu') h
end
end Go.Proofs.YtoakmlopjeecoaaGreatDoor.Rd

namespace Go.Proofs.YtoakmlopjeecoaaGreatDoor.Rd
open Go Go.RowKit
set_option linter.unusedVariables false
set_option linter.unusedSimpArgs false
set_option maxRecDepth 100000

/-- One limb of a difference, and what is borrowed. -/
def subl (x y c : Nat) : Nat × Nat := ((x + B - y - c) % B, if x < y + c then 1 else 0)
theorem sub_lt (x y c : Nat) (hx : x < B) (hy : y < B) (hc : c ≤ 1) : (subl x y c).1 < B ∧ (subl x y c).2 ≤ 1 :=
  ⟨Nat.mod_lt _ B_pos, by unfold subl; simp only; split <;> omega⟩
theorem subl_eq (x y c : Nat) (hx : x < B) (hy : y < B) (hc : c ≤ 1) : (subl x y c).1 + y + c = x + (subl x y c).2 * B := by
  unfold subl
  have := B_val
  simp only
  split <;> rename_i h
  · rw [Nat.mod_eq_of_lt (by omega)]; omega
  · rw [show x + B - y - c = x - y - c + B by omega, Nat.add_mod_right, Nat.mod_eq_of_lt (by omega)]; omega

theorem sub64 (x y c : Nat) (hc : c ≤ 1) (w : World) :
    (callFunc 167 #[.int .u64 x, .int .u64 y, .int .u64 c]).run Tryz.prog w = .ok (.value (.tuple #[.int .u64 ((subl x y c).1 : Nat), .int .u64 ((subl x y c).2 : Nat)])) w := by
  rw [run_callFunc_extern Tryz.func167 (by kernel_rfl) (by kernel_rfl) (by kernel_rfl) (e := sub64Entry) (by kernel_rfl), run_sub64 x y c hc]
  rfl

theorem limb_Sub (x y c : Nat) (hx : x < B) (hy : y < B) (hc : c ≤ 1) :
    Gives Tryz.prog 151 #[.int .u64 x, .int .u64 y, .int .u64 c] (.tuple #[.int .u64 ((subl x y c).1 : Nat), .int .u64 ((subl x y c).2 : Nat)]) := by
  intro w0
  have e1 : (if c = 0 then 0 else 1) = c := by split <;> omega
  have hone := limb_one c
  rw [e1] at hone
  clear e1
  have hst := St.start [] w0
  go_enter Tryz.func151, Tryz.ntmps151
  go_wp2_with ((first | (refine kf gf168 hst (hone) rfl rfl rfl rfl ?_; clear hst; intro w hst) | (refine kx (sub64 x y c hc _) rfl rfl rfl rfl ?_)); try simp only [pz, pn, sz, sc])
  go_ret2
  exact ⟨rfl, hst.keeps⟩

theorem limbs_sub (a b : Nat) : ∀ k, (limbs subl a b k).1 + b % B ^ k = a % B ^ k + (limbs subl a b k).2 * B ^ k
  | 0 => by simp [limbs, Nat.mod_one]
  | k + 1 => by
    have ih := limbs_sub a b k
    have hl := limbs_lt (f := subl) sub_lt a b k
    simp only [limbs]
    rw [lb_split a k, lb_split b k]
    generalize hL : limbs subl a b k = r at ih hl ⊢
    have e := subl_eq (lb a k) (lb b k) r.2 (lb_lt _ _) (lb_lt _ _) hl.2
    generalize subl (lb a k) (lb b k) r.2 = s at e ⊢
    have : s.2 * B ^ (k + 1) = s.2 * B * B ^ k := by rw [Nat.pow_succ', Nat.mul_assoc]
    rw [this]
    have e2 : (s.1 + lb b k + r.2) * B ^ k = (lb a k + s.2 * B) * B ^ k := by rw [e]
    rw [Nat.add_mul, Nat.add_mul, Nat.add_mul] at e2
    omega

theorem limbs_sub8 (a b : Nat) (ha : a < M) (hb : b < M) : (limbs subl a b 8).1 = (a + M - b) % M ∧ decide ((limbs subl a b 8).2 ≠ 0) = decide (a < b) := by
  have h := limbs_sub a b 8
  have hl := limbs_lt (f := subl) sub_lt a b 8
  rw [← M_eq] at h hl
  rw [Nat.mod_eq_of_lt ha, Nat.mod_eq_of_lt hb] at h
  obtain ⟨h1, h2⟩ := hl
  generalize limbs subl a b 8 = r at *
  have : r.2 = 0 ∨ r.2 = 1 := by omega
  rcases this with e | e <;> rw [e] at h ⊢
  · refine ⟨?_, by simp; omega⟩
    rw [show a + M - b = r.1 + M by omega, Nat.add_mod_right, Nat.mod_eq_of_lt h1]
  · refine ⟨?_, by simp; omega⟩
    rw [show a + M - b = r.1 by omega, Nat.mod_eq_of_lt h1]

theorem wide_Sub (a b : Nat) (ha : a < M) (hb : b < M) : Gives Tryz.prog 120 #[W a, W b] (.tuple #[W ((a + M - b) % M), .bool (decide (a < b))]) := by
  intro w0
  have hst := St.start [] w0
  have hboth := wide_both 151 gf151 subl sub_lt limb_Sub a b
  rw [(limbs_sub8 a b ha hb).1, (limbs_sub8 a b ha hb).2] at hboth
  go_enter Tryz.func120, Tryz.ntmps120
  go_wp2_with ((first | (refine kf gf150 hst (hboth) rfl rfl rfl rfl ?_; clear hst; intro w hst) | (refine kb 2 hst rfl rfl ?_; clear hst; intro b2 w hb2 hst) | (refine kb 3 hst rfl rfl ?_; clear hst; intro b3 w hb3 hst) | (refine ka 4 hst tz109 rfl rfl ?_; clear hst; intro b4 w hb4 hst) | (refine kl hst ta109 rfl ?_) | (refine kt hst ta109 rfl rfl ?_; clear hst; intro w hst)); try simp only [pz, pn, sz, sc])
  refine bp_ct rfl rfl (la hst ta109) (by rfl) ⟨?_, hst.keeps⟩
  rfl

/-- The cells of a word's number: those above, those below. -/
def wdc (m : Nat) : Array Value := #[.int .u64 (lb m 1 : Nat), .int .u64 (lb m 0 : Nat)]
/-- The value of a word. -/
def Wd (m : Nat) : Value := .agg (wdc m)
/-- As great as a word may be. -/
def M2 : Nat := B ^ 2
theorem Wd_cells (m : Nat) : (Wd m).cells = wdc m := rfl
theorem wdc_one (m : Nat) : (wdc m).all (·.oneCell') = true := by kernel_rfl
theorem wdc_1 (m : Nat) : (wdc m)[1]? = some (.int .u64 (lb m 0 : Nat)) := rfl
theorem wdc_0 (m : Nat) : (wdc m)[0]? = some (.int .u64 (lb m 1 : Nat)) := rfl
theorem lb_join (n : Nat) : lb n 0 + lb n 1 * B = n % M2 := by
  have := lb_split n 1
  rw [Nat.pow_one] at this
  rw [show M2 = B ^ (1 + 1) from rfl, this, lb_zero]
theorem lb_low (n i : Nat) (hi : i < 2) : lb (n % M2) i = lb n i := by
  have := lb_part n 0 2 i hi
  rw [Nat.pow_zero, Nat.div_one, Nat.zero_add] at this
  exact this

theorem wide_Low (n : Nat) : Gives Tryz.prog 127 #[W n] (Wd (n % M2)) := by
  intro w0
  have hst := St.start [] w0
  have e1 : wdc (n % M2) = #[.int .u64 (lb n 1 : Nat), .int .u64 (lb n 0 : Nat)] := by unfold wdc; rw [lb_low n 1 (by omega), lb_low n 0 (by omega)]
  go_enter Tryz.func127, Tryz.ntmps127
  go_wp2_with ((first | (refine kb 1 hst rfl rfl ?_; clear hst; intro b1 w hb1 hst) | (refine ka 2 hst tz24 rfl rfl ?_; clear hst; intro b2 w hb2 hst) | (refine kc hst tc22 rfl ?_) | (refine kt hst ta24 rfl rfl ?_; clear hst; intro w hst)); try simp only [pz, pn, sz, sc])
  refine bp_c rfl rfl (la hst ta24) ⟨?_, hst.keeps⟩
  rw [← e1]; rfl

theorem wide_From (m : Nat) (hm : m < M2) : Gives Tryz.prog 42 #[Wd m] (W m) := by
  intro w0
  have hst := St.start [] w0
  have hof := fun b w h => wide_Of b 0 2 2 2 m 22 (0, 0) (by omega) w h
  have e1 := wc_2 (lb m 0) (lb m 1) (lb_lt _ _) (lb_lt _ _)
  rw [lb_join, Nat.mod_eq_of_lt hm] at e1
  rw [Nat.pow_zero, Nat.div_one, show min 2 8 = 2 from rfl, show m % B ^ 2 = m from Nat.mod_eq_of_lt hm] at hof
  have e1' := Lib.hid e1
  clear e1
  have g1 := wdc_1 m
  have g0 := wdc_0 m
  go_enter Tryz.func42, Tryz.ntmps42
  go_wp2_with ((first | (refine kg gf53 hst (fun w hst => hof _ w (by rw [← e1'.out]; exact hst.own _ _ (by simp))) rfl rfl rfl rfl ?_; clear hst; intro w hst) | (refine kb 1 hst rfl rfl ?_; clear hst; intro b1 w hb1 hst) | (refine ka 2 hst tz109 rfl rfl ?_; clear hst; intro b2 w hb2 hst) | (refine kc hst tc22 rfl ?_) | (refine wl_slice2 (o := ⟨some 7, _, _, _, _, _⟩) hst ts128 te22 rfl rfl (by (simp only [eval_lit, eval_k, eval_f, eval_g, List.getD_cons_succ, List.getD_cons_zero]) <;> rfl) (by (simp only [eval_lit, eval_k, eval_f, eval_g, List.getD_cons_succ, List.getD_cons_zero]) <;> rfl) (by rfl) (by rfl) ?_; clear hst; intro b7 w hb7 hst) | (refine kt hst ta109 rfl rfl ?_; clear hst; intro w hst)); try simp only [pz, pn, sz, sc])
  refine bp_c rfl rfl (la hst ta109) ⟨?_, hst.keeps⟩
  rfl

end Go.Proofs.YtoakmlopjeecoaaGreatDoor.Rd

namespace Go.Proofs.YtoakmlopjeecoaaGreatDoor.Rd
open Go Go.RowKit
set_option linter.unusedVariables false
set_option linter.unusedSimpArgs false
set_option maxRecDepth 100000

theorem run_eqItems_cells {P : Program} {e : TypeId} {k : IntKind} (he : CellT P e) (hu : P.underlying e = some (.int k)) (d : Nat) (xs ys : Array Value) (f g : Nat → Nat) (w : World) :
    ∀ is : List Nat, (∀ j ∈ is, xs[j]? = some (.int k (f j : Nat)) ∧ ys[j]? = some (.int k (g j : Nat))) → (Op.eqItems (d + 1) e 1 xs ys is).run P w = .ok (is.all fun j => f j == g j) w
  | [], _ => by simp [Op.eqItems]
  | j :: is, h => by
    obtain ⟨d', hu', hd, hs⟩ := he
    have hj := h j List.mem_cons_self
    have ih := run_eqItems_cells ⟨d', hu', hd, hs⟩ hu d xs ys f g w is (fun j hj => h j (List.mem_cons_of_mem _ hj))
    have p1 : (part e xs (j * 1)).run P w = .ok (.int k (f j : Nat)) w := by
      rw [Nat.mul_one]; simp [part, Sem.run_bind, run_isAgg_no d' hu' hd w, hj.1]
    have p2 : (part e ys (j * 1)).run P w = .ok (.int k (g j : Nat)) w := by
      rw [Nat.mul_one]; simp [part, Sem.run_bind, run_isAgg_no d' hu' hd w, hj.2]
    have p3 := run_equalIn_int w d e k k (f j : Nat) (g j : Nat) hu
    simp only [Op.eqItems, Sem.run_bind, p1, p2, p3, Result.andThen_ok, List.all_cons]
    have e1 : (((f j : Nat) : Int) == ((g j : Nat) : Int)) = (f j == g j) := by
      rw [Bool.eq_iff_iff]; simp only [beq_iff_eq]; omega
    rw [e1]
    cases hq : f j == g j
    · simp
    · simpa using ih

theorem all_lb (a b k : Nat) (ha : a < B ^ k) (hb : b < B ^ k) : ((List.range k).all fun j => lb a j == lb b j) = decide (a = b) := by
  rw [Bool.eq_iff_iff]
  simp only [List.all_eq_true, List.mem_range, beq_iff_eq, decide_eq_true_eq]
  constructor
  · intro h
    have := lb_inj h
    rwa [Nat.mod_eq_of_lt ha, Nat.mod_eq_of_lt hb] at this
  · intro h; subst h; intros; rfl

section
variable {P : Program} {ops : Array Oper} {rest : List Oper} {Q : Exit → Act → World → Prop} {a : Act} {w w0 : World} {S : List Nat} {L pre Lg : List (Nat × Obj)}

theorem run_eql_wide {T e : TypeId} (hT : ArrT P T 8 e) (he : CellT P e) (hu : P.underlying e = some (.int .u64)) (m n : Nat) (hm : m < M) (hn : n < M) (w : World) :
    (Op.equalIn 10000 T (W m) (W n)).run P w = .ok (decide (m = n)) w := by
  have hk : P.cellsOf e = 1 := by
    obtain ⟨d', hu', hd, hs⟩ := he
    unfold Program.cellsOf
    rw [hs]
    rfl
  have hinf : ∃ i, P.info? e = some i := by
    obtain ⟨d', hu', hd, hs⟩ := he
    cases hq : P.info? e with
    | none => simp [hq] at hs
    | some i => exact ⟨i, rfl⟩
  obtain ⟨i, hi⟩ := hinf
  have := run_equalIn_array w 9999 (wc 8 m) (wc 8 n) (show P.underlying T = some (.array 8 e) from hT) hi
  rw [hk] at this
  unfold W
  rw [this, run_eqItems_cells he hu 9998 (wc 8 m) (wc 8 n) (lb m) (lb n) w (List.range 8) (fun j hj => ⟨wc_get _ _ _ (List.mem_range.1 hj), wc_get _ _ _ (List.mem_range.1 hj)⟩)]
  rw [all_lb m n 8 hm hn]

/-- Whether two wides are the same. -/
theorem wl_eqlW {o : Oper} {T R e : TypeId} {x y : Operand} {m n : Nat} (hT : ArrT P T 8 e) (he : CellT P e) (hu : P.underlying e = some (.int .u64)) (hq : P.eqGuardType P.depth T = false)
    (hg : o.guard = none) (ho : o.op = .binOp .eql T x y R) (hx : a.eval x = W m) (hy : a.eval y = W n) (hm : m < M) (hn : n < M)
    (h : wpList P ops Q rest (a.put o.dst (.bool (decide (m = n)))) w) : wpList P ops Q (o :: rest) a w := by
  have h1 : (binOp .eql T (W m) (W n)).run P w = .ok (.bool (decide (m = n))) w := by
    have e1 := run_eql_struct (P := P) w T (wc 8 m) (wc 8 n)
    have e2 := run_eql_wide hT he hu m n hm hn w
    unfold W at e2 ⊢
    rw [e1, e2]
    rfl
  have h2 : (eqGuard .eql T x y (W m) (W n)).run P w = .ok () w := by
    unfold W; exact run_eqGuard_agg (P := P) w .eql T x y _ _ hq
  refine wpList_plain hg fun K hK => ?_
  unfold Oper.wp execOp
  simp only [ho, hx, hy, Sem.run_bind, h1, h2, Sem.run_pure, Result.andThen_ok]
  exact hK _ _ h
/-- The same in short; what is decided may stand among the facts. -/
theorem ke {o : Oper} {T R e : TypeId} {x y : Operand} {m n : Nat} {c : Bool} (hT : ArrT P T 8 e) (he : CellT P e) (ho : o.op = .binOp .eql T x y R) (h : wpList P ops Q rest (a.put o.dst (.bool c)) w)
    (hx : a.eval x = W m := by rfl) (hy : a.eval y = W n := by first | rfl | exact W_zero.symm) (hm : m < M := by assumption) (hn : n < M := by first | assumption | decide) (hc : decide (m = n) = c := by first | assumption | rfl)
    (hu : P.underlying e = some (.int .u64) := by kernel_rfl) (hq : P.eqGuardType P.depth T = false := by kernel_rfl) (hg : o.guard = none := by rfl) : wpList P ops Q (o :: rest) a w := by
  subst hc; exact wl_eqlW hT he hu hq hg ho hx hy hm hn h
end
end Go.Proofs.YtoakmlopjeecoaaGreatDoor.Rd

namespace Go.Proofs.YtoakmlopjeecoaaGreatDoor.Rd
open Go Go.RowKit
set_option linter.unusedVariables false
set_option linter.unusedSimpArgs false
set_option maxRecDepth 100000

section
variable {P : Program} {ops : Array Oper} {rest : List Oper} {Q : Exit → Act → World → Prop} {a : Act} {w w0 : World} {S : List Nat} {L : List (Nat × Obj)}

/-- T is a struct's type; its fields' types and places. -/
def FieldsT (P : Program) (T : TypeId) (fs : List (TypeId × Nat)) : Prop :=
  P.underlying T = some (.struct (P.fieldsOf T)) ∧ P.stoodInHeld T = false ∧ ((P.fieldsOf T).toList.map fun f => (f.type, f.offset)) = fs ∧ ((P.fieldsOf T).toList.all fun f => f.name != "_") = true

/-- Field by field: whether what lies there is the same. -/
inductive FEq (P : Program) (d : Nat) (xs ys : Array Value) : List (TypeId × Nat) → Bool → Prop
  | nil : FEq P d xs ys [] true
  | cons {t : TypeId} {o : Nat} {fs : List (TypeId × Nat)} {x y : Value} {r r' : Bool} (h1 : ∀ w, (part t xs o).run P w = .ok x w) (h2 : ∀ w, (part t ys o).run P w = .ok y w) (h3 : ∀ w, (Op.equalIn d t x y).run P w = .ok r w) (h : FEq P d xs ys fs r') : FEq P d xs ys ((t, o) :: fs) (r && r')

theorem FEq.run {d : Nat} {xs ys : Array Value} : ∀ (l : List Field) {r : Bool}, (l.all fun f => f.name != "_") = true → FEq P d xs ys (l.map fun f => (f.type, f.offset)) r → ∀ w, (Op.eqFields d xs ys l).run P w = .ok r w
  | [], r, _, h, w => by
    cases h
    simp [Op.eqFields]
  | f :: l, r, hn, h, w => by
    simp only [List.all_cons, Bool.and_eq_true, bne_iff_ne] at hn
    cases h with
    | cons h1 h2 h3 h4 =>
      rename_i x y r1 r2
      have ih := FEq.run l hn.2 h4 w
      simp only [Op.eqFields, hn.1, ne_eq, not_false_eq_true, if_true, Sem.run_bind, h1 w, h2 w, h3 w, Result.andThen_ok]
      cases r1
      · simp
      · simpa using ih

theorem run_equal_fields {d : Nat} {T : TypeId} {fs : List (TypeId × Nat)} {xs ys : Array Value} {r : Bool} (hT : FieldsT P T fs) (h : FEq P d xs ys fs r) (w : World) : (Op.equalIn (d + 1) T (.agg xs) (.agg ys)).run P w = .ok r w := by
  obtain ⟨h1, h2, h3, h4⟩ := hT
  rw [run_equalIn_struct w d T xs ys h1 h2]
  subst h3
  exact FEq.run _ h4 h w

theorem part_cell {e : TypeId} {cs : Array Value} {o : Nat} {v : Value} (he : CellT P e) (h : cs[o]? = some v) (w : World) : (part e cs o).run P w = .ok v w := by
  obtain ⟨d, hu, hd, hs⟩ := he
  simp [part, Sem.run_bind, run_isAgg_no d hu hd w, h]

theorem yN {T R e : TypeId} {x y : Operand} {m n : Nat} {c : Bool} {ty : TypeId} {pos : String} {af : Array Edge} {dst : Option Tmp} {g : Option (Nat × Bool)} (hT : ArrT P T 8 e) (he : CellT P e)
    (hx : a.eval x = W m := by rfl) (hy : a.eval y = W n := by first | rfl | exact W_zero.symm) (hm : m < M := by assumption) (hn : n < M := by first | assumption | decide) (hc : decide (m = n) = c := by first | assumption | rfl)
    (hu : P.underlying e = some (.int .u64) := by kernel_rfl) (hq : P.eqGuardType P.depth T = false := by kernel_rfl) : ∀ w, (execOp a.eval ⟨dst, .binOp .neq T x y R, ty, pos, af, g⟩).run P w = .ok (.value (.bool !c)) w := fun w => by
  subst hc
  have h1 : (binOp .neq T (W m) (W n)).run P w = .ok (.bool (!decide (m = n))) w := by
    have e1 := run_neq_struct (P := P) w T (wc 8 m) (wc 8 n)
    have e2 := run_eql_wide hT he hu m n hm hn w
    unfold W at e2 ⊢
    rw [e1, e2]
    rfl
  have h2 : (eqGuard .neq T x y (W m) (W n)).run P w = .ok () w := by
    unfold W; exact run_eqGuard_agg (P := P) w .neq T x y _ _ hq
  unfold execOp
  simp only [hx, hy, Sem.run_bind, h1, h2, Sem.run_pure, Result.andThen_ok]
end

end Go.Proofs.YtoakmlopjeecoaaGreatDoor.Rd

namespace Go.Proofs.YtoakmlopjeecoaaGreatDoor.Rd
open Go Go.RowKit
set_option linter.unusedVariables false
set_option linter.unusedSimpArgs false
set_option maxRecDepth 100000

/-- A record's cells. -/
def recC (op k f m : Int) (a b : Nat) : Array Value := #[.int .i64 op, .int .i64 k, .int .i64 f, .int .i64 m] ++ wdc a ++ wdc b
theorem recC_size (op k f m : Int) (a b : Nat) : (recC op k f m a b).size = 8 := by simp [recC, wdc]
theorem recC_one (op k f m : Int) (a b : Nat) : OneC (recC op k f m a b) := ⟨by unfold recC; rw [Array.all_append, Array.all_append, wdc_one, wdc_one]; simp [Value.oneCell']⟩
theorem recC_at (op k f m : Int) (a b : Nat) : (recC op k f m a b)[0]? = some (.int .i64 op) ∧ (recC op k f m a b)[0 + 1]? = some (.int .i64 k) ∧ (recC op k f m a b)[0 + 2]? = some (.int .i64 f) ∧ (recC op k f m a b)[0 + 3]? = some (.int .i64 m) := ⟨rfl, rfl, rfl, rfl⟩

theorem fpu_May_op (op k f m : Int) (a b : Nat) (h1 : op ≠ 1) (h2 : op ≠ 2) : Gives Tryz.prog 23 #[.agg (recC op k f m a b)] (.bool false) := by
  intro w0
  have hst := St.start [] w0
  obtain ⟨g0, g1, g2, g3⟩ := recC_at op k f m a b
  have y1 := recC_size op k f m a b
  have y2 := recC_one op k f m a b
  have q1 : decide (op = 1) = false := decide_eq_false h1
  have q2 : decide (op = 2) = false := decide_eq_false h2
  have q3 : (op == 1) = false := by simpa using h1
  have q4 : (op == 2) = false := by simpa using h2
  clear h1 h2
  generalize recC op k f m a b = cs at *
  go_enter Tryz.func23, Tryz.ntmps23
  go_wp2_with ((first | (go_big_skip) | (refine wl_guard (by rfl) ?_) | (refine kb 1 hst rfl rfl ?_; clear hst; intro b1 w hb1 hst) | (refine kc hst tc3 rfl ?_) | (refine kl hst ta24 rfl ?_) | (refine klm hst ta24 rfl ?_)); try simp only [pz, pn, sz, sc])
  refine bp_t rfl rfl (by rfl) ⟨?_, hst.keeps⟩
  rfl

end Go.Proofs.YtoakmlopjeecoaaGreatDoor.Rd

namespace Go.Proofs.YtoakmlopjeecoaaGreatDoor.Rd
open Go Go.RowKit
set_option linter.unusedVariables false
set_option linter.unusedSimpArgs false

/-- Cells set one by one from a place on. -/
def setAll (cs : Array Value) : Nat → List Value → Array Value
  | _, [] => cs
  | o, v :: r => setAll (cs.setIfInBounds o v) (o + 1) r
theorem setAll_get : ∀ (vs : List Value) (o : Nat) (cs : Array Value) (k : Nat), (setAll cs o vs)[k]? = if o ≤ k ∧ k < o + vs.length ∧ k < cs.size then vs[k - o]? else cs[k]?
  | [], o, cs, k => by unfold setAll; rw [if_neg]; simp; omega
  | v :: r, o, cs, k => by
    unfold setAll
    rw [setAll_get r (o + 1) _ k]
    simp only [Array.size_setIfInBounds, List.length_cons]
    by_cases h1 : o = k
    · subst h1
      rw [if_neg (by omega)]
      by_cases h2 : o < cs.size
      · rw [if_pos (by omega)]; simp [Array.getElem?_setIfInBounds, h2]
      · rw [if_neg (by omega)]; simp [Array.getElem?_setIfInBounds, h2]
    · by_cases h2 : o + 1 ≤ k ∧ k < o + 1 + r.length ∧ k < cs.size
      · rw [if_pos h2, if_pos (by omega), show k - o = (k - (o + 1)) + 1 by omega]; rfl
      · rw [if_neg h2, if_neg (by omega), Array.getElem?_setIfInBounds, if_neg h1]

/-- cs has sub at place o; with sub' there it is cs'. -/
def Part (cs sub cs' sub' : Array Value) (o : Nat) : Prop := ∃ pre post : Array Value, cs = pre ++ sub ++ post ∧ cs' = pre ++ sub' ++ post ∧ pre.size = o ∧ sub'.size = sub.size
theorem Part.get {cs sub cs' sub' : Array Value} {o : Nat} (h : Part cs sub cs' sub' o) {j : Nat} {v : Value} (hv : sub[j]? = some v) : cs[o + j]? = some v := by
  obtain ⟨pre, post, rfl, _, rfl, _⟩ := h
  have hj : j < sub.size := (Array.getElem?_eq_some_iff.1 hv).1
  rw [Array.append_assoc, Array.getElem?_append_right (by omega), Nat.add_sub_cancel_left, Array.getElem?_append_left hj]
  exact hv
theorem Part.le {cs sub cs' sub' : Array Value} {o : Nat} (h : Part cs sub cs' sub' o) : o + sub.size ≤ cs.size := by
  obtain ⟨pre, post, rfl, _, rfl, _⟩ := h
  simp
theorem Part.set {cs sub cs' sub' : Array Value} {o : Nat} (h : Part cs sub cs' sub' o) : setAll cs o sub'.toList = cs' := by
  have hle := h.le
  obtain ⟨pre, post, rfl, rfl, rfl, hs⟩ := h
  apply Array.ext_getElem?
  intro k
  rw [setAll_get]
  simp only [Array.length_toList, Array.size_append] at *
  split
  · rename_i hk
    rw [Array.append_assoc, Array.getElem?_append_right (by omega), Array.getElem?_append_left (by omega), Array.getElem?_toList]
  · rename_i hk
    by_cases h1 : k < pre.size
    · rw [Array.append_assoc, Array.append_assoc, Array.getElem?_append_left h1, Array.getElem?_append_left h1]
    · by_cases h2 : k < pre.size + sub.size
      · exact absurd ⟨by omega, by omega, by omega⟩ hk
      · rw [Array.getElem?_append_right (by simp; omega), Array.getElem?_append_right (by simp; omega)]
        simp [hs]
theorem part0 (a a' b : Array Value) (h : a'.size = a.size) : Part (a ++ b) a (a' ++ b) a' 0 := ⟨#[], b, by simp, by simp, rfl, h⟩
theorem part1 (n : Nat) (a b b' : Array Value) (hn : a.size = n) (h : b'.size = b.size) : Part (a ++ b) b (a ++ b') b' n := ⟨a, #[], by simp, by simp, hn, h⟩

/-- The cells of some wides, one behind the other. -/
def wcs : List Nat → Array Value
  | [] => #[]
  | n :: l => wc 8 n ++ wcs l
theorem wcs_part : ∀ (l : List Nat) (i n : Nat), l[i]? = some n → Part (wcs l) (wc 8 n) (wcs l) (wc 8 n) (8 * i)
  | [], i, n, h => by simp at h
  | m :: l, 0, n, h => by
    simp at h; subst h
    exact part0 _ _ _ rfl
  | m :: l, i + 1, n, h => by
    obtain ⟨pre, post, h1, h2, h3, h4⟩ := wcs_part l i n (by simpa using h)
    exact ⟨wc 8 m ++ pre, post, by rw [wcs, h1]; simp, by rw [wcs, h1]; simp, by simp [h3]; omega, h4⟩
theorem wcs_at {l : List Nat} {i n : Nat} (h : l[i]? = some n) : Part (wcs l) (wc 8 n) (wcs l) (wc 8 n) (i * 8) := by rw [Nat.mul_comm]; exact wcs_part l i n h

theorem heap_setCells (b : Nat) (E : TypeId) : ∀ (vs : List Value) (o : Nat) (cs : Array Value) (w : World), w.heap[b]? = some (.cells cs E (0, 0)) →
    (w.setCells b o vs).heap[b]? = some (.cells (setAll cs o vs) E (0, 0)) ∧ Keeps [b] w (w.setCells b o vs)
  | [], _, _, w, h => ⟨h, Keeps.refl _ _⟩
  | v :: r, o, cs, w, h => by
    have h1 := heap_setCell_same w b o cs E v h
    obtain ⟨h2, h3⟩ := heap_setCells b E r (o + 1) _ _ h1
    have hk : Keeps [b] w (w.setCell ⟨b, o, none⟩ v) := ⟨rfl, rfl, rfl, by simp [World.setCell], fun k _ hn => heap_setCell_other w ⟨b, o, none⟩ k v (by simpa using hn)⟩
    exact ⟨h2, hk.trans h3 (fun x hx _ => hx)⟩

section laws
variable {P : Program} {ops : Array Oper} {rest : List Oper} {Q : Exit → Act → World → Prop} {a : Act} {w w0 : World} {S : List Nat} {L L' : List (Nat × Obj)}

theorem descAgg_row {d : TypeDesc} (h : descAgg d = true) : d.isRow = true := by cases d <;> first | rfl | cases h

theorem run_loadMid {T : TypeId} {b n o : Nat} {cs sub cs' sub' : Array Value} {E : TypeId} {fr : Nat × Nat} (hT : AggT P T n) (hn : sub.size = n) (hc : Part cs sub cs' sub' o) (hb : w.heap[b]? = some (.cells cs E fr)) :
    (Instr.loadAt T (.pointer (some ⟨b, o, none⟩))).run P w = .ok (.agg sub) w := by
  obtain ⟨d, hu, hd, hi⟩ := hT
  have := run_loadAt_mid (P := P) w b o T sub.toList d (fun j v hv => by
    rw [cell_of_row w b (o + j) cs E fr hb]
    exact hc.get (by rwa [Array.getElem?_toList] at hv)) hu (descAgg_row hd) (by rw [Array.length_toList, hn]; exact hi)
  simpa using this

/-- A load of a struct or an array out of the middle of a block. -/
theorem klm {o : Oper} {T : TypeId} {x : Operand} {n b f : Nat} {cs sub cs' sub' : Array Value} {E : TypeId} {fr : Nat × Nat} (hst : St w0 S L w) (hT : AggT P T n) (ho : o.op = .load T x) (h : wpList P ops Q rest (a.put o.dst (.agg sub)) w)
    (hx : a.eval x = .pointer (some ⟨b, f, none⟩) := by rfl) (hm : (b, .cells cs E fr) ∈ L := by repeat (first | exact List.Mem.head _ | refine List.Mem.tail _ ?_))
    (hc : Part cs sub cs' sub' f := by first | exact wcs_at (by assumption) | exact part0 _ _ _ rfl | exact part1 _ _ _ _ (by first | rfl | exact wc_size _ _) rfl) (hn : sub.size = n := by first | rfl | exact wc_size _ _) (hg : o.guard = none := by rfl) : wpList P ops Q (o :: rest) a w := by
  refine wpList_plain hg fun K hK => ?_
  unfold Oper.wp execOp
  simp only [ho, hx, Sem.run_bind, run_loadMid hT hn hc (hst.own _ _ hm), Sem.run_pure, Result.andThen_ok]
  exact hK _ _ h

/-- A store of a struct or an array into the middle of a block. -/
theorem ktm {o : Oper} {T : TypeId} {x y : Operand} {n b f : Nat} {cs sub cs' sub' : Array Value} {E : TypeId} (hst : St w0 S L w) (hT : AggT P T n) (hd : o.dst = none) (ho : o.op = .store T x y) (h : ∀ w', St w0 S L' w' → wpList P ops Q rest a w')
    (hx : a.eval x = .pointer (some ⟨b, f, none⟩) := by rfl) (hy : a.eval y = .agg sub' := by rfl) (h1 : sub'.all (·.oneCell') = true := by first | rfl | exact wc_one _ _ | exact wdc_one _ | exact OneC.h (by assumption) | kernel_rfl)
    (hm : (b, .cells cs E (0, 0)) ∈ L := by repeat (first | exact List.Mem.head _ | refine List.Mem.tail _ ?_))
    (hc : Part cs sub cs' sub' f := by first | exact part0 _ _ _ (by simp) | exact part1 _ _ _ _ (by first | rfl | exact wc_size _ _) (by simp)) (hn : sub'.size = n := by first | rfl | exact wc_size _ _)
    (hat : At b (.cells cs E (0, 0)) (.cells cs' E (0, 0)) L L' := by repeat (first | exact At.head _ | apply At.tail))
    (hb : w0.heap.size ≤ b ∨ b ∈ S := by first | exact Or.inl (by assumption) | (refine Or.inr ?_; simp)) (hg : o.guard = none := by rfl) : wpList P ops Q (o :: rest) a w := by
  obtain ⟨_, _, _, hi⟩ := hT
  have hown := hst.own _ _ hat.mem
  have hle := hc.le
  have hs : sub'.size = sub.size := by obtain ⟨_, _, _, _, _, h⟩ := hc; exact h
  have ht : w.there b f sub'.size := fun j hj => by
    rw [cell_of_row w b (f + j) cs E _ hown, frozen_of_row w b (f + j) cs E hown]
    exact ⟨by rw [Array.getElem?_eq_getElem (by omega)]; rfl, rfl⟩
  obtain ⟨h2, h3⟩ := heap_setCells b E sub'.toList f cs w hown
  rw [hc.set] at h2
  refine wpList_plain hg fun K hK => ?_
  unfold Oper.wp execOp
  simp only [ho, hx, hy, Sem.run_bind, run_storeAt_mid (P := P) w b f T sub' ht (by rw [hn]; exact hi) h1, Sem.run_pure, Result.andThen_ok]
  have hput : a.put o.dst undef = a := by rw [hd]; rfl
  rw [Oper.upon_skip, hput]
  exact hK _ _ (h _ (hst.put hat hb h3 h2))

theorem run_opLoadMid {o : Oper} {T : TypeId} {x : Operand} {n b f : Nat} {cs sub cs' sub' : Array Value} {E : TypeId} {fr : Nat × Nat} (hst : St w0 S L w) (hT : AggT P T n) (ho : o.op = .load T x) (hx : a.eval x = .pointer (some ⟨b, f, none⟩))
    (hm : (b, .cells cs E fr) ∈ L) (hc : Part cs sub cs' sub' f) (hn : sub.size = n) : (execOp a.eval o).run P w = .ok (.value (.agg sub)) w := by
  unfold execOp
  simp only [ho, hx, Sem.run_bind, run_loadMid hT hn hc (hst.own _ _ hm), Sem.run_pure, Result.andThen_ok]
theorem ylM {T : TypeId} {x : Operand} {m b f : Nat} {cs sub cs' sub' : Array Value} {E : TypeId} {fr : Nat × Nat} {ty : TypeId} {pos : String} {af : Array Edge} {dst : Option Tmp} {g : Option (Nat × Bool)} (hT : AggT P T m)
    (hx : a.eval x = .pointer (some ⟨b, f, none⟩) := by rfl) (hm : (b, .cells cs E fr) ∈ L := by repeat (first | exact List.Mem.head _ | refine List.Mem.tail _ ?_))
    (hc : Part cs sub cs' sub' f := by first | exact wcs_at (by assumption) | exact part0 _ _ _ rfl | exact part1 _ _ _ _ (by first | rfl | exact wc_size _ _) rfl) (hn : sub.size = m := by first | rfl | exact wc_size _ _) :
    ∀ w, St w0 S L w → (execOp a.eval ⟨dst, .load T x, ty, pos, af, g⟩).run P w = .ok (.value (.agg sub)) w := fun _ hw => run_opLoadMid hw hT rfl hx hm hc hn

/-- A struct, or an array, that is built. -/
theorem kB {o : Oper} {T : TypeId} {parts : Array (Nat × Operand)} {v : Value} {args : List (Nat × Value)} (hb : ∀ w, (Instr.build T args.toArray).run P w = .ok v w) (ho : o.op = .build T parts)
    (h : wpList P ops Q rest (a.put o.dst v) w) (hargs : parts.toList.map (fun q => (q.1, a.eval q.2)) = args := by rfl) (hg : o.guard = none := by rfl) : wpList P ops Q (o :: rest) a w := by
  refine wpList_plain hg fun K hK => ?_
  have e : parts.map (fun (i, x) => (i, a.eval x)) = args.toArray := by rw [← hargs]; exact Array.toList_inj.1 (by simp)
  unfold Oper.wp execOp
  simp only [ho, e, Sem.run_bind, hb, Sem.run_pure, Result.andThen_ok]
  exact hK _ _ h
theorem yB {T : TypeId} {parts : Array (Nat × Operand)} {v : Value} {args : List (Nat × Value)} {ty : TypeId} {pos : String} {af : Array Edge} {dst : Option Tmp} {g : Option (Nat × Bool)} (hb : ∀ w, (Instr.build T args.toArray).run P w = .ok v w)
    (hargs : parts.toList.map (fun q => (q.1, a.eval q.2)) = args := by rfl) : ∀ w, (execOp a.eval ⟨dst, .build T parts, ty, pos, af, g⟩).run P w = .ok (.value v) w := fun w => by
  have e : parts.map (fun (i, x) => (i, a.eval x)) = args.toArray := by rw [← hargs]; exact Array.toList_inj.1 (by simp)
  unfold execOp
  simp only [e, Sem.run_bind, hb, Sem.run_pure, Result.andThen_ok]

/-- A slice literal of elements of many cells. -/
theorem kS (s : Nat) {o : Oper} {T e : TypeId} {len : Nat} {parts : Array (Nat × Operand)} {cells : Array Value} {args : List (Nat × Value)} (hst : St w0 S L w) (hu : SliceT P T e) (hb : P.builtSlice e len args = some cells) (hd : o.dst = some s) (ho : o.op = .buildSlice T len parts)
    (h : ∀ b w', w0.heap.size ≤ b → St w0 S ((b, .cells cells e) :: L) w' → wpList P ops Q rest (a.put o.dst (.slice (some ⟨b, 0, none⟩) len len)) w') (hargs : parts.toList.map (fun q => (q.1, a.eval q.2)) = args := by rfl) (hg : o.guard = none := by rfl) : wpList P ops Q (o :: rest) a w :=
  wl_buildSlice hst hu hg ho (by rw [← hb, ← hargs]; simp) h

end laws

theorem tb104_01234 (x0 : Int) (x1 : Int) (x2 : Int) (x3 : Int) (x4 : Int) (w : World) : (Instr.build 104 (List.toArray [(0, .int .i64 x0), (1, .int .i64 x1), (2, .int .i64 x2), (3, .int .i64 x3), (4, .int .i64 x4)])).run Tryz.prog w = .ok (.agg (#[.int .i64 x0, .int .i64 x1, .int .i64 x2, .int .i64 x3, .int .i64 x4])) w := by kernel_rfl
theorem tb26_01234 (x0 : Int) (x1 : Int) (x2 : Int) (x3 : Int) (x4 : Nat) (w : World) : (Instr.build 26 (List.toArray [(0, .int .i64 x0), (1, .int .i64 x1), (2, .int .i64 x2), (3, .int .i64 x3), (4, Wd x4)])).run Tryz.prog w = .ok (.agg (#[.int .i64 x0, .int .i64 x1, .int .i64 x2, .int .i64 x3] ++ wdc x4 ++ wdc 0)) w := by kernel_rfl
theorem tb41_012 (x0 : Nat) (x1 : Int) (x2 : Int) (w : World) : (Instr.build 41 (List.toArray [(0, Wd x0), (1, .int .i64 x1), (2, .int .i64 x2)])).run Tryz.prog w = .ok (.agg (wdc x0 ++ #[.int .i64 x1, .int .i64 x2])) w := by kernel_rfl
theorem tb41_2 (x2 : Int) (w : World) : (Instr.build 41 (List.toArray [(2, .int .i64 x2)])).run Tryz.prog w = .ok (.agg (wdc 0 ++ #[.int .i64 0, .int .i64 x2])) w := by kernel_rfl
theorem tb85_0 (x0 : Option Addr) (w : World) : (Instr.build 85 (List.toArray [(0, .pointer x0)])).run Tryz.prog w = .ok (.agg (#[.pointer x0])) w := by kernel_rfl
end Go.Proofs.YtoakmlopjeecoaaGreatDoor.Rd

namespace Go.Proofs.YtoakmlopjeecoaaGreatDoor.Rd
open Go Go.RowKit
set_option linter.unusedVariables false
set_option linter.unusedSimpArgs false
set_option maxRecDepth 100000

/-- The answer to what may not be done. -/
def badR : Array Value := #[.int .u64 0, .int .u64 0, .int .i64 0, .int .i64 1]
theorem fpu_Do_bad (u : Nat) (cs : Array Value) (y1 : cs.size = 8) (y2 : OneC cs) (hmay : Gives Tryz.prog 23 #[.agg cs] (.bool false)) : Gives Tryz.prog 15 #[.pointer (some ⟨u, 0, none⟩), .agg cs] (.agg badR) := by
  intro w0
  have hst := St.start [] w0
  go_enter Tryz.func15, Tryz.ntmps15
  go_wp2_with ((first | (go_big_skip) | (refine kf gf23 hst (hmay) rfl rfl rfl rfl ?_; clear hst; intro w hst) | (refine wl_guard (by rfl) ?_) | (refine kb 3 hst rfl rfl ?_; clear hst; intro b3 w hb3 hst) | (refine ka 4 hst tz41 rfl rfl ?_; clear hst; intro b4 w hb4 hst) | (refine kl hst ta26 rfl ?_) | (refine kB (tb41_2 _) rfl ?_) | (refine kt hst ta41 rfl rfl ?_; clear hst; intro w hst) | (refine kc hst tc3 rfl ?_) | (refine ka 5 hst tz24 rfl rfl ?_; clear hst; intro b5 w hb5 hst) | (refine kt hst ta24 rfl rfl ?_; clear hst; intro w hst) | (refine kl hst ta24 rfl ?_) | (refine kB (tb41_012 _ _ _) rfl ?_)); try simp only [pz, pn, sz, sc])
  refine bp_c rfl rfl (la hst ta41) ⟨?_, hst.keeps⟩
  rfl

end Go.Proofs.YtoakmlopjeecoaaGreatDoor.Rd
