/- Whether two structs are the same. -/
import Derived.Test.YtojjmcghcgidlaaGreatDoorRfA
namespace Go.Proofs.YtojjmcghcgidlaaGreatDoor.Rd
open Go Go.RowKit
set_option linter.unusedVariables false
set_option linter.unusedSimpArgs false
set_option maxRecDepth 100000

section
variable {P : Program} {ops : Array Oper} {rest : List Oper} {Q : Exit → Act → World → Prop} {a : Act} {w w0 : World} {S : List Nat} {L : List (Nat × Obj)}

/-- T is a struct's type; its fields' types and places. -/
def FieldsT (P : Program) (T : TypeId) (fs : List (TypeId × Nat)) : Prop :=
  P.underlying T = some (.struct (P.fieldsOf T)) ∧ P.stoodInHeld T = false ∧ ((P.fieldsOf T).toList.map fun f => (f.type, f.offset)) = fs ∧ ((P.fieldsOf T).toList.all fun f => f.name != "_") = true

/-- Field by field: whether what lies there is the same. -/
inductive FEq (P : Program) (d : Nat) (xs ys : Array Value) : List (TypeId × Nat) → Bool → Prop
  | nil : FEq P d xs ys [] true
  | cons {t : TypeId} {o : Nat} {fs : List (TypeId × Nat)} {x y : Value} {r r' : Bool} (h1 : ∀ w, (part t xs o).run P w = .ok x w) (h2 : ∀ w, (part t ys o).run P w = .ok y w) (h3 : ∀ w, (Op.equalIn d t x y).run P w = .ok r w) (h : FEq P d xs ys fs r') : FEq P d xs ys ((t, o) :: fs) (r && r')

theorem FEq.run {d : Nat} {xs ys : Array Value} : ∀ (l : List Field) {r : Bool}, (l.all fun f => f.name != "_") = true → FEq P d xs ys (l.map fun f => (f.type, f.offset)) r → ∀ w, (Op.eqFields d xs ys l).run P w = .ok r w
  | [], r, _, h, w => by
    cases h
    simp [Op.eqFields]
  | f :: l, r, hn, h, w => by
    simp only [List.all_cons, Bool.and_eq_true, bne_iff_ne] at hn
    cases h with
    | cons h1 h2 h3 h4 =>
      rename_i x y r1 r2
      have ih := FEq.run l hn.2 h4 w
      simp only [Op.eqFields, hn.1, ne_eq, not_false_eq_true, if_true, Sem.run_bind, h1 w, h2 w, h3 w, Result.andThen_ok]
      cases r1
      · simp
      · simpa using ih

theorem run_equal_fields {d : Nat} {T : TypeId} {fs : List (TypeId × Nat)} {xs ys : Array Value} {r : Bool} (hT : FieldsT P T fs) (h : FEq P d xs ys fs r) (w : World) : (Op.equalIn (d + 1) T (.agg xs) (.agg ys)).run P w = .ok r w := by
  obtain ⟨h1, h2, h3, h4⟩ := hT
  rw [run_equalIn_struct w d T xs ys h1 h2]
  subst h3
  exact FEq.run _ h4 h w

theorem part_cell {e : TypeId} {cs : Array Value} {o : Nat} {v : Value} (he : CellT P e) (h : cs[o]? = some v) (w : World) : (part e cs o).run P w = .ok v w := by
  obtain ⟨d, hu, hd, hs⟩ := he
  simp [part, Sem.run_bind, run_isAgg_no d hu hd w, h]

theorem run_equal_word {T e : TypeId} {m n : Nat} (hT : FieldsT P T [(e, 0), (e, 1)]) (he : CellT P e) (hu : P.underlying e = some (.int .u64)) (hm : m < M2) (hn : n < M2) (w : World) :
    (Op.equalIn 10000 T (Wd m) (Wd n)).run P w = .ok (decide (m = n)) w := by
  have h := run_equal_fields (d := 9999) hT (.cons (part_cell he (wdc_0 m)) (part_cell he (wdc_0 n)) (fun w => run_equalIn_int w 9998 e .u64 .u64 _ _ hu) (.cons (part_cell he (wdc_1 m)) (part_cell he (wdc_1 n)) (fun w => run_equalIn_int w 9998 e .u64 .u64 _ _ hu) .nil)) w
  unfold Wd
  rw [h]
  congr 1
  rw [Bool.eq_iff_iff]
  simp only [Bool.and_true, Bool.and_eq_true, beq_iff_eq, decide_eq_true_eq]
  constructor
  · intro ⟨h1, h0⟩
    exact wdc_inj hm hn (by omega) (by omega)
  · intro e; subst e; simp

/-- Whether two words are the same. -/
theorem wl_eqlS {o : Oper} {T R e : TypeId} {x y : Operand} {m n : Nat} (hT : FieldsT P T [(e, 0), (e, 1)]) (he : CellT P e) (hu : P.underlying e = some (.int .u64)) (hq : P.eqGuardType P.depth T = false)
    (hg : o.guard = none) (ho : o.op = .binOp .eql T x y R) (hx : a.eval x = Wd m) (hy : a.eval y = Wd n) (hm : m < M2) (hn : n < M2)
    (h : wpList P ops Q rest (a.put o.dst (.bool (decide (m = n)))) w) : wpList P ops Q (o :: rest) a w := by
  have h1 : (binOp .eql T (Wd m) (Wd n)).run P w = .ok (.bool (decide (m = n))) w := by
    have e1 := run_eql_struct (P := P) w T (wdc m) (wdc n)
    have e2 := run_equal_word hT he hu hm hn w
    unfold Wd at e2 ⊢
    rw [e1, e2]
    rfl
  have h2 : (eqGuard .eql T x y (Wd m) (Wd n)).run P w = .ok () w := by
    unfold Wd; exact run_eqGuard_agg (P := P) w .eql T x y _ _ hq
  refine wpList_plain hg fun K hK => ?_
  unfold Oper.wp execOp
  simp only [ho, hx, hy, Sem.run_bind, h1, h2, Sem.run_pure, Result.andThen_ok]
  exact hK _ _ h
theorem wl_neqS {o : Oper} {T R e : TypeId} {x y : Operand} {m n : Nat} (hT : FieldsT P T [(e, 0), (e, 1)]) (he : CellT P e) (hu : P.underlying e = some (.int .u64)) (hq : P.eqGuardType P.depth T = false)
    (hg : o.guard = none) (ho : o.op = .binOp .neq T x y R) (hx : a.eval x = Wd m) (hy : a.eval y = Wd n) (hm : m < M2) (hn : n < M2)
    (h : wpList P ops Q rest (a.put o.dst (.bool (!decide (m = n)))) w) : wpList P ops Q (o :: rest) a w := by
  have h1 : (binOp .neq T (Wd m) (Wd n)).run P w = .ok (.bool (!decide (m = n))) w := by
    have e1 := run_neq_struct (P := P) w T (wdc m) (wdc n)
    have e2 := run_equal_word hT he hu hm hn w
    unfold Wd at e2 ⊢
    rw [e1, e2]
    rfl
  have h2 : (eqGuard .neq T x y (Wd m) (Wd n)).run P w = .ok () w := by
    unfold Wd; exact run_eqGuard_agg (P := P) w .neq T x y _ _ hq
  refine wpList_plain hg fun K hK => ?_
  unfold Oper.wp execOp
  simp only [ho, hx, hy, Sem.run_bind, h1, h2, Sem.run_pure, Result.andThen_ok]
  exact hK _ _ h
theorem wl_neqW {o : Oper} {T R e : TypeId} {x y : Operand} {m n : Nat} (hT : ArrT P T 8 e) (he : CellT P e) (hu : P.underlying e = some (.int .u64)) (hq : P.eqGuardType P.depth T = false)
    (hg : o.guard = none) (ho : o.op = .binOp .neq T x y R) (hx : a.eval x = W m) (hy : a.eval y = W n) (hm : m < M) (hn : n < M)
    (h : wpList P ops Q rest (a.put o.dst (.bool (!decide (m = n)))) w) : wpList P ops Q (o :: rest) a w := by
  have h1 : (binOp .neq T (W m) (W n)).run P w = .ok (.bool (!decide (m = n))) w := by
    have e1 := run_neq_struct (P := P) w T (wc 8 m) (wc 8 n)
    have e2 := run_eql_wide hT he hu m n hm hn w
    unfold W at e2 ⊢
    rw [e1, e2]
    rfl
  have h2 : (eqGuard .neq T x y (W m) (W n)).run P w = .ok () w := by
    unfold W; exact run_eqGuard_agg (P := P) w .neq T x y _ _ hq
  refine wpList_plain hg fun K hK => ?_
  unfold Oper.wp execOp
  simp only [ho, hx, hy, Sem.run_bind, h1, h2, Sem.run_pure, Result.andThen_ok]
  exact hK _ _ h
end
theorem tf24 : FieldsT Tryz.prog 24 [(22, 0), (22, 1)] := ⟨by kernel_rfl, by kernel_rfl, by kernel_rfl, by kernel_rfl⟩
end Go.Proofs.YtojjmcghcgidlaaGreatDoor.Rd
