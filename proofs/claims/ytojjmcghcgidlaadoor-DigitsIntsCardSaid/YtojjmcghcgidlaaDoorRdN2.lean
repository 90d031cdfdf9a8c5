/- Whether two arrays of words are the same. -/
import Derived.Test.YtojjmcghcgidlaaDoorRdE
import Derived.ChangeKeysEq
namespace Go.Proofs.YtojjmcghcgidlaaDoor.Rd
open Go Go.RowKit
set_option linter.unusedVariables false
set_option linter.unusedSimpArgs false
set_option maxRecDepth 100000

theorem run_eqItems_cells {P : Program} {e : TypeId} {k : IntKind} (he : CellT P e) (hu : P.underlying e = some (.int k)) (d : Nat) (xs ys : Array Value) (f g : Nat → Nat) (w : World) :
    ∀ is : List Nat, (∀ j ∈ is, xs[j]? = some (.int k (f j : Nat)) ∧ ys[j]? = some (.int k (g j : Nat))) → (Op.eqItems (d + 1) e 1 xs ys is).run P w = .ok (is.all fun j => f j == g j) w
  | [], _ => by simp [Op.eqItems]
  | j :: is, h => by
    obtain ⟨d', hu', hd, hs⟩ := he
    have hj := h j List.mem_cons_self
    have ih := run_eqItems_cells ⟨d', hu', hd, hs⟩ hu d xs ys f g w is (fun j hj => h j (List.mem_cons_of_mem _ hj))
    have p1 : (part e xs (j * 1)).run P w = .ok (.int k (f j : Nat)) w := by
      rw [Nat.mul_one]; simp [part, Sem.run_bind, run_isAgg_no d' hu' hd w, hj.1]
    have p2 : (part e ys (j * 1)).run P w = .ok (.int k (g j : Nat)) w := by
      rw [Nat.mul_one]; simp [part, Sem.run_bind, run_isAgg_no d' hu' hd w, hj.2]
    have p3 := run_equalIn_int w d e k k (f j : Nat) (g j : Nat) hu
    simp only [Op.eqItems, Sem.run_bind, p1, p2, p3, Result.andThen_ok, List.all_cons]
    have e1 : (((f j : Nat) : Int) == ((g j : Nat) : Int)) = (f j == g j) := by
      rw [Bool.eq_iff_iff]; simp only [beq_iff_eq]; omega
    rw [e1]
    cases hq : f j == g j
    · simp
    · simpa using ih

theorem all_lb (a b k : Nat) (ha : a < B ^ k) (hb : b < B ^ k) : ((List.range k).all fun j => lb a j == lb b j) = decide (a = b) := by
  rw [Bool.eq_iff_iff]
  simp only [List.all_eq_true, List.mem_range, beq_iff_eq, decide_eq_true_eq]
  constructor
  · intro h
    have := lb_inj h
    rwa [Nat.mod_eq_of_lt ha, Nat.mod_eq_of_lt hb] at this
  · intro h; subst h; intros; rfl

section
variable {P : Program} {ops : Array Oper} {rest : List Oper} {Q : Exit → Act → World → Prop} {a : Act} {w w0 : World} {S : List Nat} {L pre Lg : List (Nat × Obj)}

theorem run_eql_wide {T e : TypeId} (hT : ArrT P T 8 e) (he : CellT P e) (hu : P.underlying e = some (.int .u64)) (m n : Nat) (hm : m < M) (hn : n < M) (w : World) :
    (Op.equalIn 10000 T (W m) (W n)).run P w = .ok (decide (m = n)) w := by
  have hk : P.cellsOf e = 1 := by
    obtain ⟨d', hu', hd, hs⟩ := he
    unfold Program.cellsOf
    rw [hs]
    rfl
  have hinf : ∃ i, P.info? e = some i := by
    obtain ⟨d', hu', hd, hs⟩ := he
    cases hq : P.info? e with
    | none => simp [hq] at hs
    | some i => exact ⟨i, rfl⟩
  obtain ⟨i, hi⟩ := hinf
  have := run_equalIn_array w 9999 (wc 8 m) (wc 8 n) (show P.underlying T = some (.array 8 e) from hT) hi
  rw [hk] at this
  unfold W
  rw [this, run_eqItems_cells he hu 9998 (wc 8 m) (wc 8 n) (lb m) (lb n) w (List.range 8) (fun j hj => ⟨wc_get _ _ _ (List.mem_range.1 hj), wc_get _ _ _ (List.mem_range.1 hj)⟩)]
  rw [all_lb m n 8 hm hn]

/-- Whether two wides are the same. -/
theorem wl_eqlW {o : Oper} {T R e : TypeId} {x y : Operand} {m n : Nat} (hT : ArrT P T 8 e) (he : CellT P e) (hu : P.underlying e = some (.int .u64)) (hq : P.eqGuardType P.depth T = false)
    (hg : o.guard = none) (ho : o.op = .binOp .eql T x y R) (hx : a.eval x = W m) (hy : a.eval y = W n) (hm : m < M) (hn : n < M)
    (h : wpList P ops Q rest (a.put o.dst (.bool (decide (m = n)))) w) : wpList P ops Q (o :: rest) a w := by
  have h1 : (binOp .eql T (W m) (W n)).run P w = .ok (.bool (decide (m = n))) w := by
    have e1 := run_eql_struct (P := P) w T (wc 8 m) (wc 8 n)
    have e2 := run_eql_wide hT he hu m n hm hn w
    unfold W at e2 ⊢
    rw [e1, e2]
    rfl
  have h2 : (eqGuard .eql T x y (W m) (W n)).run P w = .ok () w := by
    unfold W; exact run_eqGuard_agg (P := P) w .eql T x y _ _ hq
  refine wpList_plain hg fun K hK => ?_
  unfold Oper.wp execOp
  simp only [ho, hx, hy, Sem.run_bind, h1, h2, Sem.run_pure, Result.andThen_ok]
  exact hK _ _ h
end
end Go.Proofs.YtojjmcghcgidlaaDoor.Rd
