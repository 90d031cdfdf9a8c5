/- What wide.down, Shr, Sar answer, as numbers. -/
import Derived.Test.YtefpoconpeggpaaGreatDoorL03
import Derived.Test.YtefpoconpeggpaaGreatDoorL04
namespace Go.Proofs.YtefpoconpeggpaaGreatDoor.Rd
open Go Go.RowKit
set_option linter.unusedVariables false
set_option linter.unusedSimpArgs false
set_option maxRecDepth 100000

section
variable {P : Program} {ops : Array Oper} {rest : List Oper} {Q : Exit → Act → World → Prop} {a : Act} {w w0 : World} {S : List Nat} {L : List (Nat × Obj)}

/-- T is a struct's type; its fields' types and places. -/
def FieldsT (P : Program) (T : TypeId) (fs : List (TypeId × Nat)) : Prop :=
  P.underlying T = some (.struct (P.fieldsOf T)) ∧ P.stoodInHeld T = false ∧ ((P.fieldsOf T).toList.map fun f => (f.type, f.offset)) = fs ∧ ((P.fieldsOf T).toList.all fun f => f.name != "_") = true

/-- Field by field: whether what lies there is the same. -/
inductive FEq (P : Program) (d : Nat) (xs ys : Array Value) : List (TypeId × Nat) → Bool → Prop
  | nil : FEq P d xs ys [] true
  | cons {t : TypeId} {o : Nat} {fs : List (TypeId × Nat)} {x y : Value} {r r' : Bool} (h1 : ∀ w, (part t xs o).run P w = .ok x w) (h2 : ∀ w, (part t ys o).run P w = .ok y w) (h3 : ∀ w, (Op.equalIn d t x y).run P w = .ok r w) (h : FEq P d xs ys fs r') : FEq P d xs ys ((t, o) :: fs) (r && r')

theorem FEq.run {d : Nat} {xs ys : Array Value} : ∀ (l : List Field) {r : Bool}, (l.all fun f => f.name != "_") = true → FEq P d xs ys (l.map fun f => (f.type, f.offset)) r → ∀ w, (Op.eqFields d xs ys l).run P w = .ok r w
  | [], r, _, h, w => by
    cases h
    simp [Op.eqFields]
  | f :: l, r, hn, h, w => by
    simp only [List.all_cons, Bool.and_eq_true, bne_iff_ne] at hn
    cases h with
    | cons h1 h2 h3 h4 =>
      rename_i x y r1 r2
      have ih := FEq.run l hn.2 h4 w
      simp only [Op.eqFields, hn.1, ne_eq, not_false_eq_true, if_true, Sem.run_bind, h1 w, h2 w, h3 w, Result.andThen_ok]
      cases r1
      · simp
      · simpa using ih

theorem run_equal_fields {d : Nat} {T : TypeId} {fs : List (TypeId × Nat)} {xs ys : Array Value} {r : Bool} (hT : FieldsT P T fs) (h : FEq P d xs ys fs r) (w : World) : (Op.equalIn (d + 1) T (.agg xs) (.agg ys)).run P w = .ok r w := by
  obtain ⟨h1, h2, h3, h4⟩ := hT
  rw [run_equalIn_struct w d T xs ys h1 h2]
  subst h3
  exact FEq.run _ h4 h w

theorem part_cell {e : TypeId} {cs : Array Value} {o : Nat} {v : Value} (he : CellT P e) (h : cs[o]? = some v) (w : World) : (part e cs o).run P w = .ok v w := by
  obtain ⟨d, hu, hd, hs⟩ := he
  simp [part, Sem.run_bind, run_isAgg_no d hu hd w, h]

theorem run_equal_word {T e : TypeId} {m n : Nat} (hT : FieldsT P T [(e, 0), (e, 1)]) (he : CellT P e) (hu : P.underlying e = some (.int .u64)) (hm : m < M2) (hn : n < M2) (w : World) :
    (Op.equalIn 10000 T (Wd m) (Wd n)).run P w = .ok (decide (m = n)) w := by
  have h := run_equal_fields (d := 9999) hT (.cons (part_cell he (wdc_0 m)) (part_cell he (wdc_0 n)) (fun w => run_equalIn_int w 9998 e .u64 .u64 _ _ hu) (.cons (part_cell he (wdc_1 m)) (part_cell he (wdc_1 n)) (fun w => run_equalIn_int w 9998 e .u64 .u64 _ _ hu) .nil)) w
  unfold Wd
  rw [h]
  congr 1
  rw [Bool.eq_iff_iff]
  simp only [Bool.and_true, Bool.and_eq_true, beq_iff_eq, decide_eq_true_eq]
  constructor
  · intro ⟨h1, h0⟩
    exact wdc_inj hm hn (by omega) (by omega)
  · intro e; subst e; simp

/-- Whether two words are the same. -/
theorem wl_eqlS {o : Oper} {T R e : TypeId} {x y : Operand} {m n : Nat} (hT : FieldsT P T [(e, 0), (e, 1)]) (he : CellT P e) (hu : P.underlying e = some (.int .u64)) (hq : P.eqGuardType P.depth T = false)
    (hg : o.guard = none) (ho : o.op = .binOp .eql T x y R) (hx : a.eval x = Wd m) (hy : a.eval y = Wd n) (hm : m < M2) (hn : n < M2)
    (h : wpList P ops Q rest (a.put o.dst (.bool (decide (m = n)))) w) : wpList P ops Q (o :: rest) a w := by
  have h1 : (binOp .eql T (Wd m) (Wd n)).run P w = .ok (.bool (decide (m = n))) w := by
    have e1 := run_eql_struct (P := P) w T (wdc m) (wdc n)
    have e2 := run_equal_word hT he hu hm hn w
    unfold Wd at e2 ⊢
    rw [e1, e2]
    rfl
  have h2 : (eqGuard .eql T x y (Wd m) (Wd n)).run P w = .ok () w := by
    unfold Wd; exact run_eqGuard_agg (P := P) w .eql T x y _ _ hq
  refine wpList_plain hg fun K hK => ?_
  unfold Oper.wp execOp
  simp only [ho, hx, hy, Sem.run_bind, h1, h2, Sem.run_pure, Result.andThen_ok]
  exact hK _ _ h
theorem wl_neqS {o : Oper} {T R e : TypeId} {x y : Operand} {m n : Nat} (hT : FieldsT P T [(e, 0), (e, 1)]) (he : CellT P e) (hu : P.underlying e = some (.int .u64)) (hq : P.eqGuardType P.depth T = false)
    (hg : o.guard = none) (ho : o.op = .binOp .neq T x y R) (hx : a.eval x = Wd m) (hy : a.eval y = Wd n) (hm : m < M2) (hn : n < M2)
    (h : wpList P ops Q rest (a.put o.dst (.bool (!decide (m = n)))) w) : wpList P ops Q (o :: rest) a w := by
  have h1 : (binOp .neq T (Wd m) (Wd n)).run P w = .ok (.bool (!decide (m = n))) w := by
    have e1 := run_neq_struct (P := P) w T (wdc m) (wdc n)
    have e2 := run_equal_word hT he hu hm hn w
    unfold Wd at e2 ⊢
    rw [e1, e2]
    rfl
  have h2 : (eqGuard .neq T x y (Wd m) (Wd n)).run P w = .ok () w := by
    unfold Wd; exact run_eqGuard_agg (P := P) w .neq T x y _ _ hq
  refine wpList_plain hg fun K hK => ?_
  unfold Oper.wp execOp
  simp only [ho, hx, hy, Sem.run_bind, h1, h2, Sem.run_pure, Result.andThen_ok]
  exact hK _ _ h
theorem wl_neqW {o : Oper} {T R e : TypeId} {x y : Operand} {m n : Nat} (hT : ArrT P T 8 e) (he : CellT P e) (hu : P.underlying e = some (.int .u64)) (hq : P.eqGuardType P.depth T = false)
    (hg : o.guard = none) (ho : o.op = .binOp .neq T x y R) (hx : a.eval x = W m) (hy : a.eval y = W n) (hm : m < M) (hn : n < M)
    (h : wpList P ops Q rest (a.put o.dst (.bool (!decide (m = n)))) w) : wpList P ops Q (o :: rest) a w := by
  have h1 : (binOp .neq T (W m) (W n)).run P w = .ok (.bool (!decide (m = n))) w := by
    have e1 := run_neq_struct (P := P) w T (wc 8 m) (wc 8 n)
    have e2 := run_eql_wide hT he hu m n hm hn w
    unfold W at e2 ⊢
    rw [e1, e2]
    rfl
  have h2 : (eqGuard .neq T x y (W m) (W n)).run P w = .ok () w := by
    unfold W; exact run_eqGuard_agg (P := P) w .neq T x y _ _ hq
  refine wpList_plain hg fun K hK => ?_
  unfold Oper.wp execOp
  simp only [ho, hx, hy, Sem.run_bind, h1, h2, Sem.run_pure, Result.andThen_ok]
  exact hK _ _ h
theorem kn {o : Oper} {T R e : TypeId} {x y : Operand} {m n : Nat} {c : Bool} (hT : ArrT P T 8 e) (he : CellT P e) (ho : o.op = .binOp .neq T x y R) (h : wpList P ops Q rest (a.put o.dst (.bool (!c))) w)
    (hx : a.eval x = W m := by rfl) (hy : a.eval y = W n := by first | rfl | exact W_zero.symm) (hm : m < M := by assumption) (hn : n < M := by first | assumption | decide) (hc : decide (m = n) = c := by first | assumption | rfl)
    (hu : P.underlying e = some (.int .u64) := by kernel_rfl) (hq : P.eqGuardType P.depth T = false := by kernel_rfl) (hg : o.guard = none := by rfl) : wpList P ops Q (o :: rest) a w := by
  subst hc; exact wl_neqW hT he hu hq hg ho hx hy hm hn h
theorem keS {o : Oper} {T R e : TypeId} {x y : Operand} {m n : Nat} {c : Bool} (hT : FieldsT P T [(e, 0), (e, 1)]) (he : CellT P e) (ho : o.op = .binOp .eql T x y R) (h : wpList P ops Q rest (a.put o.dst (.bool c)) w)
    (hx : a.eval x = Wd m := by rfl) (hy : a.eval y = Wd n := by first | rfl | exact Wd_zero.symm) (hm : m < M2 := by assumption) (hn : n < M2 := by first | assumption | decide) (hc : decide (m = n) = c := by first | assumption | rfl)
    (hu : P.underlying e = some (.int .u64) := by kernel_rfl) (hq : P.eqGuardType P.depth T = false := by kernel_rfl) (hg : o.guard = none := by rfl) : wpList P ops Q (o :: rest) a w := by
  subst hc; exact wl_eqlS hT he hu hq hg ho hx hy hm hn h
theorem knS {o : Oper} {T R e : TypeId} {x y : Operand} {m n : Nat} {c : Bool} (hT : FieldsT P T [(e, 0), (e, 1)]) (he : CellT P e) (ho : o.op = .binOp .neq T x y R) (h : wpList P ops Q rest (a.put o.dst (.bool (!c))) w)
    (hx : a.eval x = Wd m := by rfl) (hy : a.eval y = Wd n := by first | rfl | exact Wd_zero.symm) (hm : m < M2 := by assumption) (hn : n < M2 := by first | assumption | decide) (hc : decide (m = n) = c := by first | assumption | rfl)
    (hu : P.underlying e = some (.int .u64) := by kernel_rfl) (hq : P.eqGuardType P.depth T = false := by kernel_rfl) (hg : o.guard = none := by rfl) : wpList P ops Q (o :: rest) a w := by
  subst hc; exact wl_neqS hT he hu hq hg ho hx hy hm hn h
theorem yN {T R e : TypeId} {x y : Operand} {m n : Nat} {c : Bool} {ty : TypeId} {pos : String} {af : Array Edge} {dst : Option Tmp} {g : Option (Nat × Bool)} (hT : ArrT P T 8 e) (he : CellT P e)
    (hx : a.eval x = W m := by rfl) (hy : a.eval y = W n := by first | rfl | exact W_zero.symm) (hm : m < M := by assumption) (hn : n < M := by first | assumption | decide) (hc : decide (m = n) = c := by first | assumption | rfl)
    (hu : P.underlying e = some (.int .u64) := by kernel_rfl) (hq : P.eqGuardType P.depth T = false := by kernel_rfl) : ∀ w, (execOp a.eval ⟨dst, .binOp .neq T x y R, ty, pos, af, g⟩).run P w = .ok (.value (.bool !c)) w := fun w => by
  subst hc
  have h1 : (binOp .neq T (W m) (W n)).run P w = .ok (.bool (!decide (m = n))) w := by
    have e1 := run_neq_struct (P := P) w T (wc 8 m) (wc 8 n)
    have e2 := run_eql_wide hT he hu m n hm hn w
    unfold W at e2 ⊢
    rw [e1, e2]
    rfl
  have h2 : (eqGuard .neq T x y (W m) (W n)).run P w = .ok () w := by
    unfold W; exact run_eqGuard_agg (P := P) w .neq T x y _ _ hq
  unfold execOp
  simp only [hx, hy, Sem.run_bind, h1, h2, Sem.run_pure, Result.andThen_ok]
end
theorem tf24 : FieldsT Tryz.prog 24 [(22, 0), (22, 1)] := ⟨by kernel_rfl, by kernel_rfl, by kernel_rfl, by kernel_rfl⟩
end Go.Proofs.YtefpoconpeggpaaGreatDoor.Rd

namespace Go.Proofs.YtefpoconpeggpaaGreatDoor.Rd
open Go Go.RowKit
set_option linter.unusedVariables false
set_option linter.unusedSimpArgs false
set_option maxRecDepth 100000

theorem M_pos : 0 < M := Nat.pow_pos B_pos

/-- The number of so many limbs that a function tells. -/
def lsum (f : Nat → Nat) : Nat → Nat
  | 0 => 0
  | k + 1 => lsum f k + f k * B ^ k
theorem lsum_lt (f : Nat → Nat) (hf : ∀ i, f i < B) : ∀ k, lsum f k < B ^ k
  | 0 => by simp [lsum]
  | k + 1 => by
    have h1 := lsum_lt f hf k
    have h2 := Nat.mul_le_mul_right (B ^ k) (Nat.le_sub_one_of_lt (hf k))
    rw [Nat.sub_mul, Nat.one_mul] at h2
    have h5 : B ^ k ≤ B * B ^ k := Nat.le_mul_of_pos_left _ B_pos
    simp only [lsum]
    rw [Nat.pow_succ, Nat.mul_comm (B ^ k) B]
    omega
theorem lsum_lb (n : Nat) : ∀ k, lsum (lb n) k = n % B ^ k
  | 0 => by simp [lsum, Nat.mod_one]
  | k + 1 => by simp only [lsum]; rw [lsum_lb n k, lb_split]
theorem lsum_congr {f g : Nat → Nat} : ∀ {k : Nat}, (∀ i, i < k → f i = g i) → lsum f k = lsum g k
  | 0, _ => rfl
  | k + 1, h => by simp only [lsum]; rw [lsum_congr (fun i hi => h i (by omega)), h k (by omega)]
theorem lsum_of {f : Nat → Nat} {n : Nat} (hn : n < M) (h : ∀ i, i < 8 → f i = lb n i) : lsum f 8 = n := by
  rw [lsum_congr h, lsum_lb, ← M_eq, Nat.mod_eq_of_lt hn]

set_option maxHeartbeats 2000000 in
theorem wide_made (g : FuncId) (hg : GoF Tryz.prog g) (cap : Array Value) (f : Nat → Nat) (hf : ∀ i, f i < B) (w0 : World)
    (hgf : ∀ i w, i < 8 → Keeps [] w0 w → GivesAt Tryz.prog g ([Value.int .i64 (i : Nat)] ++ cap.toList).toArray (.int .u64 (f i : Nat)) w) :
    GivesAt Tryz.prog 75 #[.func (.func g) #[] cap] (W (lsum f 8)) w0 := by
  have hst := St.start [] w0
  have hf' := Lib.hid hf
  clear hf
  go_enter Tryz.func75, Tryz.ntmps75
  go_wp2_with ((first | (refine ka 2 hst tz44 rfl rfl ?_; clear hst; intro b2 w hb2 hst) | (refine ka 3 hst tz44 rfl rfl ?_; clear hst; intro b3 w hb3 hst)); try simp only [pz, pn, sz, sc])
  go_loopw [4, 5] (fun u i wr => ∃ k : Nat, k ≤ 8 ∧ i = .int .i64 k ∧ St w0 [] [(b3, .cells (wc 8 (lsum f k)) 44), (b2, .cells (wc 8 0) 44)] wr) (fun _ i _ => 8 - (intOf i).toNat)
  case atStart => exact ⟨0, by omega, rfl, hst⟩
  case round =>
    clear hst
    obtain ⟨k, hk, rfl, hst⟩ := hrel
    have hl1 := Lib.hid (lsum_lt f hf'.out k)
    by_cases hlt : k < 8
    · have hi0 : (0 : Int) ≤ (k : Int) := by omega
      have hi8 : (k : Int) < 8 := by omega
      have hc := fun w h => hgf k w hlt h
      have hfk := Lib.hid (hf'.out k)
      have hset := Lib.hid (wc_set 8 (lsum f k) (f k) k hl1.out hfk.out)
      go_wp2_with ((first | (refine kg hg hst (fun w hst => hc w hst.keeps) rfl rfl rfl rfl ?_; clear hst; intro w hst) | (refine ks hst tc22 rfl rfl ?_; clear hst; intro w hst; (try rw [hset.out] at hst))); try simp only [pz, pn, sz, sc])
      go_roundw
      case rel => exact ⟨k + 1, by omega, by go_num, hst⟩
      case measure => simp [intOf]; omega
    · have : k = 8 := by omega
      subst this
      go_wp2_with ((first | (refine kl hst ta44 rfl ?_) | (refine kt hst ta44 rfl rfl ?_; clear hst; intro w hst)); try simp only [pz, pn, sz, sc])
      refine bp_c rfl rfl (la hst ta44) ⟨?_, hst.keeps⟩
      rfl

theorem bits_or64 (a b : Nat) (ha : a < B) (hb : b < B) : bits .or .u64 (a : Int) (b : Int) = ((a ||| b : Nat) : Int) := bits_or_u64_nat a b (by rw [← B_val]; exact ha) (by rw [← B_val]; exact hb)
theorem mod_B (x j : Nat) : (x % B).testBit j = (decide (j < 64) && x.testBit j) := by rw [show B = 2 ^ 64 from rfl, Nat.testBit_mod_two_pow]
theorem mod_M (x j : Nat) : (x % M).testBit j = (decide (j < 512) && x.testBit j) := by
  have key : ∀ m, M = 2 ^ m → (x % M).testBit j = (decide (j < m) && x.testBit j) := fun m e => by rw [e, Nat.testBit_mod_two_pow]
  exact key (64 * 8) (by rw [M_eq, show B = 2 ^ 64 from rfl, ← Nat.pow_mul])
theorem high_bit {x : Nat} (h : x < B) {j : Nat} (hj : 64 ≤ j) : x.testBit j = false := Nat.testBit_lt_two_pow (Nat.lt_of_lt_of_le h (by rw [show B = 2 ^ 64 from rfl]; exact Nat.pow_le_pow_right (by omega) hj))
theorem M_bit {x : Nat} (h : x < M) {j : Nat} (hj : 512 ≤ j) : x.testBit j = false := by
  have := mod_M x j
  rw [Nat.mod_eq_of_lt h] at this
  rw [this]
  have : ¬ j < 512 := by omega
  simp [this]
theorem wat_bit (n : Nat) (i : Int) (y j : Nat) (hj : j < 64) (hn : n < M) : (wat n i y).testBit j = if i < 0 then false else if 8 ≤ i then y.testBit j else n.testBit (64 * i.toNat + j) := by
  unfold wat
  split
  · simp
  · split
    · rfl
    · rw [lb_testBit]; simp [hj]

theorem i64w (x : Int) (h1 : -9223372036854775808 ≤ x) (h2 : x ≤ 9223372036854775807) : IntKind.i64.wrap x = x := by
  have hs : IntKind.i64.signed = true := rfl
  have hb : (2 : Int) ^ IntKind.i64.bits = 18446744073709551616 := rfl
  have hb' : (2 : Int) ^ (IntKind.i64.bits - 1) = 9223372036854775808 := rfl
  simp only [IntKind.wrap, hs, hb, hb', Bool.true_and]
  split <;> rename_i h <;> simp at h <;> omega

/-- A limb of a number that is shifted up. -/
def shlL (a c i : Nat) : Nat := wat a ((i : Int) - (c / 64 : Nat)) 0 * 2 ^ (c % 64) % B ||| wat a ((i : Int) - (c / 64 : Nat) - 1) 0 / 2 ^ (64 - c % 64)
theorem or_B {x y : Nat} (hx : x < B) (hy : y < B) : x ||| y < B := Nat.or_lt_two_pow hx hy
theorem shlL_lt (a c i : Nat) : shlL a c i < B := or_B (Nat.mod_lt _ B_pos) (Nat.lt_of_le_of_lt (Nat.div_le_self _ _) (wat_lt _ _ _ B_pos))
theorem shl_limb (a c i : Nat) (ha : a < M) (hi : i < 8) : shlL a c i = lb (a * 2 ^ c % M) i := by
  apply Nat.eq_of_testBit_eq
  intro j
  have hr : c % 64 < 64 := Nat.mod_lt _ (by omega)
  have hq : c = 64 * (c / 64) + c % 64 := by omega
  by_cases hj : j < 64
  · rw [lb_testBit, mod_M, Nat.mul_comm a, Nat.testBit_two_pow_mul]
    unfold shlL
    rw [Nat.testBit_or, mod_B, Nat.mul_comm (wat _ _ _), Nat.testBit_two_pow_mul, Nat.testBit_div_two_pow]
    generalize c / 64 = q at *
    generalize c % 64 = r at *
    subst hq
    have e1 : decide (64 * i + j < 512) = true := by simp; omega
    rw [e1]
    simp only [hj, decide_true, Bool.true_and]
    by_cases h1 : r ≤ j
    · have h2 : (wat a ((i : Int) - q - 1) 0).testBit (j + (64 - r)) = false := by
        by_cases h3 : j + (64 - r) < 64
        · omega
        · exact high_bit (wat_lt _ _ _ B_pos) (by omega)
      rw [h2, wat_bit _ _ _ _ (by omega) ha]
      simp only [h1, decide_true, Bool.true_and, Bool.or_false]
      by_cases h4 : i < q
      · rw [if_pos (by omega)]
        have : ¬ (64 * q + r ≤ 64 * i + j) := by omega
        simp [this]
      · rw [if_neg (by omega), if_neg (by omega)]
        have : 64 * q + r ≤ 64 * i + j := by omega
        simp only [this, decide_true, Bool.true_and]
        congr 1; omega
    · have h2 : decide (r ≤ j) = false := by simpa using h1
      rw [h2]
      simp only [Bool.false_and, Bool.false_or]
      rw [wat_bit _ _ _ _ (by omega) ha]
      by_cases h4 : i < q + 1
      · rw [if_pos (by omega)]
        have : ¬ (64 * q + r ≤ 64 * i + j) := by omega
        simp [this]
      · rw [if_neg (by omega), if_neg (by omega)]
        have : 64 * q + r ≤ 64 * i + j := by omega
        simp only [this, decide_true, Bool.true_and]
        congr 1; omega
  · rw [high_bit (shlL_lt a c i) (by omega), high_bit (lb_lt _ _) (by omega)]

set_option maxHeartbeats 4000000 in
theorem wide_Shl_1 (a c i : Nat) (ha : a < M) (hc : c ≤ 512) (hi : i < 8) (b1 b2 b3 : Nat) (E1 E2 E3 : TypeId) (h12 : b2 ≠ b1) (h13 : b3 ≠ b1) (h23 : b3 ≠ b2) (w0 : World)
    (h1 : w0.heap[b1]? = some (.cells (wc 8 a) E1)) (h2 : w0.heap[b2]? = some (.cells #[.int .i64 (c / 64 : Nat)] E2)) (h3 : w0.heap[b3]? = some (.cells #[.int .i64 (c % 64 : Nat)] E3)) :
    GivesAt Tryz.prog 76 #[.int .i64 (i : Nat), .pointer (some ⟨b1, 0, none⟩), .pointer (some ⟨b2, 0, none⟩), .pointer (some ⟨b3, 0, none⟩)] (.int .u64 (shlL a c i : Nat)) w0 := by
  have hst := (((St.start [] w0).add h1 (by simp)).add h2 (by simpa using h12)).add h3 (by simp; exact ⟨h23, h13⟩)
  have hx := wide_at a ((i : Int) - (c / 64 : Nat)) 0
  have hy := wide_at a ((i : Int) - (c / 64 : Nat) - 1) 0
  have hxB := wat_lt a ((i : Int) - (c / 64 : Nat)) 0 B_pos
  have hyB := wat_lt a ((i : Int) - (c / 64 : Nat) - 1) 0 B_pos
  unfold shlL
  have hq : c / 64 ≤ 8 := by omega
  have hr : c % 64 < 64 := Nat.mod_lt _ (by omega)
  generalize c / 64 = q at *
  generalize c % 64 = r at *
  generalize wat a ((i : Int) - (q : Nat)) 0 = x at *
  generalize wat a ((i : Int) - (q : Nat) - 1) 0 = y at *
  obtain ⟨s, hs⟩ : ∃ s, s = x * 2 ^ r % B := ⟨_, rfl⟩
  obtain ⟨t, ht⟩ : ∃ t, t = y / 2 ^ (64 - r) := ⟨_, rfl⟩
  have hsB : s < B := by rw [hs]; exact Nat.mod_lt _ B_pos
  have htB : t < B := by rw [ht]; exact Nat.lt_of_le_of_lt (Nat.div_le_self _ _) hyB
  rw [← hs, ← ht]
  have F1 : IntKind.u64.wrap ((x : Int) * 2 ^ r) = (s : Int) := u64_wrap' _ (x * 2 ^ r) _ (by rw [cast_pow2]; exact (Int.natCast_mul _ _).symm) hs.symm
  have er : ((64 : Int) - (r : Int)).toNat = 64 - r := by omega
  have F2 : (y : Int) / 2 ^ (64 - r) = (t : Int) := by rw [ht, cast_pow2]; omega
  have F3 := bits_or64 s t hsB htB
  have F4 : (0 : Int) ≤ 64 - (r : Int) := by omega
  have F5 : (0 : Int) ≤ (r : Int) := by omega
  have w1 : IntKind.i64.wrap ((i : Int) - (q : Int)) = (i : Int) - q := i64w _ (by omega) (by omega)
  have w2 : IntKind.i64.wrap ((i : Int) - (q : Int) - 1) = (i : Int) - q - 1 := i64w _ (by omega) (by omega)
  have w3 : IntKind.i64.wrap (64 - (r : Int)) = ((64 - r : Nat) : Int) := by rw [i64w _ (by omega) (by omega)]; omega
  clear hs ht hsB htB hxB hyB h1 h2 h3 ha
  go_enter Tryz.func76, Tryz.ntmps76
  go_wp2_with fail
  refine wp_region_T 18  hst (by kernel_rfl) ?_; clear hst; intro w hst; (try simp only [List.length_cons, List.length_nil, Nat.reduceAdd, Array.replicate_succ, Array.replicate_zero, List.push_toArray, List.nil_append, List.cons_append])
  refine r0 1 ?_; simp only [pz, pn, sz, sc, w1, w2, w3, F1, F2, F3]
  refine r0 8 ?_; simp only [pz, pn, sz, sc, w1, w2, w3, F1, F2, F3]
  refine rl 0 rfl ?_ (by first | exact ylA ta44 | exact ylM ta44); simp only [pz, pn, sz, sc, w1, w2, w3, F1, F2, F3]
  refine rl 2 rfl ?_ (ylC tc3); simp only [pz, pn, sz, sc, w1, w2, w3, F1, F2, F3]
  refine r0 3 ?_; simp only [pz, pn, sz, sc, w1, w2, w3, F1, F2, F3]
  refine rl 5 rfl ?_ (ylC tc3); simp only [pz, pn, sz, sc, w1, w2, w3, F1, F2, F3]
  refine rl 7 rfl ?_ (by first | exact ylA ta44 | exact ylM ta44); simp only [pz, pn, sz, sc, w1, w2, w3, F1, F2, F3]
  refine rl 9 rfl ?_ (ylC tc3); simp only [pz, pn, sz, sc, w1, w2, w3, F1, F2, F3]
  refine r0 10 ?_; simp only [pz, pn, sz, sc, w1, w2, w3, F1, F2, F3]
  refine r0 11 ?_; simp only [pz, pn, sz, sc, w1, w2, w3, F1, F2, F3]
  refine rl 13 rfl ?_ (ylC tc3); simp only [pz, pn, sz, sc, w1, w2, w3, F1, F2, F3]
  refine r0 14 ?_; simp only [pz, pn, sz, sc, w1, w2, w3, F1, F2, F3]
  refine r1 4 ?_; (refine kf gf77 hst (hx) rfl rfl rfl rfl ?_; clear hst; intro w hst); (try simp only [pz, pn, sz, sc, w1, w2, w3, F1, F2, F3]); refine re ?_
  refine r0 6 ?_; simp only [pz, pn, sz, sc, w1, w2, w3, F1, F2, F3]
  refine r1 12 ?_; (refine kf gf77 hst (hy) rfl rfl rfl rfl ?_; clear hst; intro w hst); (try simp only [pz, pn, sz, sc, w1, w2, w3, F1, F2, F3]); refine re ?_
  refine r0 15 ?_; simp only [pz, pn, sz, sc, w1, w2, w3, F1, F2, F3]
  refine r0 16 ?_; simp only [pz, pn, sz, sc, w1, w2, w3, F1, F2, F3]
  refine r0 17 ?_; simp only [pz, pn, sz, sc, w1, w2, w3, F1, F2, F3]
  refine rd_ ?_
  go_wp2_with fail
  refine bp_t rfl rfl (by rfl) ⟨?_, hst.keeps⟩
  rfl

set_option maxHeartbeats 4000000 in
theorem wide_Shl (a : Nat) (n : Int) (ha : a < M) : Gives Tryz.prog 48 #[W a, .int .i64 n] (W (a * 2 ^ clampN n % M)) := by
  intro w0
  have hst := St.start [] w0
  have hcl := wide_clamp n
  have hc := clampN_le n
  generalize clampN n = c at *
  have hres : lsum (shlL a c) 8 = a * 2 ^ c % M := lsum_of (Nat.mod_lt _ M_pos) (fun i hi => shl_limb a c i ha hi)
  have hmade := fun b2 b5 b6 w (h12 : b5 ≠ b2) (h13 : b6 ≠ b2) (h23 : b6 ≠ b5) (h1 : w.heap[b2]? = some (.cells (wc 8 a) 44)) (h2 : w.heap[b5]? = some (.cells #[.int .i64 (c / 64 : Nat)] 3)) (h3 : w.heap[b6]? = some (.cells #[.int .i64 (c % 64 : Nat)] 3)) =>
    wide_made 76 gf76 #[.pointer (some ⟨b2, 0, none⟩), .pointer (some ⟨b5, 0, none⟩), .pointer (some ⟨b6, 0, none⟩)] (shlL a c) (shlL_lt a c) w
      (fun i w' hi k => wide_Shl_1 a c i ha hc hi b2 b5 b6 _ _ _ h12 h13 h23 w' (by rw [k.block _ (lt_of_some h1) (by simp)]; exact h1) (by rw [k.block _ (lt_of_some h2) (by simp)]; exact h2) (by rw [k.block _ (lt_of_some h3) (by simp)]; exact h3))
  rw [hres] at hmade
  have Q1 : (c : Int) / 64 = ((c / 64 : Nat) : Int) := by omega
  have Q2 : (c : Int) % 64 = ((c % 64 : Nat) : Int) := by omega
  have Q3 : (0 : Int) ≤ (c : Int) := by omega
  have Q5 : (c : Int).tdiv 64 = ((c / 64 : Nat) : Int) := by rw [Int.tdiv_eq_ediv_of_nonneg (by omega)]; exact Q1
  have Q6 : (c : Int).tmod 64 = ((c % 64 : Nat) : Int) := by rw [Int.tmod_eq_emod_of_nonneg (by omega)]; exact Q2
  have hq : c / 64 ≤ 8 := by omega
  have hr : c % 64 < 64 := Nat.mod_lt _ (by omega)
  have hc' := Lib.hid hc
  clear hres hc
  generalize c / 64 = q at *
  generalize c % 64 = r at *
  generalize a * 2 ^ c % M = m at *
  go_enter Tryz.func48, Tryz.ntmps48
  go_wp2_with ((first | (refine kf gf74 hst (hcl) rfl rfl rfl rfl ?_; clear hst; intro w hst) | (refine kg gf75 hst (fun w hst => hmade b2 b5 b6 w (by have q := hst.nodup; simp only [List.map_cons, List.map_nil, List.nodup_cons, List.mem_cons, List.not_mem_nil, or_false, not_or] at q; omega) (by have q := hst.nodup; simp only [List.map_cons, List.map_nil, List.nodup_cons, List.mem_cons, List.not_mem_nil, or_false, not_or] at q; omega) (by have q := hst.nodup; simp only [List.map_cons, List.map_nil, List.nodup_cons, List.mem_cons, List.not_mem_nil, or_false, not_or] at q; omega) (hst.own _ _ (by repeat (first | exact List.Mem.head _ | refine List.Mem.tail _ ?_))) (hst.own _ _ (by repeat (first | exact List.Mem.head _ | refine List.Mem.tail _ ?_))) (hst.own _ _ (by repeat (first | exact List.Mem.head _ | refine List.Mem.tail _ ?_)))) rfl rfl rfl rfl ?_; clear hst; intro w hst) | (refine kb 2 hst rfl rfl ?_; clear hst; intro b2 w hb2 hst) | (refine ka 4 hst tz44 rfl rfl ?_; clear hst; intro b4 w hb4 hst) | (refine ka 5 hst tz3 rfl rfl ?_; clear hst; intro b5 w hb5 hst) | (refine ka 6 hst tz3 rfl rfl ?_; clear hst; intro b6 w hb6 hst) | (refine ks hst tc3 rfl rfl ?_; clear hst; intro w hst) | (refine kt hst ta44 rfl rfl ?_; clear hst; intro w hst)); try simp only [pz, pn, sz, sc])
  refine bp_c rfl rfl (la hst ta44) ⟨?_, hst.keeps⟩
  rfl

end Go.Proofs.YtefpoconpeggpaaGreatDoor.Rd

namespace Go.Proofs.YtefpoconpeggpaaGreatDoor.Rd
open Go Go.RowKit
set_option linter.unusedVariables false
set_option linter.unusedSimpArgs false
set_option maxRecDepth 100000

/-- A limb of a number that is shifted down; beyond the end y. -/
def shrL (a c y i : Nat) : Nat := wat a ((i : Int) + (c / 64 : Nat)) y / 2 ^ (c % 64) ||| wat a ((i : Int) + (c / 64 : Nat) + 1) y * 2 ^ (64 - c % 64) % B
theorem shrL_lt (a c y i : Nat) (hy : y < B) : shrL a c y i < B := or_B (Nat.lt_of_le_of_lt (Nat.div_le_self _ _) (wat_lt _ _ _ hy)) (Nat.mod_lt _ B_pos)
/-- Digit by digit: beyond the 512th the one of v. -/
theorem shr_bit (a c y i j : Nat) (v : Bool) (ha : a < M) (hyB : y < B) (hy : ∀ j, j < 64 → y.testBit j = v) (hi : i < 8) (hj : j < 64) : (shrL a c y i).testBit j = if c + (64 * i + j) < 512 then a.testBit (c + (64 * i + j)) else v := by
  have hr : c % 64 < 64 := Nat.mod_lt _ (by omega)
  have hq : c = 64 * (c / 64) + c % 64 := by omega
  unfold shrL
  rw [Nat.testBit_or, mod_B, Nat.mul_comm (wat _ _ _), Nat.testBit_two_pow_mul, Nat.testBit_div_two_pow]
  generalize c / 64 = q at *
  generalize c % 64 = r at *
  subst hq
  simp only [hj, decide_true, Bool.true_and]
  by_cases h1 : j + r < 64
  · have h2 : decide (64 - r ≤ j) = false := by simp; omega
    rw [h2, wat_bit _ _ _ _ h1 ha]
    simp only [Bool.false_and, Bool.or_false]
    rw [if_neg (by omega)]
    by_cases h3 : i + q < 8
    · rw [if_neg (by omega), if_pos (by omega)]; congr 1; omega
    · rw [if_pos (by omega), if_neg (by omega), hy _ h1]
  · have h2 : decide (64 - r ≤ j) = true := by simp; omega
    rw [high_bit (wat_lt a _ y hyB) (show 64 ≤ j + r by omega), h2, wat_bit _ _ _ _ (show j - (64 - r) < 64 by omega) ha]
    simp only [Bool.false_or, Bool.true_and]
    rw [if_neg (by omega)]
    by_cases h3 : i + q + 1 < 8
    · rw [if_neg (by omega), if_pos (by omega)]; congr 1; omega
    · rw [if_pos (by omega), if_neg (by omega), hy _ (by omega)]
theorem shr_limb (a c i : Nat) (ha : a < M) (hi : i < 8) : shrL a c 0 i = lb (a / 2 ^ c) i := by
  apply Nat.eq_of_testBit_eq
  intro j
  by_cases hj : j < 64
  · rw [shr_bit a c 0 i j false ha B_pos (fun _ _ => by simp) hi hj, lb_testBit, Nat.testBit_div_two_pow]
    simp only [hj, decide_true, Bool.true_and]
    rw [Nat.add_comm (64 * i + j)]
    split
    · rfl
    · rw [M_bit ha (by omega)]
  · rw [high_bit (shrL_lt a c 0 i B_pos) (by omega), high_bit (lb_lt _ _) (by omega)]

/-- A number with a sign, shifted down. -/
def sarN (a c : Nat) : Nat := if minusB a then M - (1 + (M - (1 + a)) / 2 ^ c) else a / 2 ^ c
theorem M_two : M = 2 ^ 512 := by
  have : ∀ m, 64 * 8 = m → M = 2 ^ m := fun m e => by rw [← e, M_eq, show B = 2 ^ 64 from rfl, ← Nat.pow_mul]
  exact this 512 (by omega)
theorem compl_bit {x : Nat} (hx : x < M) (j : Nat) : (M - (1 + x)).testBit j = (decide (j < 512) && !x.testBit j) := by
  have key : ∀ m, M = 2 ^ m → (M - (1 + x)).testBit j = (decide (j < m) && !x.testBit j) := fun m e => by
    rw [e] at hx ⊢
    rw [Nat.add_comm]
    exact Nat.testBit_two_pow_sub_succ hx j
  exact key 512 M_two
theorem sarN_lt (a c : Nat) (ha : a < M) : sarN a c < M := by
  unfold sarN
  split
  · exact Nat.sub_lt M_pos (Nat.lt_of_lt_of_le Nat.zero_lt_one (Nat.le_add_right _ _))
  · exact Nat.lt_of_le_of_lt (Nat.div_le_self _ _) ha
theorem ones_bit (j : Nat) (h : j < 64) : (18446744073709551615 : Nat).testBit j = true := by
  have := Nat.testBit_two_pow_sub_one 64 j
  simpa [h] using this
theorem sar_limb (a c i : Nat) (ha : a < M) (hi : i < 8) (hm : minusB a = true) : shrL a c 18446744073709551615 i = lb (sarN a c) i := by
  have hx : (M - (1 + a)) / 2 ^ c < M := Nat.lt_of_le_of_lt (Nat.div_le_self _ _) (by have := M_pos; omega)
  apply Nat.eq_of_testBit_eq
  intro j
  by_cases hj : j < 64
  · rw [shr_bit a c _ i j true ha (by rw [B_val]; omega) ones_bit hi hj, lb_testBit]
    unfold sarN
    rw [if_pos hm, compl_bit hx, Nat.testBit_div_two_pow, compl_bit ha]
    have e1 : decide (64 * i + j < 512) = true := by simp; omega
    simp only [hj, e1, decide_true, Bool.true_and]
    rw [Nat.add_comm (64 * i + j)]
    split
    · rename_i h; simp [h]
    · rename_i h; simp [h]
  · rw [high_bit (shrL_lt a c _ i (by rw [B_val]; omega)) (by omega), high_bit (lb_lt _ _) (by omega)]

set_option maxHeartbeats 4000000 in
theorem wide_down_1 (a c y i : Nat) (ha : a < M) (hc : c ≤ 512) (hy : y < B) (hi : i < 8) (b1 b2 b3 b4 : Nat) (E1 E2 E3 E4 : TypeId) (hn : [b4, b2, b3, b1].Nodup) (w0 : World)
    (h1 : w0.heap[b1]? = some (.cells (wc 8 a) E1)) (h2 : w0.heap[b2]? = some (.cells #[.int .i64 (c / 64 : Nat)] E2)) (h3 : w0.heap[b3]? = some (.cells #[.int .u64 y] E3)) (h4 : w0.heap[b4]? = some (.cells #[.int .i64 (c % 64 : Nat)] E4)) :
    GivesAt Tryz.prog 135 #[.int .i64 (i : Nat), .pointer (some ⟨b1, 0, none⟩), .pointer (some ⟨b2, 0, none⟩), .pointer (some ⟨b3, 0, none⟩), .pointer (some ⟨b4, 0, none⟩)] (.int .u64 (shrL a c y i : Nat)) w0 := by
  have hst : St w0 [] [(b4, .cells #[.int .i64 (c % 64 : Nat)] E4), (b2, .cells #[.int .i64 (c / 64 : Nat)] E2), (b3, .cells #[.int .u64 y] E3), (b1, .cells (wc 8 a) E1)] w0 :=
    ⟨Keeps.refl _ _, fun b o h => by simp only [List.mem_cons, Prod.mk.injEq, List.not_mem_nil, or_false] at h; rcases h with ⟨rfl, rfl⟩ | ⟨rfl, rfl⟩ | ⟨rfl, rfl⟩ | ⟨rfl, rfl⟩ <;> assumption, hn⟩
  have hx := wide_at a ((i : Int) + (c / 64 : Nat)) y
  have hz := wide_at a ((i : Int) + (c / 64 : Nat) + 1) y
  have hxB := wat_lt a ((i : Int) + (c / 64 : Nat)) y hy
  have hzB := wat_lt a ((i : Int) + (c / 64 : Nat) + 1) y hy
  unfold shrL
  have hq : c / 64 ≤ 8 := by omega
  have hr : c % 64 < 64 := Nat.mod_lt _ (by omega)
  generalize c / 64 = q at *
  generalize c % 64 = r at *
  generalize wat a ((i : Int) + (q : Nat)) y = x at *
  generalize wat a ((i : Int) + (q : Nat) + 1) y = z at *
  obtain ⟨s, hs⟩ : ∃ s, s = x / 2 ^ r := ⟨_, rfl⟩
  obtain ⟨t, ht⟩ : ∃ t, t = z * 2 ^ (64 - r) % B := ⟨_, rfl⟩
  have hsB : s < B := by rw [hs]; exact Nat.lt_of_le_of_lt (Nat.div_le_self _ _) hxB
  have htB : t < B := by rw [ht]; exact Nat.mod_lt _ B_pos
  rw [← hs, ← ht]
  have F1 : IntKind.u64.wrap ((z : Int) * 2 ^ (64 - r)) = (t : Int) := u64_wrap' _ (z * 2 ^ (64 - r)) _ (by rw [cast_pow2]; exact (Int.natCast_mul _ _).symm) ht.symm
  have F2 : (x : Int) / 2 ^ r = (s : Int) := by rw [hs, cast_pow2]; omega
  have F3 := bits_or64 s t hsB htB
  have w1 : IntKind.i64.wrap ((i : Int) + (q : Int)) = (i : Int) + q := i64w _ (by omega) (by omega)
  have w2 : IntKind.i64.wrap ((i : Int) + (q : Int) + 1) = (i : Int) + q + 1 := i64w _ (by omega) (by omega)
  have w3 : IntKind.i64.wrap (64 - (r : Int)) = ((64 - r : Nat) : Int) := by rw [i64w _ (by omega) (by omega)]; omega
  clear hs ht hsB htB hxB hzB h1 h2 h3 h4 ha hn hy
  go_enter Tryz.func135, Tryz.ntmps135
  go_wp2_with fail
  refine wp_region_T 20  hst (by kernel_rfl) ?_; clear hst; intro w hst; (try simp only [List.length_cons, List.length_nil, Nat.reduceAdd, Array.replicate_succ, Array.replicate_zero, List.push_toArray, List.nil_append, List.cons_append])
  refine r0 1 ?_; simp only [pz, pn, sz, sc, w1, w2, w3, F1, F2, F3]
  refine r0 9 ?_; simp only [pz, pn, sz, sc, w1, w2, w3, F1, F2, F3]
  refine rl 0 rfl ?_ (by first | exact ylA ta44 | exact ylM ta44); simp only [pz, pn, sz, sc, w1, w2, w3, F1, F2, F3]
  refine rl 2 rfl ?_ (ylC tc3); simp only [pz, pn, sz, sc, w1, w2, w3, F1, F2, F3]
  refine r0 3 ?_; simp only [pz, pn, sz, sc, w1, w2, w3, F1, F2, F3]
  refine rl 4 rfl ?_ (ylC tc22); simp only [pz, pn, sz, sc, w1, w2, w3, F1, F2, F3]
  refine rl 6 rfl ?_ (ylC tc3); simp only [pz, pn, sz, sc, w1, w2, w3, F1, F2, F3]
  refine rl 8 rfl ?_ (by first | exact ylA ta44 | exact ylM ta44); simp only [pz, pn, sz, sc, w1, w2, w3, F1, F2, F3]
  refine rl 10 rfl ?_ (ylC tc3); simp only [pz, pn, sz, sc, w1, w2, w3, F1, F2, F3]
  refine r0 11 ?_; simp only [pz, pn, sz, sc, w1, w2, w3, F1, F2, F3]
  refine r0 12 ?_; simp only [pz, pn, sz, sc, w1, w2, w3, F1, F2, F3]
  refine rl 13 rfl ?_ (ylC tc22); simp only [pz, pn, sz, sc, w1, w2, w3, F1, F2, F3]
  refine rl 15 rfl ?_ (ylC tc3); simp only [pz, pn, sz, sc, w1, w2, w3, F1, F2, F3]
  refine r0 16 ?_; simp only [pz, pn, sz, sc, w1, w2, w3, F1, F2, F3]
  refine r1 5 ?_; (refine kf gf77 hst (hx) rfl rfl rfl rfl ?_; clear hst; intro w hst); (try simp only [pz, pn, sz, sc, w1, w2, w3, F1, F2, F3]); refine re ?_
  refine r0 7 ?_; simp only [pz, pn, sz, sc, w1, w2, w3, F1, F2, F3]
  refine r1 14 ?_; (refine kf gf77 hst (hz) rfl rfl rfl rfl ?_; clear hst; intro w hst); (try simp only [pz, pn, sz, sc, w1, w2, w3, F1, F2, F3]); refine re ?_
  refine r0 17 ?_; simp only [pz, pn, sz, sc, w1, w2, w3, F1, F2, F3]
  refine r0 18 ?_; simp only [pz, pn, sz, sc, w1, w2, w3, F1, F2, F3]
  refine r0 19 ?_; simp only [pz, pn, sz, sc, w1, w2, w3, F1, F2, F3]
  refine rd_ ?_
  go_wp2_with fail
  refine bp_t rfl rfl (by rfl) ⟨?_, hst.keeps⟩
  rfl

theorem Keeps.at {w w' : World} {b : Nat} {o : Obj} (k : Keeps [] w w') (h : w.heap[b]? = some o) : w'.heap[b]? = some o := by rw [k.block _ (lt_of_some h) (by simp)]; exact h

set_option maxHeartbeats 4000000 in
theorem wide_down (a c y m : Nat) (ha : a < M) (hc : c ≤ 512) (hy : y < B) (hm : lsum (shrL a c y) 8 = m) : Gives Tryz.prog 108 #[W a, .int .i64 c, .int .u64 y] (W m) := by
  intro w0
  have hst := St.start [] w0
  have hmade := fun b3 b7 b5 b8 w (hn : [b8, b7, b5, b3].Nodup) (h1 : w.heap[b3]? = some (.cells (wc 8 a) 44)) (h2 : w.heap[b7]? = some (.cells #[.int .i64 (c / 64 : Nat)] 3)) (h3 : w.heap[b5]? = some (.cells #[.int .u64 y] 22)) (h4 : w.heap[b8]? = some (.cells #[.int .i64 (c % 64 : Nat)] 3)) =>
    wide_made 135 gf135 #[.pointer (some ⟨b3, 0, none⟩), .pointer (some ⟨b7, 0, none⟩), .pointer (some ⟨b5, 0, none⟩), .pointer (some ⟨b8, 0, none⟩)] (shrL a c y) (fun i => shrL_lt a c y i hy) w
      (fun i w' hi k => wide_down_1 a c y i ha hc hy hi b3 b7 b5 b8 _ _ _ _ hn w' (k.at h1) (k.at h2) (k.at h3) (k.at h4))
  rw [hm] at hmade
  have Q1 : (c : Int) / 64 = ((c / 64 : Nat) : Int) := by omega
  have Q2 : (c : Int) % 64 = ((c % 64 : Nat) : Int) := by omega
  have Q3 : (0 : Int) ≤ (c : Int) := by omega
  have Q5 : (c : Int).tdiv 64 = ((c / 64 : Nat) : Int) := by rw [Int.tdiv_eq_ediv_of_nonneg (by omega)]; exact Q1
  have Q6 : (c : Int).tmod 64 = ((c % 64 : Nat) : Int) := by rw [Int.tmod_eq_emod_of_nonneg (by omega)]; exact Q2
  have hq : c / 64 ≤ 8 := by omega
  have hr : c % 64 < 64 := Nat.mod_lt _ (by omega)
  clear hm hc
  generalize c / 64 = q at *
  generalize c % 64 = r at *
  go_enter Tryz.func108, Tryz.ntmps108
  go_wp2_with ((first | (refine kg gf75 hst (fun w hst => hmade b3 b7 b5 b8 w (List.Nodup.sublist (by repeat (first | exact List.Sublist.refl _ | exact List.nil_sublist _ | refine List.Sublist.cons_cons _ ?_ | refine List.Sublist.cons _ ?_)) hst.nodup) (hst.own _ _ (by repeat (first | exact List.Mem.head _ | refine List.Mem.tail _ ?_))) (hst.own _ _ (by repeat (first | exact List.Mem.head _ | refine List.Mem.tail _ ?_))) (hst.own _ _ (by repeat (first | exact List.Mem.head _ | refine List.Mem.tail _ ?_))) (hst.own _ _ (by repeat (first | exact List.Mem.head _ | refine List.Mem.tail _ ?_)))) rfl rfl rfl rfl ?_; clear hst; intro w hst) | (refine kb 3 hst rfl rfl ?_; clear hst; intro b3 w hb3 hst) | (refine kb 5 hst rfl rfl ?_; clear hst; intro b5 w hb5 hst) | (refine ka 6 hst tz44 rfl rfl ?_; clear hst; intro b6 w hb6 hst) | (refine ka 7 hst tz3 rfl rfl ?_; clear hst; intro b7 w hb7 hst) | (refine ka 8 hst tz3 rfl rfl ?_; clear hst; intro b8 w hb8 hst) | (refine ks hst tc3 rfl rfl ?_; clear hst; intro w hst) | (refine kt hst ta44 rfl rfl ?_; clear hst; intro w hst)); try simp only [pz, pn, sz, sc])
  refine bp_c rfl rfl (la hst ta44) ⟨?_, hst.keeps⟩
  rfl

theorem wide_Shr (a : Nat) (n : Int) (ha : a < M) : Gives Tryz.prog 87 #[W a, .int .i64 n] (.tuple #[W (a / 2 ^ clampN n), .bool (!decide (a / 2 ^ clampN n * 2 ^ clampN n = a))]) := by
  intro w0
  have hst := St.start [] w0
  have hcl := wide_clamp n
  have hc := clampN_le n
  have hdown := wide_down a (clampN n) 0 (a / 2 ^ clampN n) ha hc B_pos (lsum_of (Nat.lt_of_le_of_lt (Nat.div_le_self _ _) ha) (fun i hi => shr_limb a (clampN n) i ha hi))
  have hlt : a / 2 ^ clampN n < M := Nat.lt_of_le_of_lt (Nat.div_le_self _ _) ha
  have hshl := wide_Shl (a / 2 ^ clampN n) (clampN n : Nat) hlt
  rw [clampN_nat _ hc] at hshl
  have hle : a / 2 ^ clampN n * 2 ^ clampN n < M := Nat.lt_of_le_of_lt (Nat.div_mul_le_self _ _) ha
  rw [Nat.mod_eq_of_lt hle] at hshl
  generalize a / 2 ^ clampN n * 2 ^ clampN n = s at *
  generalize a / 2 ^ clampN n = q at *
  generalize clampN n = c at *
  have hd : ∃ d, decide (s = a) = d := ⟨_, rfl⟩
  obtain ⟨d, hd⟩ := hd
  rw [hd]
  go_enter Tryz.func87, Tryz.ntmps87
  go_wp2_with ((first | (refine kf gf74 hst (hcl) rfl rfl rfl rfl ?_; clear hst; intro w hst) | (refine kf gf108 hst (hdown) rfl rfl rfl rfl ?_; clear hst; intro w hst) | (refine kb 2 hst rfl rfl ?_; clear hst; intro b2 w hb2 hst) | (refine ka 4 hst tz44 rfl rfl ?_; clear hst; intro b4 w hb4 hst) | (refine kl hst ta44 rfl ?_) | (refine ka 6 hst tz44 rfl rfl ?_; clear hst; intro b6 w hb6 hst) | (refine kt hst ta44 rfl rfl ?_; clear hst; intro w hst)); try simp only [pz, pn, sz, sc])
  refine wp_region_TV 8 [(b6, .cells (wc 8 q) 44), (b2, .cells (wc 8 a) 44)] hst (by kernel_rfl) ?_; clear hst; intro w hst; (try simp only [List.length_cons, List.length_nil, Nat.reduceAdd, Array.replicate_succ, Array.replicate_zero, List.push_toArray, List.nil_append, List.cons_append])
  refine r0 2 ?_; simp only [pz, pn, sz, sc]
  refine rl 0 rfl ?_ (by first | exact ylA ta44 | exact ylM ta44); simp only [pz, pn, sz, sc]
  refine rl 1 rfl ?_ (by first | exact ylA ta44 | exact ylM ta44); simp only [pz, pn, sz, sc]
  refine rl 4 rfl ?_ (by first | exact ylA ta44 | exact ylM ta44); simp only [pz, pn, sz, sc]
  refine r1 3 ?_; (refine kf gf48 hst (hshl) rfl rfl rfl rfl ?_; clear hst; intro w hst); (try simp only [pz, pn, sz, sc]); refine re ?_
  refine r0 5 ?_ (hy := yN tr44 tc22); simp only [pz, pn, sz, sc]
  refine r1 6 ?_; (refine kt hst ta44 rfl rfl ?_; clear hst; intro w hst); (try simp only [pz, pn, sz, sc]); refine re ?_
  refine r0 7 ?_; simp only [pz, pn, sz, sc]
  refine rd_ ?_
  go_wp2_with fail
  refine bp_ct rfl rfl (la hst ta44) (by rfl) ⟨?_, hst.keeps⟩
  rfl

theorem wide_Sar (a : Nat) (n : Int) (ha : a < M) : Gives Tryz.prog 232 #[W a, .int .i64 n] (W (sarN a (clampN n))) := by
  intro w0
  have hst := St.start [] w0
  have hcl := wide_clamp n
  have hc := clampN_le n
  have hmi := wide_Minus a ha
  generalize clampN n = c at *
  have hlt := sarN_lt a c ha
  by_cases h : minusB a = true
  · have hdown := wide_down a c 18446744073709551615 (sarN a c) ha hc (by rw [B_val]; omega) (lsum_of hlt (fun i hi => sar_limb a c i ha hi h))
    rw [h] at hmi
    clear h
    go_enter Tryz.func232, Tryz.ntmps232
    go_wp2_with ((first | (refine kf gf228 hst (hmi) rfl rfl rfl rfl ?_; clear hst; intro w hst) | (refine kb 2 hst rfl rfl ?_; clear hst; intro b2 w hb2 hst) | (refine ka 4 hst tz44 rfl rfl ?_; clear hst; intro b4 w hb4 hst) | (refine kl hst ta44 rfl ?_)); try simp only [pz, pn, sz, sc])
    refine wp_region_T 4  hst (by kernel_rfl) ?_; clear hst; intro w hst; (try simp only [List.length_cons, List.length_nil, Nat.reduceAdd, Array.replicate_succ, Array.replicate_zero, List.push_toArray, List.nil_append, List.cons_append])
    refine r0 1 ?_; simp only [pz, pn, sz, sc]
    refine rl 0 rfl ?_ (by first | exact ylA ta44 | exact ylM ta44); simp only [pz, pn, sz, sc]
    refine r1 2 ?_; (refine kf gf74 hst (hcl) rfl rfl rfl rfl ?_; clear hst; intro w hst); (try simp only [pz, pn, sz, sc]); refine re ?_
    refine r1 3 ?_; (refine kf gf108 hst (hdown) rfl rfl rfl rfl ?_; clear hst; intro w hst); (try simp only [pz, pn, sz, sc]); refine re ?_
    refine r1 4 ?_; (refine kt hst ta44 rfl rfl ?_; clear hst; intro w hst); (try simp only [pz, pn, sz, sc]); refine re ?_
    refine rd_ ?_
    go_wp2_with fail
    refine bp_c rfl rfl (la hst ta44) ⟨?_, hst.keeps⟩
    rfl
  · have e : sarN a c = a / 2 ^ c := by unfold sarN; rw [if_neg h]
    have hdown := wide_down a c 0 (sarN a c) ha hc B_pos (lsum_of hlt (fun i hi => by rw [e]; exact shr_limb a c i ha hi))
    have h' : minusB a = false := by simpa using h
    rw [h'] at hmi
    clear h h' e
    go_enter Tryz.func232, Tryz.ntmps232
    go_wp2_with ((first | (refine kf gf228 hst (hmi) rfl rfl rfl rfl ?_; clear hst; intro w hst) | (refine kb 2 hst rfl rfl ?_; clear hst; intro b2 w hb2 hst) | (refine ka 4 hst tz44 rfl rfl ?_; clear hst; intro b4 w hb4 hst) | (refine kl hst ta44 rfl ?_)); try simp only [pz, pn, sz, sc])
    refine wp_region_T 4  hst (by kernel_rfl) ?_; clear hst; intro w hst; (try simp only [List.length_cons, List.length_nil, Nat.reduceAdd, Array.replicate_succ, Array.replicate_zero, List.push_toArray, List.nil_append, List.cons_append])
    refine r0 1 ?_; simp only [pz, pn, sz, sc]
    refine rl 0 rfl ?_ (by first | exact ylA ta44 | exact ylM ta44); simp only [pz, pn, sz, sc]
    refine r1 2 ?_; (refine kf gf74 hst (hcl) rfl rfl rfl rfl ?_; clear hst; intro w hst); (try simp only [pz, pn, sz, sc]); refine re ?_
    refine r1 3 ?_; (refine kf gf108 hst (hdown) rfl rfl rfl rfl ?_; clear hst; intro w hst); (try simp only [pz, pn, sz, sc]); refine re ?_
    refine r1 4 ?_; (refine kt hst ta44 rfl rfl ?_; clear hst; intro w hst); (try simp only [pz, pn, sz, sc]); refine re ?_
    refine rd_ ?_
    go_wp2_with fail
    refine bp_c rfl rfl (la hst ta44) ⟨?_, hst.keeps⟩
    rfl

end Go.Proofs.YtefpoconpeggpaaGreatDoor.Rd
