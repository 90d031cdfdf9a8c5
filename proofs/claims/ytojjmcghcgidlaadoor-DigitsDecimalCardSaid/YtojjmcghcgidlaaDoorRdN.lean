/- More walk laws: a string's byte, bytes to a string, a call that writes the last block; what digits.text answers. -/
import Derived.Test.YtojjmcghcgidlaaDoorRdM
import Derived.Test.YtojjmcghcgidlaaDoorRdL
import Derived.Test.YtojjmcghcgidlaaDoorRdJ
namespace Go.Proofs.YtojjmcghcgidlaaDoor.Rd
open Go Go.RowKit
set_option linter.unusedVariables false
set_option linter.unusedSimpArgs false
set_option maxRecDepth 100000

section
variable {P : Program} {ops : Array Oper} {rest : List Oper} {Q : Exit → Act → World → Prop} {a : Act} {w w0 : World} {S : List Nat} {L pre Lg : List (Nat × Obj)}

/-- A byte of a string. -/
theorem wl_strindex {o : Oper} {T : TypeId} {x y : Operand} {j : Nat} {k : IntKind} {s : ByteArray} {u : UInt8} (hT : P.underlying T = some .string) (hg : o.guard = none) (ho : o.op = .index T x y)
    (hx : a.eval x = .string s) (hy : a.eval y = .int k (j : Int)) (hv : s.data[j]? = some u)
    (h : wpList P ops Q rest (a.put o.dst (.int .u8 (u.toNat : Nat))) w) : wpList P ops Q (o :: rest) a w := by
  have hj : j < s.data.size := by
    rcases Nat.lt_or_ge j s.data.size with h | h
    · exact h
    · rw [Array.getElem?_eq_none h] at hv; cases hv
  have h1 : (Instr.index T (.string s) (.int k (j : Int))).run P w = .ok (.int .u8 (u.toNat : Nat)) w := by
    rw [run_index_string w T s k _ hT, dif_pos ⟨by omega, by have : s.size = s.data.size := rfl; omega⟩]
    have : s[(j : Int).toNat]'(by have : s.size = s.data.size := rfl; simp; omega) = u := by
      have e2 : s.data[j]? = some s.data[j] := Array.getElem?_eq_getElem hj
      rw [e2] at hv
      simp only [Int.toNat_natCast]
      exact Option.some.inj hv
    rw [this]
  refine wpList_plain hg fun K hK => ?_
  unfold Oper.wp execOp
  simp only [ho, hx, hy, Sem.run_bind, h1, Sem.run_pure, Result.andThen_ok]
  exact hK _ _ h

/-- Bytes, made a string. -/
theorem wl_string {o : Oper} {src dst e : TypeId} {x : Operand} {b cap m : Nat} {cs : Array Value} {E : TypeId} {fr : Nat × Nat} (l : List UInt8) (hst : St w0 S L w) (hs : SliceT P src e) (he : P.underlying e = some (.int .u8)) (hd : P.underlying dst = some .string)
    (hg : o.guard = none) (ho : o.op = .convert src dst x) (hlen : l.length = m) (hx : a.eval x = .slice (some ⟨b, 0, none⟩) m cap) (hm : (b, .cells cs E fr) ∈ L) (hl : ∀ j (hj : j < l.length), cs[j]? = some (.int .u8 (l[j].toNat : Nat)))
    (h : wpList P ops Q rest (a.put o.dst (.string ⟨l.toArray⟩)) w) : wpList P ops Q (o :: rest) a w := by
  subst hlen
  have h1 := run_convert_bytes_back (P := P) w src dst e ⟨b, 0, none⟩ cap l hs he hd (fun j hj => by
    rw [add_lit', Nat.zero_add, cell_of_row w b j cs E _ (hst.own _ _ hm)]
    exact hl j hj)
  refine wpList_plain hg fun K hK => ?_
  unfold Oper.wp execOp
  simp only [ho, hx, Sem.run_bind, h1, Sem.run_pure, Result.andThen_ok]
  exact hK _ _ h

/-- A call of a function that writes the last block, to something of which R holds. -/
theorem wl_callE {o : Oper} {c : Call} {x : Operand} {f : FuncId} {cap : Array Value} {args : List Value} {v : Value} {b : Nat} {ob : Obj} {R : Obj → Prop} (hf : GoF P f) (hst : St w0 S L w)
    (hc : ∀ w, w.heap[b]? = some ob → Calls P f args.toArray w fun e w' => e = .returned v ∧ Keeps [b] w w' ∧ ∃ ob', w'.heap[b]? = some ob' ∧ R ob')
    (hg : o.guard = none) (ho : o.op = .call c) (hcal : c.callee = .value x) (hx : a.eval x = .func (.func f) #[] cap) (hargs : c.args.toList.map a.eval ++ cap.toList = args)
    (htl : Tl [(b, ob)] L pre) (hb : w0.heap.size ≤ b ∨ b ∈ S)
    (h : ∀ ob' w', R ob' → St w0 S (pre ++ [(b, ob')]) w' → wpList P ops Q rest (a.put o.dst v) w') : wpList P ops Q (o :: rest) a w := by
  have hL := htl.eq
  subst hL
  refine wpList_plain hg fun K hK => ?_
  unfold Oper.wp
  rw [run_execOp_call ho hcal hx, args_eq hargs, run_callFunc_go hf, Oper.upon_enter]
  refine (hc w (hst.own _ _ (by simp))).mono fun e w'' hh => ?_
  obtain ⟨rfl, hk, ob', hnew, hR⟩ := hh
  exact hK _ _ (h ob' _ hR (hst.put (At.snoc pre b ob ob') hb hk hnew))
end

/-- The sign of a digit. -/
def hexs : ByteArray := ⟨#[48, 49, 50, 51, 52, 53, 54, 55, 56, 57, 97, 98, 99, 100, 101, 102]⟩
def hexu (d : Nat) : UInt8 := hexs.data.getD d 0
theorem hexs_get (d : Nat) (h : d < 16) : hexs.data[d]? = some (hexu d) := by
  unfold hexu
  rw [Array.getD_eq_getD_getElem?, Array.getElem?_eq_getElem (show d < hexs.data.size from h)]
  rfl

/-- n has k digits, by d. -/
def NumDig (d n k : Nat) : Prop := 1 ≤ k ∧ n / d ^ k = 0 ∧ (k = 1 ∨ n / d ^ (k - 1) ≠ 0)
theorem NumDig.unique {d n k k' : Nat} (hd : 2 ≤ d) (h : NumDig d n k) (h' : NumDig d n k') : k = k' := by
  have key : ∀ a b, NumDig d n a → NumDig d n b → ¬ a < b := by
    intro a b ⟨h1, h2, h3⟩ ⟨h4, h5, h6⟩ hlt
    rcases h6 with h | h
    · omega
    · apply h
      have hlt2 : n < d ^ a := (Nat.div_eq_zero_iff_lt (Nat.pow_pos (by omega))).1 h2
      exact Nat.div_eq_of_lt (Nat.lt_of_lt_of_le hlt2 (Nat.pow_le_pow_right (by omega) (by omega)))
  have := key k k' h h'
  have := key k' k h' h
  omega
/-- The text of n by d, of k digits. -/
def txt (d n k : Nat) : List UInt8 := (List.range k).map fun j => hexu (n / d ^ (k - 1 - j) % d)
/-- The cells of its digits, the lowest first. -/
def dcs (d n k : Nat) : List Value := (List.range k).map fun j => .int .u8 ((hexu (n / d ^ j % d)).toNat : Nat)
/-- A digit's sign, as a number. -/
def dgt (d n j : Nat) : Nat := (hexu (n / d ^ j % d)).toNat
theorem dcs_succ (d n k : Nat) : dcs d n (k + 1) = dcs d n k ++ [.int .u8 ((hexu (n / d ^ k % d)).toNat : Nat)] := by
  simp [dcs, List.range_succ]
theorem dcs_get (d n k j : Nat) (h : j < k) : (dcs d n k)[j]? = some (.int .u8 ((hexu (n / d ^ j % d)).toNat : Nat)) := by
  simp [dcs, h]
theorem txt_get (d n k j : Nat) (h : j < (txt d n k).length) : (txt d n k)[j] = hexu (n / d ^ (k - 1 - j) % d) := by
  simp [txt]
theorem txt_length (d n k : Nat) : (txt d n k).length = k := by simp [txt]
theorem pow_bound {d n k : Nat} (hd : 2 ≤ d) (hn : n < M) (h : n / d ^ k ≠ 0) : k < 512 := by
  rcases Nat.lt_or_ge k 512 with h' | h'
  · exact h'
  · exfalso
    apply h
    apply Nat.div_eq_of_lt
    have key : ∀ m, M = 2 ^ m → m ≤ k → n < d ^ k := fun m e h => Nat.lt_of_lt_of_le (by rw [← e]; exact hn) (Nat.le_trans (Nat.pow_le_pow_right Nat.two_pos h) (Nat.pow_le_pow_left hd k))
    exact key (64 * 8) (by rw [M_eq, show B = 2 ^ 64 from rfl, ← Nat.pow_mul]) h'
theorem numDig_exists (d n : Nat) (hd : 2 ≤ d) : ∃ k, NumDig d n k := by
  have key : ∀ k, n / d ^ k = 0 → ∃ k, NumDig d n k := by
    intro k
    induction k with
    | zero =>
      intro h
      simp at h
      exact ⟨1, by omega, by simp [h], .inl rfl⟩
    | succ k ih =>
      intro h
      by_cases h0 : n / d ^ k = 0
      · exact ih h0
      · exact ⟨k + 1, by omega, h, .inr (by simpa using h0)⟩
  refine key n (Nat.div_eq_of_lt ?_)
  exact Nat.lt_of_lt_of_le Nat.lt_two_pow_self (Nat.pow_le_pow_left hd n)

end Go.Proofs.YtojjmcghcgidlaaDoor.Rd
