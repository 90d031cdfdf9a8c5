/- Numbers of digits by 2^32, as cells that are set; what the reference's Mul answers. -/
import Derived.Test.YtojjmcghcgidlaaDoorRdX
import Derived.Laws.MakeOwn
namespace Go.Proofs.YtojjmcghcgidlaaDoor.Rd
open Go Go.RowKit
set_option linter.unusedVariables false
set_option linter.unusedSimpArgs false
set_option maxRecDepth 100000

/-- The cells of a number of k digits. -/
def uw (k n : Nat) : Array Value := (Array.range k).map fun i => .int .u32 (dg n i : Nat)
@[simp] theorem uw_size (k n : Nat) : (uw k n).size = k := by simp [uw]
theorem uw_get (k n i : Nat) (h : i < k) : (uw k n)[i]? = some (.int .u32 (dg n i : Nat)) := by simp [uw, h]

theorem dg_add_at (n d k i : Nat) (hn : n < C ^ k) (hd : d < C) : dg (n + d * C ^ k) i = if i = k then d else dg n i := by
  unfold dg
  rcases Nat.lt_trichotomy i k with h | h | h
  · rw [if_neg (by omega)]
    have e : C ^ k = C ^ i * (C * C ^ (k - i - 1)) := by
      rw [← Nat.pow_succ', ← Nat.pow_add]; congr 1; omega
    rw [e, show n + d * (C ^ i * (C * C ^ (k - i - 1))) = n + C ^ i * (C * (d * C ^ (k - i - 1))) by
      rw [Nat.mul_left_comm, Nat.mul_left_comm d], Nat.add_mul_div_left _ _ (Cp_pos i), Nat.add_mul_mod_self_left]
  · subst h
    rw [if_pos rfl, Nat.add_mul_div_right _ _ (Cp_pos i), Nat.div_eq_of_lt hn, Nat.zero_add, Nat.mod_eq_of_lt hd]
  · rw [if_neg (by omega)]
    have h1 : n + d * C ^ k < C ^ (k + 1) := by
      rw [Nat.pow_succ, Nat.mul_comm (C ^ k)]
      calc n + d * C ^ k < C ^ k + d * C ^ k := by omega
        _ = (d + 1) * C ^ k := by rw [Nat.add_mul, Nat.one_mul, Nat.add_comm]
        _ ≤ C * C ^ k := Nat.mul_le_mul_right _ hd
    have h2 : C ^ (k + 1) ≤ C ^ i := Nat.pow_le_pow_right C_pos h
    have h3 : C ^ k ≤ C ^ i := Nat.pow_le_pow_right C_pos (by omega)
    rw [Nat.div_eq_of_lt (by omega), Nat.div_eq_of_lt (by omega)]

theorem dg_part (n o len i : Nat) (h : i < len) : dg (n / C ^ o % C ^ len) i = dg n (o + i) := by
  unfold dg
  have e : C ^ len = C ^ i * C ^ (len - i) := by rw [← Nat.pow_add]; congr 1; omega
  rw [e, Nat.mod_mul_right_div_self, Nat.div_div_eq_div_mul, ← Nat.pow_add, Nat.mod_mod_of_dvd]
  exact ⟨C ^ (len - i - 1), by rw [← Nat.pow_succ']; congr 1; omega⟩

/-- A number with another digit at a place. -/
def setC (m j d : Nat) : Nat := m % C ^ j + d * C ^ j + m / C ^ (j + 1) * C ^ (j + 1)

theorem setC_eq (m j d : Nat) : setC m j d + dg m j * C ^ j = m + d * C ^ j := by
  have h1 := Nat.div_add_mod m (C ^ (j + 1))
  have h2 := dg_split m j
  unfold setC
  rw [Nat.mul_comm] at h1
  omega

theorem dg_setC (m j d i : Nat) (hd : d < C) : dg (setC m j d) i = if i = j then d else dg m i := by
  have hlo : m % C ^ j < C ^ j := Nat.mod_lt _ (Cp_pos j)
  have hlow : m % C ^ j + d * C ^ j < C ^ (j + 1) := by
    rw [Nat.pow_succ, Nat.mul_comm (C ^ j)]
    have : (d + 1) * C ^ j ≤ C * C ^ j := Nat.mul_le_mul_right _ hd
    rw [Nat.add_mul, Nat.one_mul] at this
    omega
  unfold setC
  rcases Nat.lt_or_ge j i with h | h
  · rw [if_neg (by omega)]
    unfold dg
    have e : C ^ i = C ^ (j + 1) * C ^ (i - (j + 1)) := by rw [← Nat.pow_add]; congr 1; omega
    rw [e, ← Nat.div_div_eq_div_mul, ← Nat.div_div_eq_div_mul, Nat.add_mul_div_right _ _ (Cp_pos (j + 1)), Nat.div_eq_of_lt hlow, Nat.zero_add]
  · have e : m / C ^ (j + 1) * C ^ (j + 1) = C ^ i * (C * (m / C ^ (j + 1) * C ^ (j - i))) := by
      have : C ^ (j + 1) = C ^ i * (C * C ^ (j - i)) := by rw [← Nat.pow_succ', ← Nat.pow_add]; congr 1; omega
      rw [Nat.mul_comm (m / C ^ (j + 1)) (C ^ (j - i)), ← Nat.mul_assoc C, ← Nat.mul_assoc (C ^ i), ← this, Nat.mul_comm]
    have h2 : dg (m % C ^ j + d * C ^ j + m / C ^ (j + 1) * C ^ (j + 1)) i = dg (m % C ^ j + d * C ^ j) i := by
      unfold dg
      rw [e, Nat.add_mul_div_left _ _ (Cp_pos i), Nat.add_mul_mod_self_left]
    rw [h2, dg_add_at _ _ _ _ hlo hd]
    by_cases hij : i = j
    · rw [if_pos hij, if_pos hij]
    · rw [if_neg hij, if_neg hij]
      have := dg_part m 0 j i (by omega)
      simpa using this

theorem uw_setC (k m j d : Nat) (hd : d < C) : (uw k m).setIfInBounds j (.int .u32 (d : Nat)) = uw k (setC m j d) := by
  apply Array.ext_getElem?
  intro i
  rw [Array.getElem?_setIfInBounds]
  by_cases hk : i < k
  · rw [uw_get k _ i hk, uw_get k _ i hk, dg_setC m j d i hd, uw_size]
    by_cases h : j = i
    · subst h; simp [hk]
    · rw [if_neg h, if_neg (by omega)]
  · have e1 : (uw k m)[i]? = none := Array.getElem?_eq_none (by simp; omega)
    have e2 : (uw k (setC m j d))[i]? = none := Array.getElem?_eq_none (by simp; omega)
    rw [e1, e2, uw_size]
    split
    · rename_i h; subst h; rw [if_neg hk]
    · rfl

theorem setC_lt (m j d k : Nat) (hm : m < C ^ k) (hd : d < C) (hj : j < k) : setC m j d < C ^ k := by
  have h : setC m j d % C ^ k = setC m j d := by
    have : setC m j d / C ^ k = 0 := by
      have e : C ^ k = C ^ (j + 1) * C ^ (k - (j + 1)) := by rw [← Nat.pow_add]; congr 1; omega
      have hlow : m % C ^ j + d * C ^ j < C ^ (j + 1) := by
        have hlo : m % C ^ j < C ^ j := Nat.mod_lt _ (Cp_pos j)
        rw [Nat.pow_succ, Nat.mul_comm (C ^ j)]
        have : (d + 1) * C ^ j ≤ C * C ^ j := Nat.mul_le_mul_right _ hd
        rw [Nat.add_mul, Nat.one_mul] at this
        omega
      unfold setC
      rw [e, ← Nat.div_div_eq_div_mul, Nat.add_mul_div_right _ _ (Cp_pos (j + 1)), Nat.div_eq_of_lt hlow, Nat.zero_add, Nat.div_div_eq_div_mul, ← e]
      exact Nat.div_eq_of_lt hm
    rw [Nat.mod_eq_of_lt]
    exact (Nat.div_eq_zero_iff_lt (Cp_pos k)).1 this
  rw [← h]
  exact Nat.mod_lt _ (Cp_pos k)


section
variable {P : Program} {ops : Array Oper} {rest : List Oper} {Q : Exit → Act → World → Prop} {a : Act} {w w0 : World} {S : List Nat} {L : List (Nat × Obj)}
theorem run_opLoadOld {o : Oper} {T : TypeId} {x : Operand} {b i : Nat} {cs : Array Value} {E : TypeId} {fr : Nat × Nat} {v : Value} (hk : Keeps [] w0 w) (hT : CellT P T) (ho : o.op = .load T x) (hx : a.eval x = .pointer (some ⟨b, i, none⟩))
    (hb : w0.heap[b]? = some (.cells cs E fr)) (hv : cs[i]? = some v) : (execOp a.eval o).run P w = .ok (.value v) w := by
  have hb' : w.heap[b]? = some (.cells cs E fr) := by rw [hk.block b (lt_of_some hb) (by simp)]; exact hb
  unfold execOp
  simp only [ho, hx, Sem.run_bind, run_loadCell hT hb' hv, Sem.run_pure, Result.andThen_ok]
/-- make, of elements of one cell. -/
theorem wl_make {o : Oper} {T e : TypeId} {x y : Operand} {z : Value} {n bytes : Nat} {cs : Array Value} (hst : St w0 S L w) (hT : SliceT P T e) (he : ElemT P e 1 z) (hby : BytesT P e bytes) (hg : o.guard = none) (ho : o.op = .makeSlice T x y)
    (hx : a.eval x = .int .i64 (n : Int)) (hy : a.eval y = .int .i64 (n : Int)) (hcs : madeCells z.cells n = cs) (hroom : bytes * n ≤ 281474976710656) (hn : n ≤ 9223372036854775807)
    (h : ∀ b w', w0.heap.size ≤ b → St w0 S ((b, .cells cs e) :: L) w' → wpList P ops Q rest (a.put o.dst (.slice (some ⟨b, 0, none⟩) n n)) w') : wpList P ops Q (o :: rest) a w := by
  obtain ⟨i, hi, hisz, hz⟩ := he
  have hby' : i.bytes = bytes := by simpa [BytesT, hi] using hby
  have hr := run_make (P := P) w T e i z hT hi hz .i64 .i64 n n (by omega) (by omega) (by rw [hby']; have : ((bytes * n : Nat) : Int) ≤ 281474976710656 := by omega
                                                                                          rwa [Int.natCast_mul] at this) (by omega)
  simp only [Int.toNat_natCast, hisz, Nat.mul_one, hcs] at hr
  refine wpList_plain hg fun K hK => ?_
  unfold Oper.wp execOp
  simp only [ho, hx, hy, Sem.run_bind, hr, Sem.run_pure, Result.andThen_ok]
  exact hK _ _ (h _ _ hst.keeps.size (hst.alloc _))
end

theorem made_u32 (n : Nat) : madeCells #[.int .u32 0] n = uw n 0 := by
  unfold madeCells uw
  apply Array.ext
  · simp
  · intro i h1 h2
    simp [dg, Nat.mod_one]

/-- A slice of a block of digits. -/
theorem big_of_uw {w0 : World} {L : List (Nat × Obj)} {g l n : Nat} {E : TypeId} (hn : n < C ^ l) (hl : l ≤ 1000000) (hg : w0.heap.size ≤ g) (hm : (g, .cells (uw l n) E (0, 0)) ∈ L) :
    (∀ S w, St w0 S L w → BigAt w (.slice (some ⟨g, 0, none⟩) l l) l n) ∧ BigIn w0.heap.size [(g, .cells (uw l n) E (0, 0))] (.slice (some ⟨g, 0, none⟩) (dl n) l) n := by
  have hd : dl n ≤ l := dl_le.2 hn
  exact ⟨fun S w hst => ⟨hn, hl, _, l, rfl, Nat.le_refl _, fun _ => ⟨g, _, E, rfl, hst.own _ _ hm, fun j hj => uw_get l n j hj⟩⟩, by simpa using hg, by simp, by omega, _, l, rfl, hd, fun _ => ⟨g, _, E, rfl, by simp, fun j hj => uw_get l n j (by omega)⟩⟩

/-- A step of a product's carry. -/
theorem mul_step (m j c x y : Nat) (hc : c < C) (hx : x < C) (hy : y < C) :
    c + dg m j + x * y < C * C ∧ (c + dg m j + x * y) / C < C ∧ setC m j ((c + dg m j + x * y) % C) + (c + dg m j + x * y) / C * C ^ (j + 1) = m + c * C ^ j + x * y * C ^ j := by
  have hd := dg_lt m j
  have h := setC_eq m j ((c + dg m j + x * y) % C)
  have hlt : c + dg m j + x * y < C * C := by
    have h1 : x * y ≤ (C - 1) * (C - 1) := Nat.mul_le_mul (by omega) (by omega)
    have h2 : (C - 1) * (C - 1) + (C - 1) + (C - 1) < C * C := by decide
    omega
  have e := Nat.div_add_mod (c + dg m j + x * y) C
  refine ⟨hlt, (Nat.div_lt_iff_lt_mul C_pos).2 hlt, ?_⟩
  generalize (c + dg m j + x * y) / C = q at *
  generalize (c + dg m j + x * y) % C = r at *
  have e2 : (C * q + r) * C ^ j = (c + dg m j + x * y) * C ^ j := by rw [e]
  rw [Nat.add_mul, Nat.add_mul, Nat.add_mul] at e2
  have e3 : q * C ^ (j + 1) = C * q * C ^ j := by rw [Nat.pow_succ', ← Nat.mul_assoc, Nat.mul_comm q]
  omega

end Go.Proofs.YtojjmcghcgidlaaDoor.Rd
