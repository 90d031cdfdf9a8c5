/- Numbers of the reference that come of a call; what Add answers. -/
import Derived.Test.YtojjmcghcgidlaaDoorRdW
import Derived.Test.YtojjmcghcgidlaaDoorRdK0
namespace Go.Proofs.YtojjmcghcgidlaaDoor.Rd
open Go Go.RowKit
set_option linter.unusedVariables false
set_option linter.unusedSimpArgs false
set_option maxRecDepth 100000

/-- v holds n, without noughts at the end, in blocks of Lg, all from s on. -/
def BigIn (s : Nat) (Lg : List (Nat × Obj)) (v : Value) (n : Nat) : Prop :=
  (∀ x ∈ Lg, s ≤ x.1) ∧ (Lg.map Prod.fst).Nodup ∧ dl n ≤ 1000000 ∧ ∃ a cap, v = .slice a (dl n) cap ∧ dl n ≤ cap ∧ (0 < dl n → ∃ g cur E, a = some ⟨g, 0, none⟩ ∧ (g, .cells cur E (0, 0)) ∈ Lg ∧ ∀ j, j < dl n → cur[j]? = some (.int .u32 (dg n j : Nat)))
theorem BigIn.at {s : Nat} {Lg : List (Nat × Obj)} {v : Value} {n : Nat} (h : BigIn s Lg v n) {w0 w : World} {S : List Nat} {L : List (Nat × Obj)} (hst : St w0 S L w) (hs : ∀ x ∈ Lg, x ∈ L) : BigAt w v (dl n) n := by
  obtain ⟨_, _, hl, a, cap, h1, h2, h3⟩ := h
  refine ⟨dl_lt n, hl, a, cap, h1, h2, fun h0 => ?_⟩
  obtain ⟨g, cur, E, h4, h5, h6⟩ := h3 h0
  exact ⟨g, cur, E, h4, hst.own _ _ (hs _ h5), h6⟩

def PostB (w0 : World) (n : Nat) (e : Ending) (w' : World) : Prop := ∃ v Lg, e = .returned v ∧ Keeps [] w0 w' ∧ BigIn w0.heap.size Lg v n ∧ ∀ b o, (b, o) ∈ Lg → w'.heap[b]? = some o
def GivesB (P : Program) (f : FuncId) (args : Array Value) (n : Nat) (w0 : World) : Prop := Calls P f args w0 (PostB w0 n)
theorem PostB.of {w0 w : World} {n : Nat} {v : Value} {Lg L : List (Nat × Obj)} (hst : St w0 [] L w) (hb : BigIn w0.heap.size Lg v n) (hs : ∀ x ∈ Lg, x ∈ L) : PostB w0 n (.returned v) w := ⟨v, Lg, rfl, hst.keeps, hb, fun b o h => hst.own b o (hs _ h)⟩

theorem St.more {w0 w w' : World} {S : List Nat} {L Lg : List (Nat × Obj)} (h : St w0 S L w) (k : Keeps [] w w') (h1 : ∀ x ∈ Lg, w.heap.size ≤ x.1) (h2 : (Lg.map Prod.fst).Nodup) (h3 : ∀ b o, (b, o) ∈ Lg → w'.heap[b]? = some o) : St w0 S (L ++ Lg) w' := by
  have hk := h.keep k
  refine ⟨hk.keeps, fun b o hm => ?_, ?_⟩
  · rcases List.mem_append.1 hm with h' | h'
    · exact hk.own _ _ h'
    · exact h3 _ _ h'
  · rw [List.map_append]
    refine List.nodup_append.2 ⟨h.nodup, h2, ?_⟩
    intro b hb b' hb' e
    subst e
    obtain ⟨x, hx, rfl⟩ := List.mem_map.1 hb
    obtain ⟨y, hy, e⟩ := List.mem_map.1 hb'
    have := h.lt (b := x.1) (o := x.2) hx
    have := h1 y hy
    rw [e] at this
    omega

section
variable {P : Program} {ops : Array Oper} {rest : List Oper} {Q : Exit → Act → World → Prop} {a : Act} {w w0 : World} {S : List Nat} {L : List (Nat × Obj)}
theorem wl_callB {o : Oper} {c : Call} {x : Operand} {f : FuncId} {cap : Array Value} {args : List Value} {n : Nat} (hf : GoF P f) (hst : St w0 S L w) (hc : ∀ w, St w0 S L w → GivesB P f args.toArray n w)
    (hg : o.guard = none) (ho : o.op = .call c) (hcal : c.callee = .value x) (hx : a.eval x = .func (.func f) #[] cap) (hargs : c.args.toList.map a.eval ++ cap.toList = args)
    (h : ∀ v Lg w', BigIn w0.heap.size Lg v n → St w0 S (L ++ Lg) w' → wpList P ops Q rest (a.put o.dst v) w') : wpList P ops Q (o :: rest) a w := by
  refine wpList_plain hg fun K hK => ?_
  unfold Oper.wp
  rw [run_execOp_call ho hcal hx, args_eq hargs, run_callFunc_go hf, Oper.upon_enter]
  refine (hc w hst).mono fun e w'' hh => ?_
  obtain ⟨v, Lg, rfl, hk, hb, hown⟩ := hh
  exact hK _ _ (h v Lg w'' ⟨fun x hx => Nat.le_trans hst.keeps.size (hb.1 x hx), hb.2⟩ (hst.more hk hb.1 hb.2.1 hown))
end

/-- The cells of k digits. -/
def uc (k n : Nat) : List Value := (List.range k).map fun j => .int .u32 (dg n j : Nat)
theorem uc_zero (n : Nat) : uc 0 n = [] := rfl
theorem uc_length (k n : Nat) : (uc k n).length = k := by simp [uc]
theorem uc_get (k n j : Nat) (h : j < k) : (uc k n)[j]? = some (.int .u32 (dg n j : Nat)) := by simp [uc, h]
theorem dg_low (n d k j : Nat) (h : j < k) : dg (n + d * C ^ k) j = dg n j := by
  unfold dg
  have e : d * C ^ k = C ^ j * (C * (d * C ^ (k - j - 1))) := by
    have : C ^ k = C ^ j * (C * C ^ (k - j - 1)) := by rw [← Nat.pow_succ', ← Nat.pow_add]; congr 1; omega
    rw [this, Nat.mul_left_comm, Nat.mul_left_comm d]
  rw [e, Nat.add_mul_div_left _ _ (Cp_pos j), Nat.add_mul_mod_self_left]
theorem dg_at (n d k : Nat) (hn : n < C ^ k) (hd : d < C) : dg (n + d * C ^ k) k = d := by
  unfold dg
  rw [Nat.add_mul_div_right _ _ (Cp_pos k), Nat.div_eq_of_lt hn, Nat.zero_add, Nat.mod_eq_of_lt hd]
theorem uc_snoc (n d k : Nat) (hn : n < C ^ k) (hd : d < C) : uc k n ++ [.int .u32 (d : Nat)] = uc (k + 1) (n + d * C ^ k) := by
  unfold uc
  rw [List.range_succ, List.map_append]
  congr 1
  · apply List.map_congr_left
    intro j hj
    rw [dg_low n d k j (List.mem_range.1 hj)]
  · simp [dg_at n d k hn hd]
theorem add_lt_C (n d k : Nat) (hn : n < C ^ k) (hd : d < C) : n + d * C ^ k < C ^ (k + 1) := by
  have : (d + 1) * C ^ k ≤ C * C ^ k := Nat.mul_le_mul_right _ hd
  rw [Nat.add_mul, Nat.one_mul] at this
  rw [Nat.pow_succ']; omega

/-- A slice that has grown to the digits of n holds n. -/
theorem GRow.big {w0 : World} {Lg L : List (Nat × Obj)} {e : TypeId} {v : Value} {m n : Nat} (h : GRow w0 Lg e 1 v m (uc m n)) (hn : n < C ^ m) (hm : m ≤ 1000000) (hs : ∀ x ∈ Lg, x ∈ L) :
    ∃ a cap, v = .slice a m cap ∧ (∀ S w, St w0 S L w → BigAt w v m n) ∧ BigIn w0.heap.size Lg (.slice a (dl n) cap) n := by
  have hd : dl n ≤ m := dl_le.2 hn
  obtain ⟨hl, ⟨rfl, rfl, rfl⟩ | ⟨g, cap, cur, rfl, rfl, h1, h2, h3, h4, h5⟩⟩ := h
  · have h0 : dl n = 0 := by omega
    exact ⟨none, 0, rfl, fun _ _ _ => ⟨hn, hm, none, 0, rfl, Nat.le_refl _, fun h => absurd h (by omega)⟩, by simp, by simp, by omega, none, 0, by rw [h0], by omega, fun h => by omega⟩
  · have hc : ∀ j, j < m → cur[j]? = some (.int .u32 (dg n j : Nat)) := fun j hj => by
      have := uc_get m n j hj
      rw [← h5, List.getElem?_take, if_pos (by omega), Array.getElem?_toList] at this
      exact this
    exact ⟨_, cap, rfl, fun _ _ hst => ⟨hn, hm, _, cap, rfl, h2, fun _ => ⟨g, cur, e, rfl, hst.own _ _ (hs _ (by simp)), hc⟩⟩, by simpa using h1, by simp, by omega, _, cap, rfl, by omega, fun _ => ⟨g, cur, e, rfl, by simp, fun j hj => hc j (by omega)⟩⟩

theorem u32_wrap (x : Nat) : IntKind.u32.wrap (x : Int) = ((x % C : Nat) : Int) := by
  show (x : Int) % 4294967296 = _
  rw [C_val]; omega

end Go.Proofs.YtojjmcghcgidlaaDoor.Rd
