/- What prod.Mul and Small answer, as numbers. -/
import Derived.Test.YtefpoconpeggpaaGreatDoorK05
import Derived.Test.YtefpoconpeggpaaGreatDoorK06
import Derived.Test.YtefpoconpeggpaaGreatDoorK09
import Derived.Test.YtefpoconpeggpaaGreatDoorK03
namespace Go.Proofs.YtefpoconpeggpaaGreatDoor.Rd
open Go Go.RowKit
set_option linter.unusedVariables false
set_option linter.unusedSimpArgs false
set_option maxRecDepth 100000

/-- New blocks: all from s on, each once. -/
def NewIn (s : Nat) (Lg : List (Nat × Obj)) : Prop := (∀ x ∈ Lg, s ≤ x.1) ∧ (Lg.map Prod.fst).Nodup
/-- What a call brings: a value and new blocks, as R says. -/
def PostN (R : List (Nat × Obj) → Value → Prop) (w0 : World) (e : Ending) (w' : World) : Prop := ∃ v Lg, e = .returned v ∧ Keeps [] w0 w' ∧ NewIn w0.heap.size Lg ∧ R Lg v ∧ ∀ b o, (b, o) ∈ Lg → w'.heap[b]? = some o
def GivesN (P : Program) (f : FuncId) (args : Array Value) (R : List (Nat × Obj) → Value → Prop) (w0 : World) : Prop := Calls P f args w0 (PostN R w0)
theorem PostN.of {R : List (Nat × Obj) → Value → Prop} {w0 w : World} {v : Value} {Lg L : List (Nat × Obj)} (hst : St w0 [] L w) (hn : NewIn w0.heap.size Lg) (hR : R Lg v) (hs : ∀ x ∈ Lg, x ∈ L) : PostN R w0 (.returned v) w := ⟨v, Lg, rfl, hst.keeps, hn, hR, fun b o h => hst.own b o (hs _ h)⟩

/-- In L the blocks of Ls hold what it says; with Ls' there it is L'. -/
inductive Swap : List (Nat × Obj) → List (Nat × Obj) → List (Nat × Obj) → List (Nat × Obj) → Prop
  | nil (L) : Swap [] [] L L
  | cons {b : Nat} {o o' : Obj} {Ls Ls' L L1 L'} : At b o o' L L1 → Swap Ls Ls' L1 L' → Swap ((b, o) :: Ls) ((b, o') :: Ls') L L'
theorem Swap.keys {Ls Ls' L L' : List (Nat × Obj)} (h : Swap Ls Ls' L L') : L'.map Prod.fst = L.map Prod.fst := by
  induction h with
  | nil => rfl
  | cons ha _ ih => rw [ih, ha.keys]
theorem Swap.mem {Ls Ls' L L' : List (Nat × Obj)} (h : Swap Ls Ls' L L') (hn : (L.map Prod.fst).Nodup) : ∀ b x, (b, x) ∈ L' → (b, x) ∈ Ls' ∨ (b ∉ Ls.map Prod.fst ∧ (b, x) ∈ L) := by
  induction h with
  | nil => intro b x hm; exact .inr ⟨by simp, hm⟩
  | cons ha hs ih =>
    intro b x hm
    rcases ih (by rw [ha.keys]; exact hn) b x hm with h' | ⟨h1, h2⟩
    · exact .inl (List.mem_cons_of_mem _ h')
    · rcases ha.mem' hn b x h2 with ⟨rfl, rfl⟩ | ⟨h3, h4⟩
      · exact .inl (List.mem_cons_self ..)
      · exact .inr ⟨by simp only [List.map_cons, List.mem_cons, not_or]; exact ⟨h3, h1⟩, h4⟩
theorem Swap.own {Ls Ls' L L' : List (Nat × Obj)} (h : Swap Ls Ls' L L') (hn : (Ls.map Prod.fst).Nodup) : ∀ x ∈ Ls, x ∈ L := by
  induction h with
  | nil => intro x hm; cases hm
  | @cons b o o' Ls Ls' L L1 L' ha hs ih =>
    simp only [List.map_cons, List.nodup_cons] at hn
    intro x hm
    rcases List.mem_cons.1 hm with rfl | hm
    · exact ha.mem
    · have h1 := ih hn.2 x hm
      have hne : x.1 ≠ b := fun e => hn.1 (e ▸ List.mem_map_of_mem (f := Prod.fst) hm)
      clear ih hs hm
      induction ha with
      | head L =>
        rcases List.mem_cons.1 h1 with rfl | h
        · exact absurd rfl hne
        · exact List.mem_cons_of_mem _ h
      | tail y L L' _ ih =>
        rcases List.mem_cons.1 h1 with rfl | h
        · exact List.mem_cons_self ..
        · exact List.mem_cons_of_mem _ (ih h)
theorem St.puts {w0 w w' : World} {S : List Nat} {Ls Ls' L L' : List (Nat × Obj)} (h : St w0 S L w) (hs : Swap Ls Ls' L L') (hb : ∀ x ∈ Ls, w0.heap.size ≤ x.1 ∨ x.1 ∈ S)
    (k : Keeps (Ls.map Prod.fst) w w') (hnew : ∀ b o, (b, o) ∈ Ls' → w'.heap[b]? = some o) : St w0 S L' w' :=
  ⟨h.keeps.trans k (fun x hx hlt => by
      obtain ⟨y, hy, rfl⟩ := List.mem_map.1 hx
      rcases hb y hy with h' | h'
      · omega
      · exact h'),
    fun b x hm => by
      rcases hs.mem h.nodup b x hm with h1 | ⟨h1, h2⟩
      · exact hnew _ _ h1
      · have hown := h.own b x h2
        rw [k.block b (lt_of_some hown) h1]
        exact hown,
    by rw [hs.keys]; exact h.nodup⟩

/-- Each of these blocks is new, or one that may turn. -/
inductive Mine (s : Nat) (S : List Nat) : List (Nat × Obj) → Prop
  | nil : Mine s S []
  | cons {b : Nat} {o : Obj} {L : List (Nat × Obj)} : (s ≤ b ∨ b ∈ S) → Mine s S L → Mine s S ((b, o) :: L)
theorem Mine.all {s : Nat} {S : List Nat} {L : List (Nat × Obj)} (h : Mine s S L) : ∀ x ∈ L, s ≤ x.1 ∨ x.1 ∈ S := by
  induction h with
  | nil => intro x hx; cases hx
  | cons h _ ih =>
    intro x hx
    rcases List.mem_cons.1 hx with rfl | hx
    · exact h
    · exact ih x hx

/-- A call that writes the blocks Ls, so that they are Ls' then. -/
def GivesT (P : Program) (f : FuncId) (args : Array Value) (v : Value) (Ls Ls' : List (Nat × Obj)) (w : World) : Prop := Calls P f args w fun e w' => e = .returned v ∧ Keeps (Ls.map Prod.fst) w w' ∧ ∀ b o, (b, o) ∈ Ls' → w'.heap[b]? = some o
theorem GivesT.of {S : List Nat} {w0 w : World} {v : Value} {Ls L' Ls' : List (Nat × Obj)} (hst : St w0 S L' w) (hS : S = Ls.map Prod.fst) (hs : ∀ x ∈ Ls', x ∈ L') : (Ending.returned v = .returned v) ∧ Keeps (Ls.map Prod.fst) w0 w ∧ ∀ b o, (b, o) ∈ Ls' → w.heap[b]? = some o :=
  ⟨rfl, hS ▸ hst.keeps, fun b o h => hst.own b o (hs _ h)⟩

section
variable {P : Program} {ops : Array Oper} {rest : List Oper} {Q : Exit → Act → World → Prop} {a : Act} {w w0 : World} {S : List Nat} {L L' : List (Nat × Obj)}
theorem kN {o : Oper} {c : Call} {x : Operand} {f : FuncId} {cap : Array Value} {args : List Value} {R : List (Nat × Obj) → Value → Prop} (hf : GoF P f) (hst : St w0 S L w) (hc : ∀ w, St w0 S L w → GivesN P f args.toArray R w)
    (ho : o.op = .call c) (hcal : c.callee = .value x) (hx : a.eval x = .func (.func f) #[] cap) (hargs : c.args.toList.map a.eval ++ cap.toList = args)
    (h : ∀ v Lg w', NewIn w0.heap.size Lg → R Lg v → St w0 S (L ++ Lg) w' → wpList P ops Q rest (a.put o.dst v) w') (hg : o.guard = none := by rfl) : wpList P ops Q (o :: rest) a w := by
  refine wpList_plain hg fun K hK => ?_
  unfold Oper.wp
  rw [run_execOp_call ho hcal hx, args_eq hargs, run_callFunc_go hf, Oper.upon_enter]
  refine (hc w hst).mono fun e w'' hh => ?_
  obtain ⟨v, Lg, rfl, hk, hn, hR, hown⟩ := hh
  exact hK _ _ (h v Lg w'' ⟨fun x hx => Nat.le_trans hst.keeps.size (hn.1 x hx), hn.2⟩ hR (hst.more hk hn.1 hn.2 hown))
theorem kT {o : Oper} {c : Call} {x : Operand} {f : FuncId} {cap : Array Value} {args : List Value} {v : Value} {Ls Ls' : List (Nat × Obj)} (hf : GoF P f) (hst : St w0 S L w) (hc : ∀ w, St w0 S L w → GivesT P f args.toArray v Ls Ls' w)
    (ho : o.op = .call c) (hcal : c.callee = .value x) (hx : a.eval x = .func (.func f) #[] cap) (hargs : c.args.toList.map a.eval ++ cap.toList = args)
    (h : ∀ w', St w0 S L' w' → wpList P ops Q rest (a.put o.dst v) w')
    (hsw : Swap Ls Ls' L L' := by repeat (first | exact Swap.nil _ | exact At.head _ | apply At.tail | apply Swap.cons))
    (hb : Mine w0.heap.size S Ls := by repeat (first | exact Mine.nil | refine Mine.cons (by first | exact Or.inl (by assumption) | (refine Or.inr ?_; simp)) ?_)) (hg : o.guard = none := by rfl) : wpList P ops Q (o :: rest) a w := by
  refine wpList_plain hg fun K hK => ?_
  unfold Oper.wp
  rw [run_execOp_call ho hcal hx, args_eq hargs, run_callFunc_go hf, Oper.upon_enter]
  refine (hc w hst).mono fun e w'' hh => ?_
  obtain ⟨rfl, hk, hown⟩ := hh
  exact hK _ _ (h w'' (hst.puts hsw hb.all hk hown))
end

/-- A slice of limbs in a block of its own. -/
def LimbIn (l n : Nat) (Lg : List (Nat × Obj)) (v : Value) : Prop := n < B ^ l ∧ l ≤ 100000 ∧ ∃ b cap k m E, v = .slice (some ⟨b, 0, none⟩) l cap ∧ l ≤ cap ∧ l ≤ k ∧ Lg = [(b, .cells (wc k m) E)] ∧ m % B ^ l = n
theorem LimbIn.at {l n : Nat} {Lg : List (Nat × Obj)} {v : Value} (h : LimbIn l n Lg v) {w0 w : World} {S : List Nat} {L : List (Nat × Obj)} (hst : St w0 S L w) (hs : ∀ x ∈ Lg, x ∈ L) : LimbAt w v l n := by
  obtain ⟨h1, h2, b, cap, k, m, E, rfl, h3, h4, rfl, h5⟩ := h
  exact ⟨h1, h2, b, cap, k, m, E, (0, 0), rfl, h3, h4, hst.own _ _ (hs _ (by simp)), h5⟩

theorem tl_mod (n : Nat) : ∀ k, n < B ^ k → n < B ^ tl n 0 k
  | 0, h => h
  | k + 1, h => by
    unfold tl
    split
    · rename_i h0
      rw [Nat.zero_add] at h0
      apply tl_mod n k
      have := lb_split n k
      rw [h0, Nat.zero_mul, Nat.add_zero, Nat.mod_eq_of_lt h] at this
      rw [this]; exact Nat.mod_lt _ (Bp_pos k)
    · exact h
theorem made_u64 (n : Nat) : madeCells #[.int .u64 0] n = wc n 0 := by
  apply Array.ext_getElem?
  intro i
  by_cases h : i < n
  · rw [wc_get _ _ _ h]
    have : lb 0 i = 0 := by unfold lb; simp
    rw [this]
    simp [madeCells, h, Nat.mod_one]
  · have h1 : (madeCells #[.int .u64 0] n).size = n := by unfold madeCells; simp
    rw [Array.getElem?_eq_none (by omega), Array.getElem?_eq_none (by rw [wc_size]; omega)]

set_option maxHeartbeats 4000000 in
theorem limb_made (g : FuncId) (hg : GoF Tryz.prog g) (cap : Array Value) (f : Nat → Nat) (n : Nat) (hn : n ≤ 2000) (hf : ∀ i, f i < B) (w0 : World)
    (hgf : ∀ i w, i < n → Keeps [] w0 w → GivesAt Tryz.prog g ([Value.int .i64 (i : Nat)] ++ cap.toList).toArray (.int .u64 (f i : Nat)) w) :
    GivesN Tryz.prog 260 #[.int .i64 n, .func (.func g) #[] cap] (LimbIn (tl (lsum f n) 0 n) (lsum f n)) w0 := by
  have hst := St.start [] w0
  have hf' := Lib.hid hf
  clear hf
  have hmade := Lib.hid (made_u64 n)
  go_enter Tryz.func260, Tryz.ntmps260
  go_wp2_with ((first | (refine wl_make (bytes := 8) (o := ⟨some 8, _, _, _, _, _⟩) hst (show SliceT _ 123 22 by unfold SliceT; kernel_rfl) (show ElemT _ 22 1 (.int .u64 0) from ElemT.of (by kernel_rfl)) (show BytesT _ _ _ by unfold BytesT; kernel_rfl) rfl rfl (by rfl) (by rfl) hmade.out (by omega) (by omega) ?_; clear hst; intro b8 w hb8 hst; (try simp only [pz, pn, sz, sc]))); try simp only [pz, pn, sz, sc])
  go_loopw [6, 11] (fun u i wr => ∃ k : Nat, k ≤ n ∧ i = .int .i64 k ∧ St w0 [] [(b8, .cells (wc n (lsum f k)) 22)] wr) (fun _ i _ => n - (intOf i).toNat)
  case atStart => exact ⟨0, by omega, rfl, hst⟩
  case round =>
    clear hst
    obtain ⟨k, hk, rfl, hst⟩ := hrel
    have hl1 := Lib.hid (lsum_lt f hf'.out k)
    by_cases hlt : k < n
    · have hi0 : (0 : Int) ≤ (k : Int) := by omega
      have hi8 : (k : Int) < (n : Int) := by omega
      have hc := fun w h => hgf k w hlt h
      have hfk := Lib.hid (hf'.out k)
      have hset := Lib.hid (wc_set n (lsum f k) (f k) k hl1.out hfk.out)
      go_wp2_with ((first | (refine kg hg hst (fun w hst => hc w hst.keeps) rfl rfl rfl rfl ?_; clear hst; intro w hst) | (refine ks hst tc22 rfl rfl ?_; clear hst; intro w hst; (try rw [hset.out] at hst))); try simp only [pz, pn, sz, sc])
      go_roundw
      case rel => exact ⟨k + 1, by omega, by go_num, hst⟩
      case measure => simp [intOf]; omega
    · have : k = n := by omega
      subst this
      have hi8 : ¬ ((k : Int) < (k : Int)) := by omega
      have htrim := fun w h => limb_trim b8 0 k k k (lsum f k) 22 (0, 0) (by omega) (by omega) (by omega) w h
      clear hgf hmade
      go_wp2_with ((first | (refine kg gf105 hst (fun w hst => htrim w (hst.own _ _ (by repeat (first | exact List.Mem.head _ | refine List.Mem.tail _ ?_)))) rfl rfl rfl rfl ?_; clear hst; intro w hst)); try simp only [pz, pn, sz, sc])
      have hlt := tl_mod _ k hl1.out
      have htl := tl_le (lsum f k) 0 k
      refine bp_t rfl rfl (by rfl) (PostN.of hst (Lg := [(b8, .cells (wc k (lsum f k)) 22)]) ⟨by simpa using hb8, by simp⟩ ⟨hlt, by omega, b8, _, k, lsum f k, _, rfl, by omega, by omega, rfl, Nat.mod_eq_of_lt hlt⟩ (fun x h => h))

end Go.Proofs.YtefpoconpeggpaaGreatDoor.Rd

namespace Go.Proofs.YtefpoconpeggpaaGreatDoor.Rd
open Go Go.RowKit
set_option linter.unusedVariables false
set_option linter.unusedSimpArgs false
set_option maxRecDepth 100000

/-- A number with another limb at a place. -/
def setL (m j d : Nat) : Nat := m % B ^ j + d * B ^ j + m / B ^ (j + 1) * B ^ (j + 1)

theorem setL_eq (m j d : Nat) : setL m j d + lb m j * B ^ j = m + d * B ^ j := by
  have h1 := Nat.div_add_mod m (B ^ (j + 1))
  have h2 := lb_split m j
  unfold setL
  rw [Nat.mul_comm] at h1
  omega

theorem lb_setL (m j d i : Nat) (hd : d < B) : lb (setL m j d) i = if i = j then d else lb m i := by
  have hlo : m % B ^ j < B ^ j := Nat.mod_lt _ (Bp_pos j)
  have hlow : m % B ^ j + d * B ^ j < B ^ (j + 1) := by
    rw [Nat.pow_succ, Nat.mul_comm (B ^ j)]
    have : (d + 1) * B ^ j ≤ B * B ^ j := Nat.mul_le_mul_right _ hd
    rw [Nat.add_mul, Nat.one_mul] at this
    omega
  unfold setL
  rcases Nat.lt_or_ge j i with h | h
  · rw [if_neg (by omega)]
    unfold lb
    have e : B ^ i = B ^ (j + 1) * B ^ (i - (j + 1)) := by rw [← Nat.pow_add]; congr 1; omega
    rw [e, ← Nat.div_div_eq_div_mul, ← Nat.div_div_eq_div_mul, Nat.add_mul_div_right _ _ (Bp_pos (j + 1)), Nat.div_eq_of_lt hlow, Nat.zero_add]
  · have e : m / B ^ (j + 1) * B ^ (j + 1) = B ^ i * (B * (m / B ^ (j + 1) * B ^ (j - i))) := by
      have : B ^ (j + 1) = B ^ i * (B * B ^ (j - i)) := by rw [← Nat.pow_succ', ← Nat.pow_add]; congr 1; omega
      rw [Nat.mul_comm (m / B ^ (j + 1)) (B ^ (j - i)), ← Nat.mul_assoc B, ← Nat.mul_assoc (B ^ i), ← this, Nat.mul_comm]
    have h2 : lb (m % B ^ j + d * B ^ j + m / B ^ (j + 1) * B ^ (j + 1)) i = lb (m % B ^ j + d * B ^ j) i := by
      unfold lb
      rw [e, Nat.add_mul_div_left _ _ (Bp_pos i), Nat.add_mul_mod_self_left]
    rw [h2, lb_add_at _ _ _ _ hlo hd]
    by_cases hij : i = j
    · rw [if_pos hij, if_pos hij]
    · rw [if_neg hij, if_neg hij]
      have := lb_part m 0 j i (by omega)
      simpa using this

theorem wc_setL (k m j d : Nat) (hd : d < B) : (wc k m).setIfInBounds j (.int .u64 (d : Nat)) = wc k (setL m j d) := by
  apply Array.ext_getElem?
  intro i
  rw [Array.getElem?_setIfInBounds]
  by_cases hk : i < k
  · rw [wc_get k _ i hk, wc_get k _ i hk, lb_setL m j d i hd, wc_size]
    by_cases h : j = i
    · subst h; simp [hk]
    · rw [if_neg h, if_neg (by omega)]
  · have e1 : (wc k m)[i]? = none := Array.getElem?_eq_none (by simp; omega)
    have e2 : (wc k (setL m j d))[i]? = none := Array.getElem?_eq_none (by simp; omega)
    rw [e1, e2, wc_size]
    split
    · rename_i h; subst h; rw [if_neg hk]
    · rfl

theorem setL_lt (m j d k : Nat) (hm : m < B ^ k) (hd : d < B) (hj : j < k) : setL m j d < B ^ k := by
  have h : setL m j d % B ^ k = setL m j d := by
    have : setL m j d / B ^ k = 0 := by
      have e : B ^ k = B ^ (j + 1) * B ^ (k - (j + 1)) := by rw [← Nat.pow_add]; congr 1; omega
      have hlow : m % B ^ j + d * B ^ j < B ^ (j + 1) := by
        have hlo : m % B ^ j < B ^ j := Nat.mod_lt _ (Bp_pos j)
        rw [Nat.pow_succ, Nat.mul_comm (B ^ j)]
        have : (d + 1) * B ^ j ≤ B * B ^ j := Nat.mul_le_mul_right _ hd
        rw [Nat.add_mul, Nat.one_mul] at this
        omega
      unfold setL
      rw [e, ← Nat.div_div_eq_div_mul, Nat.add_mul_div_right _ _ (Bp_pos (j + 1)), Nat.div_eq_of_lt hlow, Nat.zero_add, Nat.div_div_eq_div_mul, ← e]
      exact Nat.div_eq_of_lt hm
    rw [Nat.mod_eq_of_lt]
    exact (Nat.div_eq_zero_iff_lt (Bp_pos k)).1 this
  rw [← h]
  exact Nat.mod_lt _ (Bp_pos k)

/-- A step of a carry. -/
theorem carry_step (m j x c : Nat) : setL m j ((lb m j + x + c) % B) + (lb m j + x + c) / B * B ^ (j + 1) = m + (x + c) * B ^ j := by
  have h := setL_eq m j ((lb m j + x + c) % B)
  have e := Nat.div_add_mod (lb m j + x + c) B
  generalize (lb m j + x + c) / B = q at *
  generalize (lb m j + x + c) % B = r at *
  have e2 : (B * q + r) * B ^ j = (lb m j + x + c) * B ^ j := by rw [e]
  rw [Nat.add_mul, Nat.add_mul, Nat.add_mul, Nat.mul_assoc] at e2
  rw [Nat.add_mul, Nat.pow_succ', ← Nat.mul_assoc, Nat.mul_comm q B, Nat.mul_assoc]
  omega

set_option maxHeartbeats 4000000 in
theorem prod_put (b n i x : Nat) (E : TypeId) (hn : n < B ^ 17) (hx : x < B) (hi : i ≤ 16) (w0 : World) (hb : w0.heap[b]? = some (.cells (wc 17 n) E (0, 0))) :
    Calls Tryz.prog 159 #[.pointer (some ⟨b, 0, none⟩), .int .i64 i, .int .u64 x] w0 fun e w' => e = .returned (.tuple #[]) ∧ Keeps [b] w0 w' ∧ w'.heap[b]? = some (.cells (wc 17 ((n + x * B ^ i) % B ^ 17)) E (0, 0)) := by
  have hst := (St.start [b] w0).add hb (by simp)
  clear hb
  have hadd := limb_Add (lb n i) x 0 (lb_lt _ _) hx (by omega)
  have hi0 : (0 : Int) ≤ (i : Int) := by omega
  have hi17 : (i : Int) < 17 := by omega
  have hcs := carry_step n i x 0
  have hc1 := (add_lt (lb n i) x 0 (lb_lt _ _) hx (by omega)).2
  have hs1 := (add_lt (lb n i) x 0 (lb_lt _ _) hx (by omega)).1
  have hlt1 := setL_lt n i _ 17 hn hs1 (by omega)
  have hset := wc_setL 17 n i _ hs1
  generalize hq : (lb n i + x + 0) / B = q at *
  generalize hr : (lb n i + x + 0) % B = r at *
  clear hq hr
  have hset' := Lib.hid hset
  clear hset
  go_enter Tryz.func159, Tryz.ntmps159
  go_wp2_with fail
  refine wp_region_T 14  hst (by kernel_rfl) ?_; clear hst; intro w hst; (try simp only [List.length_cons, List.length_nil, Nat.reduceAdd, Array.replicate_succ, Array.replicate_zero, List.push_toArray, List.nil_append, List.cons_append])
  refine r0 0 ?_; simp only [pz, pn, sz, sc]
  refine r0 1 ?_; simp only [pz, pn, sz, sc]
  refine r0 2 ?_; simp only [pz, pn, sz, sc]
  refine r0 3 ?_; simp only [pz, pn, sz, sc]
  refine r0 4 ?_; simp only [pz, pn, sz, sc]
  refine r0 5 ?_; simp only [pz, pn, sz, sc]
  refine r0 7 ?_; simp only [pz, pn, sz, sc]
  refine r0 12 ?_; simp only [pz, pn, sz, sc]
  refine rl 6 rfl ?_ (ylC tc22); simp only [pz, pn, sz, sc]
  refine r1 8 ?_; (refine kf gf133 hst (hadd) rfl rfl rfl rfl ?_; clear hst; intro w hst); (try simp only [pz, pn, sz, sc]); refine re ?_
  refine r0 9 ?_; simp only [pz, pn, sz, sc]
  refine r0 10 ?_; simp only [pz, pn, sz, sc]
  refine r0 11 ?_; simp only [pz, pn, sz, sc]
  refine r0 13 ?_; simp only [pz, pn, sz, sc]
  refine r1 14 ?_; (refine ks hst tc22 rfl rfl ?_; clear hst; intro w hst; (try rw [hset'.out] at hst)); (try simp only [pz, pn, sz, sc]); refine re ?_
  refine r0 15 ?_; simp only [pz, pn, sz, sc]
  refine rd_ ?_
  go_wp2_with fail
  go_loopw [1, 6] (fun j c wr => ∃ (k m u : Nat), k ≤ 17 ∧ u ≤ 1 ∧ m < B ^ 17 ∧ m + u * B ^ k = n + x * B ^ i ∧ j = .int .i64 k ∧ c = .int .u64 u ∧ St w0 [b] [(b, .cells (wc 17 m) E (0, 0))] wr) (fun j _ _ => 17 - (intOf j).toNat)
  case atStart => exact ⟨i + 1, _, q, by omega, hc1, hlt1, by rw [hcs, Nat.add_zero], by go_num, rfl, hst⟩
  case round =>
    clear hst hset' hadd hcs hc1 hs1 hlt1 hi0 hi17
    obtain ⟨k, m, u, hk, hu, hm, he, rfl, rfl, hst⟩ := hrel
    by_cases h0 : u = 0
    · subst h0
      have hm2 : m = (n + x * B ^ i) % B ^ 17 := by
        rw [Nat.zero_mul, Nat.add_zero] at he
        rw [← he, Nat.mod_eq_of_lt hm]
      subst hm2
      go_wp2_with fail
      exact bp_0 rfl rfl ⟨rfl, hst.keeps, hst.own _ _ (by simp)⟩
    · have hu1 : u = 1 := by omega
      subst hu1
      by_cases h1 : k ≤ 16
      · have hk0 : (0 : Int) ≤ (k : Int) := by omega
        have hk17 : (k : Int) < 17 := by omega
        have hadd := limb_Add (lb m k) 0 1 (lb_lt _ _) B_pos (by omega)
        have hcs := carry_step m k 0 1
        have hc1 := (add_lt (lb m k) 0 1 (lb_lt _ _) B_pos (by omega)).2
        have hs1 := (add_lt (lb m k) 0 1 (lb_lt _ _) B_pos (by omega)).1
        have hlt1 := setL_lt m k _ 17 hm hs1 (by omega)
        have hset := wc_setL 17 m k _ hs1
        generalize hq : (lb m k + 0 + 1) / B = q at *
        generalize hr : (lb m k + 0 + 1) % B = r at *
        clear hq hr
        have hset' := Lib.hid hset
        have he' := Lib.hid he
        have hcs' := Lib.hid hcs
        clear hset he hcs
        go_wp2_with fail
        refine wp_region_T 14  hst (by kernel_rfl) ?_; clear hst; intro w hst; (try simp only [List.length_cons, List.length_nil, Nat.reduceAdd, Array.replicate_succ, Array.replicate_zero, List.push_toArray, List.nil_append, List.cons_append])
        refine r0 0 ?_; simp only [pz, pn, sz, sc]
        refine r0 1 ?_; simp only [pz, pn, sz, sc]
        refine r0 2 ?_; simp only [pz, pn, sz, sc]
        refine r0 3 ?_; simp only [pz, pn, sz, sc]
        refine r0 4 ?_; simp only [pz, pn, sz, sc]
        refine r0 5 ?_; simp only [pz, pn, sz, sc]
        refine r0 7 ?_; simp only [pz, pn, sz, sc]
        refine r0 12 ?_; simp only [pz, pn, sz, sc]
        refine rl 6 rfl ?_ (ylC tc22); simp only [pz, pn, sz, sc]
        refine r1 8 ?_; (refine kf gf133 hst (hadd) rfl rfl rfl rfl ?_; clear hst; intro w hst); (try simp only [pz, pn, sz, sc]); refine re ?_
        refine r0 9 ?_; simp only [pz, pn, sz, sc]
        refine r0 10 ?_; simp only [pz, pn, sz, sc]
        refine r0 11 ?_; simp only [pz, pn, sz, sc]
        refine r0 13 ?_; simp only [pz, pn, sz, sc]
        refine r1 14 ?_; (refine ks hst tc22 rfl rfl ?_; clear hst; intro w hst; (try rw [hset'.out] at hst)); (try simp only [pz, pn, sz, sc]); refine re ?_
        refine r0 15 ?_; simp only [pz, pn, sz, sc]
        refine rd_ ?_
        go_wp2_with fail
        go_roundw
        case rel => exact ⟨k + 1, _, q, by omega, hc1, hlt1, by rw [hcs'.out, ← he'.out], by go_num, rfl, hst⟩
        case measure => simp [intOf]; omega
      · have h17 : k = 17 := by omega
        subst h17
        have hm2 : m = (n + x * B ^ i) % B ^ 17 := by
          rw [← he, Nat.one_mul, Nat.add_mod_right, Nat.mod_eq_of_lt hm]
        subst hm2
        clear he
        go_wp2_with fail
        exact bp_0 rfl rfl ⟨rfl, hst.keeps, hst.own _ _ (by simp)⟩

end Go.Proofs.YtefpoconpeggpaaGreatDoor.Rd

namespace Go.Proofs.YtefpoconpeggpaaGreatDoor.Rd
open Go Go.RowKit
set_option linter.unusedVariables false
set_option linter.unusedSimpArgs false
set_option maxRecDepth 100000

/-- The limbs' products of one row, as p tells which places count. -/
def inner (p : Nat → Bool) (a b i : Nat) : Nat → Nat
  | 0 => 0
  | k + 1 => inner p a b i k + if p (i + k) = true then lb a i * lb b k * B ^ (i + k) else 0
/-- All rows. -/
def outer (p : Nat → Bool) (a b : Nat) : Nat → Nat
  | 0 => 0
  | i + 1 => outer p a b i + inner p a b i 8

theorem term_le (a b i k : Nat) (hi : i < 8) (hk : k < 8) : lb a i * lb b k * B ^ (i + k) ≤ B ^ 16 := by
  have h1 : lb a i * lb b k ≤ B * B := Nat.mul_le_mul (Nat.le_of_lt (lb_lt _ _)) (Nat.le_of_lt (lb_lt _ _))
  have h2 : B ^ (i + k) ≤ B ^ 14 := Nat.pow_le_pow_right B_pos (by omega)
  have h3 : B ^ 16 = B * B * B ^ 14 := by rw [Nat.pow_succ, Nat.pow_succ, Nat.mul_assoc, Nat.mul_comm]
  rw [h3]
  exact Nat.mul_le_mul h1 h2
theorem inner_le (p : Nat → Bool) (a b i : Nat) (hi : i < 8) : ∀ k, k ≤ 8 → inner p a b i k ≤ k * B ^ 16
  | 0, _ => by simp [inner]
  | k + 1, hk => by
    have h1 := inner_le p a b i hi k (by omega)
    have h2 := term_le a b i k hi (by omega)
    simp only [inner]
    rw [Nat.add_mul, Nat.one_mul]
    split <;> omega
theorem outer_le (p : Nat → Bool) (a b : Nat) : ∀ i, i ≤ 8 → outer p a b i ≤ i * 8 * B ^ 16
  | 0, _ => by simp [outer]
  | i + 1, hi => by
    have h1 := outer_le p a b i (by omega)
    have h2 := inner_le p a b i (by omega) 8 (by omega)
    simp only [outer]
    have : (i + 1) * 8 * B ^ 16 = i * 8 * B ^ 16 + 8 * B ^ 16 := by rw [Nat.add_mul, Nat.add_mul]
    omega

/-- What is gathered so far. -/
def far (p : Nat → Bool) (a b i k : Nat) : Nat := outer p a b i + inner p a b i k
theorem far_lt (p : Nat → Bool) (a b i k : Nat) (hi : i < 8) (hk : k ≤ 8) : far p a b i k ≤ 64 * B ^ 16 := by
  have h1 := outer_le p a b i (by omega)
  have h2 := inner_le p a b i hi k hk
  unfold far
  have h3 : k * B ^ 16 ≤ 8 * B ^ 16 := Nat.mul_le_mul_right _ hk
  have h4 : i * 8 * B ^ 16 ≤ 56 * B ^ 16 := Nat.mul_le_mul_right _ (by omega)
  have h5 : 64 * B ^ 16 = 56 * B ^ 16 + 8 * B ^ 16 := by rw [← Nat.add_mul]
  omega
theorem B17 : B ^ 17 = B * B ^ 16 := by rw [Nat.pow_succ, Nat.mul_comm]
theorem far_lt' (p : Nat → Bool) (a b i k : Nat) (hi : i < 8) (hk : k ≤ 8) : far p a b i k < B ^ 17 := by
  have := far_lt p a b i k hi hk
  have h2 : 65 * B ^ 16 ≤ B * B ^ 16 := Nat.mul_le_mul_right _ (by rw [B_val]; omega)
  have h3 : 0 < B ^ 16 := Bp_pos 16
  rw [B17]; omega

/-- One product is put. -/
theorem far_step (p : Nat → Bool) (a b i k : Nat) (hi : i < 8) (hk : k < 8) (hp : p (i + k) = true) :
    far p a b i k + lb a i * lb b k % B * B ^ (i + k) < B ^ 17 ∧
    far p a b i k + lb a i * lb b k % B * B ^ (i + k) + lb a i * lb b k / B * B ^ (i + k + 1) = far p a b i (k + 1) := by
  have h1 : far p a b i (k + 1) = far p a b i k + lb a i * lb b k * B ^ (i + k) := by simp [far, inner, hp, Nat.add_assoc]
  have h2 : lb a i * lb b k % B * B ^ (i + k) + lb a i * lb b k / B * B ^ (i + k + 1) = lb a i * lb b k * B ^ (i + k) := by
    have e := Nat.div_add_mod (lb a i * lb b k) B
    generalize lb a i * lb b k / B = q at *
    generalize lb a i * lb b k % B = r at *
    rw [← e, Nat.pow_succ', ← Nat.mul_assoc, Nat.mul_comm q B, Nat.add_mul]; omega
  have h3 := far_lt' p a b i (k + 1) hi (by omega)
  omega
theorem far_skip (p : Nat → Bool) (a b i k : Nat) (hp : ¬ p (i + k) = true) : far p a b i (k + 1) = far p a b i k := by simp [far, inner, hp]
theorem far_next (p : Nat → Bool) (a b i : Nat) : far p a b i 8 = far p a b (i + 1) 0 := by simp [far, outer, inner]

set_option maxHeartbeats 8000000 in
theorem prod_whole (a b : Nat) (g : FuncId) (hg : GoF Tryz.prog g) (cap : Array Value) (p : Nat → Bool) (w0 : World)
    (hp : ∀ w, Keeps [] w0 w → ∀ k : Nat, k ≤ 14 → GivesAt Tryz.prog g ([Value.int .i64 k] ++ cap.toList).toArray (.bool (p k)) w) :
    GivesAt Tryz.prog 129 #[W a, W b, .func (.func g) #[] cap] (.agg (wc 17 (outer p a b 8))) w0 := by
  have hst := St.start [] w0
  go_enter Tryz.func129, Tryz.ntmps129
  go_wp2_with ((first | (refine kb 3 hst rfl rfl ?_; clear hst; intro b3 w hb3 hst) | (refine kb 4 hst rfl rfl ?_; clear hst; intro b4 w hb4 hst) | (refine ka 6 hst tz189 rfl rfl ?_; clear hst; intro b6 w hb6 hst) | (refine ka 7 hst tz189 rfl rfl ?_; clear hst; intro b7 w hb7 hst) | (refine kl hst ta44 rfl ?_)); try simp only [pz, pn, sz, sc])
  go_loopw [15] (fun x wr => ∃ i : Nat, i ≤ 8 ∧ x = .int .i64 i ∧
    St w0 [] [(b7, .cells (wc 17 (far p a b i 0)) 189), (b6, .cells (wc 17 0) 189), (b4, .cells (wc 8 b) 44), (b3, .cells (wc 8 a) 44)] wr) (fun x _ => 8 - (intOf x).toNat)
  case atStart => exact ⟨0, by omega, rfl, hst⟩
  case round =>
    clear hst
    obtain ⟨i, hi, rfl, hst⟩ := hrel
    by_cases hlt : i < 8
    · have hi0 : (0 : Int) ≤ (i : Int) := by omega
      have hi8 : (i : Int) < 8 := by omega
      have hget := wc_get 8 a i hlt
      go_wp2_with ((first | (refine kl hst ta44 rfl ?_) | (refine ki tr44 tc22 rfl ?_)); try simp only [pz, pn, sz, sc])
      clear hget
      go_loopw [20] (fun y wr => ∃ k : Nat, k ≤ 8 ∧ y = .int .i64 k ∧
        St w0 [] [(b7, .cells (wc 17 (far p a b i k)) 189), (b6, .cells (wc 17 0) 189), (b4, .cells (wc 8 b) 44), (b3, .cells (wc 8 a) 44)] wr) (fun y _ => 8 - (intOf y).toNat)
      case atStart => exact ⟨0, by omega, rfl, hst⟩
      case round =>
        clear hst
        obtain ⟨k, hk, rfl, hst⟩ := hrel
        by_cases hlk : k < 8
        · have hk0 : (0 : Int) ≤ (k : Int) := by omega
          have hk8 : (k : Int) < 8 := by omega
          have hcp : ∀ w, St w0 [] [(b7, .cells (wc 17 (far p a b i k)) 189), (b6, .cells (wc 17 0) 189), (b4, .cells (wc 8 b) 44), (b3, .cells (wc 8 a) 44)] w → GivesAt Tryz.prog g (Value.int .i64 ((i : Int) + (k : Int)) :: cap.toList).toArray (.bool (p (i + k))) w := fun w hst => by
            have := hp w hst.keeps (i + k) (by omega)
            simpa using this
          by_cases hpk : p (i + k) = true
          · rw [hpk] at hcp
            have hm := limb_Mul (lb a i) (lb b k) (lb_lt _ _) (lb_lt _ _)
            obtain ⟨hs1, hs2⟩ := far_step p a b i k hlt hlk hpk
            have hp1 := fun w hw => prod_put b7 (far p a b i k) (i + k) (lb a i * lb b k % B) 189 (far_lt' p a b i k hlt hk) (Nat.mod_lt _ B_pos) (by omega) w hw
            rw [Nat.mod_eq_of_lt hs1] at hp1
            have hp2 := fun w hw => prod_put b7 (far p a b i k + lb a i * lb b k % B * B ^ (i + k)) (i + k + 1) (lb a i * lb b k / B) 189 hs1 (by rw [Nat.div_lt_iff_lt_mul B_pos]; exact Nat.mul_lt_mul'' (lb_lt _ _) (lb_lt _ _)) (by omega) w hw
            rw [hs2, Nat.mod_eq_of_lt (far_lt' p a b i (k + 1) hlt (by omega))] at hp2
            clear hs1 hs2 hpk
            have e1 : ((i + k : Nat) : Int) = (i : Int) + (k : Int) := by omega
            have e2 : ((i + k + 1 : Nat) : Int) = (i : Int) + (k : Int) + 1 := by omega
            rw [e1] at hp1
            rw [e2] at hp2
            clear e1 e2
            go_wp2_with ((first | (refine kg hg hst (hcp) rfl rfl rfl rfl ?_; clear hst; intro w hst) | (refine kf gf158 hst (hm) rfl rfl rfl rfl ?_; clear hst; intro w hst) | (refine km gf159 hst (hp1) rfl rfl rfl rfl ?_; clear hst; intro w hst) | (refine km gf159 hst (hp2) rfl rfl rfl rfl ?_; clear hst; intro w hst) | (refine ki tr44 tc22 rfl ?_)); try simp only [pz, pn, sz, sc])
            go_roundw
            case rel => exact ⟨k + 1, by omega, by go_num, hst⟩
            case measure => simp [intOf]; omega
          · have hpk' : p (i + k) = false := by simpa using hpk
            rw [hpk'] at hcp
            have hs := far_skip p a b i k hpk
            clear hpk hpk'
            rw [← hs] at hst
            go_wp2_with ((first | (refine kg hg hst (fun w hst => hcp w (by rw [← hs]; exact hst)) rfl rfl rfl rfl ?_; clear hst; intro w hst) | (refine ki tr44 tc22 rfl ?_)); try simp only [pz, pn, sz, sc])
            go_roundw
            case rel => exact ⟨k + 1, by omega, by go_num, hst⟩
            case measure => simp [intOf]; omega
        · have h8 : k = 8 := by omega
          subst h8
          rw [far_next] at hst
          go_wp2_with fail
          go_roundw
          case rel => exact ⟨i + 1, by omega, by go_num, hst⟩
          case measure => simp [intOf]; omega
    · have h8 : i = 8 := by omega
      subst h8
      have hfar : far p a b 8 0 = outer p a b 8 := by simp [far, inner]
      rw [hfar] at hst
      clear hfar
      go_wp2_with ((first | (refine kl hst ta189 rfl ?_) | (refine kt hst ta189 rfl rfl ?_; clear hst; intro w hst)); try simp only [pz, pn, sz, sc])
      refine bp_c rfl rfl (la hst ta189) ⟨?_, hst.keeps⟩
      rfl

end Go.Proofs.YtefpoconpeggpaaGreatDoor.Rd

namespace Go.Proofs.YtefpoconpeggpaaGreatDoor.Rd
open Go Go.RowKit
set_option linter.unusedVariables false
set_option linter.unusedSimpArgs false
set_option maxRecDepth 100000

theorem inner_all (a b i : Nat) : ∀ k, inner (fun _ => true) a b i k = lb a i * B ^ i * (b % B ^ k)
  | 0 => by simp [inner, Nat.mod_one]
  | k + 1 => by
    simp only [inner, if_true]
    rw [inner_all a b i k, lb_split b k, Nat.mul_add]
    congr 1
    rw [Nat.pow_add, Nat.mul_assoc, Nat.mul_assoc, Nat.mul_left_comm (lb b k)]
theorem outer_all (a b : Nat) (hb : b < M) : ∀ i, outer (fun _ => true) a b i = a % B ^ i * b
  | 0 => by simp [outer, Nat.mod_one]
  | i + 1 => by
    simp only [outer]
    rw [outer_all a b hb i, inner_all, lb_split a i, Nat.add_mul, ← M_eq, Nat.mod_eq_of_lt hb]
theorem outer_mul (a b : Nat) (ha : a < M) (hb : b < M) : outer (fun _ => true) a b 8 = a * b := by
  rw [outer_all a b hb, ← M_eq, Nat.mod_eq_of_lt ha]

theorem prod_all (k : Int) : Gives Tryz.prog 130 #[.int .i64 k] (.bool true) := by
  intro w0
  have hst := St.start [] w0
  go_enter Tryz.func130, Tryz.ntmps130
  go_wp2_with fail
  refine bp_t rfl rfl (by rfl) ⟨?_, hst.keeps⟩
  rfl

theorem mul_lt17 (a b : Nat) (ha : a < M) (hb : b < M) : a * b < B ^ 17 := by
  have h1 : a * b < M * M := Nat.mul_lt_mul'' ha hb
  have h2 : M * M = B ^ 16 := by rw [M_eq, ← Nat.pow_add]
  have h3 : B ^ 16 ≤ B ^ 17 := Nat.pow_le_pow_right B_pos (by omega)
  omega

theorem bl_beq (n : Nat) : bl n = 0 ↔ n = 0 := by
  constructor
  · intro h
    by_cases h0 : n = 0
    · exact h0
    · have := bl_pos h0; omega
  · intro h; subst h; rfl

theorem high_zero (n : Nat) (hn : n < B ^ 17) : bl (n / B ^ 8 % B ^ 9) = 0 ↔ n < M := by
  rw [bl_beq]
  have h1 : n / B ^ 8 < B ^ 9 := by
    rw [Nat.div_lt_iff_lt_mul (Bp_pos 8), ← Nat.pow_add]; exact hn
  rw [Nat.mod_eq_of_lt h1, Nat.div_eq_zero_iff_lt (Bp_pos 8), ← M_eq]

set_option maxHeartbeats 4000000 in
theorem prod_Mul (a b : Nat) (ha : a < M) (hb : b < M) : Gives Tryz.prog 103 #[W a, W b] (.tuple #[W (a * b % M), .bool (decide (a * b < M))]) := by
  intro w0
  have hst := St.start [] w0
  have hw := fun w => prod_whole a b 130 gf130 #[] (fun _ => true) w (fun w' _ k _ => prod_all k w')
  rw [outer_mul a b ha hb] at hw
  have hlt := mul_lt17 a b ha hb
  have hh := high_zero (a * b) hlt
  generalize a * b = n at *
  have hof := fun (b6 : Nat) w (h : w.heap[b6]? = some (.cells (wc 17 n) 189 (0, 0))) => wide_Of b6 0 8 17 17 n 189 (0, 0) (by omega) w h
  rw [Nat.pow_zero, Nat.div_one, show min 8 8 = 8 from rfl, ← M_eq] at hof
  have hlen := fun (b6 : Nat) w (h : w.heap[b6]? = some (.cells (wc 17 n) 189 (0, 0))) => limb_Len b6 8 9 9 17 n 189 (0, 0) (by omega) (by omega) (by omega) w h
  have hres : ((bl (n / B ^ 8 % B ^ 9) : Int) == 0) = decide (n < M) := by rw [cast_beq0]; simp [hh]
  generalize bl (n / B ^ 8 % B ^ 9) = q at *
  clear hh
  have hres' := Lib.hid hres
  clear hres
  go_enter Tryz.func103, Tryz.ntmps103
  go_wp2_with ((first | (refine kf gf129 hst (hw) rfl rfl rfl rfl ?_; clear hst; intro w hst) | (refine kb 2 hst rfl rfl ?_; clear hst; intro b2 w hb2 hst) | (refine kb 3 hst rfl rfl ?_; clear hst; intro b3 w hb3 hst) | (refine ka 4 hst tz44 rfl rfl ?_; clear hst; intro b4 w hb4 hst) | (refine kl hst ta44 rfl ?_) | (refine ka 6 hst tz189 rfl rfl ?_; clear hst; intro b6 w hb6 hst) | (refine kt hst ta189 rfl rfl ?_; clear hst; intro w hst)); try simp only [pz, pn, sz, sc])
  refine wp_region_T 5  hst (by kernel_rfl) ?_; clear hst; intro w hst; (try simp only [List.length_cons, List.length_nil, Nat.reduceAdd, Array.replicate_succ, Array.replicate_zero, List.push_toArray, List.nil_append, List.cons_append])
  refine r0 0 ?_; simp only [pz, pn, sz, sc]
  refine r0 2 ?_; simp only [pz, pn, sz, sc]
  refine r1 1 ?_; (refine kg gf131 hst (fun w hst => hof b6 w (hst.own _ _ (by repeat (first | exact List.Mem.head _ | refine List.Mem.tail _ ?_)))) rfl rfl rfl rfl ?_; clear hst; intro w hst); (try simp only [pz, pn, sz, sc]); refine re ?_
  refine r1 3 ?_; (refine kg gf73 hst (fun w hst => hlen b6 w (hst.own _ _ (by repeat (first | exact List.Mem.head _ | refine List.Mem.tail _ ?_)))) rfl rfl rfl rfl ?_; clear hst; intro w hst); (try simp only [pz, pn, sz, sc]); refine re ?_
  refine r0 4 ?_; simp only [pz, pn, sz, sc]
  refine r1 5 ?_; (refine kt hst ta44 rfl rfl ?_; clear hst; intro w hst); (try simp only [pz, pn, sz, sc]); refine re ?_
  refine r0 6 ?_; simp only [pz, pn, sz, sc]
  refine rd_ ?_
  go_wp2_with fail
  refine bp_ct rfl rfl (la hst ta44) (by rfl) ⟨?_, hst.keeps⟩
  rw [hres'.out]; rfl

end Go.Proofs.YtefpoconpeggpaaGreatDoor.Rd
