/- What the set's ask, Root answer. -/
import Derived.Test.YtggchelniblipaaGreatDoorJ19
namespace Go.Proofs.YtggchelniblipaaGreatDoor.Rd
open Go Go.RowKit
set_option linter.unusedVariables false
set_option linter.unusedSimpArgs false
set_option maxRecDepth 100000

/-- The four engines. -/
def eA1 : Value := .iface 71 (.agg #[])
def eA2 : Value := .iface 72 (.agg #[])
def eA3 (b1 b2 : Nat) : Value := .iface 78 (.agg #[.pointer (some ⟨b1, 0, none⟩), .pointer (some ⟨b2, 0, none⟩)])
def eA4 (b3 b4 : Nat) : Value := .iface 84 (.agg #[.pointer (some ⟨b3, 0, none⟩), .pointer (some ⟨b4, 0, none⟩)])
def engR (m d : Int) (br b1 b2 b3 b4 : Nat) (q0 q1 q2 q3 q4 : Int) : Array Value := engC d m (some ⟨br, 0, none⟩) eA1 eA2 (eA3 b1 b2) (eA4 b3 b4) q0 q1 q2 q3 q4
def ptrC (br : Nat) : Array Value := #[.pointer (some ⟨br, 0, none⟩)]
theorem eng_part (br b1 b2 b3 b4 : Nat) : Part (engC 0 1 (some ⟨br, 0, none⟩) .nilIface .nilIface .nilIface .nilIface 0 0 0 0 0) #[.nilIface, .nilIface, .nilIface, .nilIface, .nilIface] (engR 1 0 br b1 b2 b3 b4 0 0 0 0 0) #[.nilIface, eA1, eA2, eA3 b1 b2, eA4 b3 b4] 4 :=
  ⟨#[.int .u32 0, .int .i32 1, .int .u32 0, .pointer (some ⟨br, 0, none⟩)], #[.int .i64 0, .int .i64 0, .int .i64 0, .int .i64 0, .int .i64 0], rfl, rfl, rfl, rfl⟩

set_option maxHeartbeats 8000000 in
theorem engine_ready_1 (b1 bs br : Nat) (E1 : TypeId) (hne : bs ≠ b1) (w0 : World) (h1 : w0.heap[b1]? = some (.cells #[.pointer (some ⟨bs, 0, none⟩)] E1)) (hs : w0.heap[bs]? = some (.cells (engC 0 1 (some ⟨br, 0, none⟩) .nilIface .nilIface .nilIface .nilIface 0 0 0 0 0) 63)) :
    Calls Tryz.prog 22 #[.pointer (some ⟨b1, 0, none⟩)] w0 fun e w' => e = .returned (.tuple #[]) ∧ ∃ c1 c2 c3 c4, NewIn w0.heap.size [(c1, .cells (ptrC br) 98), (c2, .cells (ptrC br) 102), (c3, .cells (ptrC br) 106), (c4, .cells (ptrC br) 110)] ∧
      Keeps [bs] w0 w' ∧ ∀ b o, (b, o) ∈ [(bs, .cells (engR 1 0 br c1 c2 c3 c4 0 0 0 0 0) 63), (c1, .cells (ptrC br) 98), (c2, .cells (ptrC br) 102), (c3, .cells (ptrC br) 106), (c4, .cells (ptrC br) 110)] → w'.heap[b]? = some o := by
  have hst : St w0 [bs] [(bs, .cells (engC 0 1 (some ⟨br, 0, none⟩) .nilIface .nilIface .nilIface .nilIface 0 0 0 0 0) 63), (b1, .cells #[.pointer (some ⟨bs, 0, none⟩)] E1)] w0 := ((St.start [bs] w0).add h1 (by simp)).add hs (by simpa using hne)
  have n1 := fun w => newton_New br w
  have n2 := fun w => newtonroot_New br w
  have n3 := fun w => gold_New br w
  have n4 := fun w => goldroot_New br w
  have hrom : (engC 0 1 (some ⟨br, 0, none⟩) .nilIface .nilIface .nilIface .nilIface 0 0 0 0 0)[3]? = some (.pointer (some ⟨br, 0, none⟩)) := rfl
  have hp := eng_part br
  clear h1 hs
  generalize engC 0 1 (some ⟨br, 0, none⟩) .nilIface .nilIface .nilIface .nilIface 0 0 0 0 0 = cN at *
  go_enter Tryz.func22, Tryz.ntmps22
  refine wp_region_T 32  hst (by kernel_rfl) ?_; clear hst; intro w hst; (try dsimp only [List.length_cons, List.length_nil]); (try simp only [List.length_cons, List.length_nil, Nat.reduceAdd, Array.replicate_succ, Array.replicate_zero, List.push_toArray, List.nil_append, List.cons_append])
  refine r0 1 ?_; simp only [pz, pn, sz, sc]
  refine r0 2 ?_; simp only [pz, pn, sz, sc]
  refine r0 3 ?_; simp only [pz, pn, sz, sc]
  refine r0 4 ?_; simp only [pz, pn, sz, sc]
  refine rl 0 rfl ?_ (ylC tc29); simp only [pz, pn, sz, sc]
  refine rl 5 rfl ?_ (ylC tc29); simp only [pz, pn, sz, sc]
  refine r0 6 ?_; simp only [pz, pn, sz, sc]
  refine r0 7 ?_; simp only [pz, pn, sz, sc]
  refine rl 8 rfl ?_ (ylC tc56); simp only [pz, pn, sz, sc]
  refine rl 10 rfl ?_ (ylC tc29); simp only [pz, pn, sz, sc]
  refine r0 11 ?_; simp only [pz, pn, sz, sc]
  refine r0 12 ?_; simp only [pz, pn, sz, sc]
  refine rl 13 rfl ?_ (ylC tc56); simp only [pz, pn, sz, sc]
  refine rl 17 rfl ?_ (ylC tc29); simp only [pz, pn, sz, sc]
  refine r0 18 ?_; simp only [pz, pn, sz, sc]
  refine r0 19 ?_; simp only [pz, pn, sz, sc]
  refine rl 20 rfl ?_ (ylC tc56); simp only [pz, pn, sz, sc]
  refine rl 22 rfl ?_ (ylC tc29); simp only [pz, pn, sz, sc]
  refine r0 23 ?_; simp only [pz, pn, sz, sc]
  refine r0 24 ?_; simp only [pz, pn, sz, sc]
  refine rl 25 rfl ?_ (ylC tc56); simp only [pz, pn, sz, sc]
  refine r1 9 ?_; (first | (refine kN (o := ⟨some 10, _, _, _, _, _⟩) gf23 hst (fun w hst => n1 w) rfl rfl rfl rfl ?_; clear hst; intro v10 Lg10 w hn10 hR10 hst; obtain ⟨c1, rfl, rfl⟩ := hR10; (try simp only [List.cons_append, List.nil_append, List.append_nil, List.append_assoc] at hst)) | (refine kN (o := ⟨some 15, _, _, _, _, _⟩) gf24 hst (fun w hst => n2 w) rfl rfl rfl rfl ?_; clear hst; intro v15 Lg15 w hn15 hR15 hst; obtain ⟨c2, rfl, rfl⟩ := hR15; (try simp only [List.cons_append, List.nil_append, List.append_nil, List.append_assoc] at hst)) | (refine kN (o := ⟨some 22, _, _, _, _, _⟩) gf25 hst (fun w hst => n3 w) rfl rfl rfl rfl ?_; clear hst; intro v22 Lg22 w hn22 hR22 hst; obtain ⟨c3, rfl, rfl⟩ := hR22; (try simp only [List.cons_append, List.nil_append, List.append_nil, List.append_assoc] at hst)) | (refine kN (o := ⟨some 27, _, _, _, _, _⟩) gf26 hst (fun w hst => n4 w) rfl rfl rfl rfl ?_; clear hst; intro v27 Lg27 w hn27 hR27 hst; obtain ⟨c4, rfl, rfl⟩ := hR27; (try simp only [List.cons_append, List.nil_append, List.append_nil, List.append_assoc] at hst)) | (refine kp ?_)); (try simp only [pz, pn, sz, sc]); refine re ?_
  refine r1 14 ?_; (first | (refine kN (o := ⟨some 10, _, _, _, _, _⟩) gf23 hst (fun w hst => n1 w) rfl rfl rfl rfl ?_; clear hst; intro v10 Lg10 w hn10 hR10 hst; obtain ⟨c1, rfl, rfl⟩ := hR10; (try simp only [List.cons_append, List.nil_append, List.append_nil, List.append_assoc] at hst)) | (refine kN (o := ⟨some 15, _, _, _, _, _⟩) gf24 hst (fun w hst => n2 w) rfl rfl rfl rfl ?_; clear hst; intro v15 Lg15 w hn15 hR15 hst; obtain ⟨c2, rfl, rfl⟩ := hR15; (try simp only [List.cons_append, List.nil_append, List.append_nil, List.append_assoc] at hst)) | (refine kN (o := ⟨some 22, _, _, _, _, _⟩) gf25 hst (fun w hst => n3 w) rfl rfl rfl rfl ?_; clear hst; intro v22 Lg22 w hn22 hR22 hst; obtain ⟨c3, rfl, rfl⟩ := hR22; (try simp only [List.cons_append, List.nil_append, List.append_nil, List.append_assoc] at hst)) | (refine kN (o := ⟨some 27, _, _, _, _, _⟩) gf26 hst (fun w hst => n4 w) rfl rfl rfl rfl ?_; clear hst; intro v27 Lg27 w hn27 hR27 hst; obtain ⟨c4, rfl, rfl⟩ := hR27; (try simp only [List.cons_append, List.nil_append, List.append_nil, List.append_assoc] at hst)) | (refine kp ?_)); (try simp only [pz, pn, sz, sc]); refine re ?_
  refine r0 15 ?_ (hy := yB (tb78_01 _ _)); simp only [pz, pn, sz, sc]
  refine r0 16 ?_; simp only [pz, pn, sz, sc]
  refine r1 21 ?_; (first | (refine kN (o := ⟨some 10, _, _, _, _, _⟩) gf23 hst (fun w hst => n1 w) rfl rfl rfl rfl ?_; clear hst; intro v10 Lg10 w hn10 hR10 hst; obtain ⟨c1, rfl, rfl⟩ := hR10; (try simp only [List.cons_append, List.nil_append, List.append_nil, List.append_assoc] at hst)) | (refine kN (o := ⟨some 15, _, _, _, _, _⟩) gf24 hst (fun w hst => n2 w) rfl rfl rfl rfl ?_; clear hst; intro v15 Lg15 w hn15 hR15 hst; obtain ⟨c2, rfl, rfl⟩ := hR15; (try simp only [List.cons_append, List.nil_append, List.append_nil, List.append_assoc] at hst)) | (refine kN (o := ⟨some 22, _, _, _, _, _⟩) gf25 hst (fun w hst => n3 w) rfl rfl rfl rfl ?_; clear hst; intro v22 Lg22 w hn22 hR22 hst; obtain ⟨c3, rfl, rfl⟩ := hR22; (try simp only [List.cons_append, List.nil_append, List.append_nil, List.append_assoc] at hst)) | (refine kN (o := ⟨some 27, _, _, _, _, _⟩) gf26 hst (fun w hst => n4 w) rfl rfl rfl rfl ?_; clear hst; intro v27 Lg27 w hn27 hR27 hst; obtain ⟨c4, rfl, rfl⟩ := hR27; (try simp only [List.cons_append, List.nil_append, List.append_nil, List.append_assoc] at hst)) | (refine kp ?_)); (try simp only [pz, pn, sz, sc]); refine re ?_
  refine r1 26 ?_; (first | (refine kN (o := ⟨some 10, _, _, _, _, _⟩) gf23 hst (fun w hst => n1 w) rfl rfl rfl rfl ?_; clear hst; intro v10 Lg10 w hn10 hR10 hst; obtain ⟨c1, rfl, rfl⟩ := hR10; (try simp only [List.cons_append, List.nil_append, List.append_nil, List.append_assoc] at hst)) | (refine kN (o := ⟨some 15, _, _, _, _, _⟩) gf24 hst (fun w hst => n2 w) rfl rfl rfl rfl ?_; clear hst; intro v15 Lg15 w hn15 hR15 hst; obtain ⟨c2, rfl, rfl⟩ := hR15; (try simp only [List.cons_append, List.nil_append, List.append_nil, List.append_assoc] at hst)) | (refine kN (o := ⟨some 22, _, _, _, _, _⟩) gf25 hst (fun w hst => n3 w) rfl rfl rfl rfl ?_; clear hst; intro v22 Lg22 w hn22 hR22 hst; obtain ⟨c3, rfl, rfl⟩ := hR22; (try simp only [List.cons_append, List.nil_append, List.append_nil, List.append_assoc] at hst)) | (refine kN (o := ⟨some 27, _, _, _, _, _⟩) gf26 hst (fun w hst => n4 w) rfl rfl rfl rfl ?_; clear hst; intro v27 Lg27 w hn27 hR27 hst; obtain ⟨c4, rfl, rfl⟩ := hR27; (try simp only [List.cons_append, List.nil_append, List.append_nil, List.append_assoc] at hst)) | (refine kp ?_)); (try simp only [pz, pn, sz, sc]); refine re ?_
  refine r0 27 ?_ (hy := yB (tb84_01 _ _)); simp only [pz, pn, sz, sc]
  refine r0 28 ?_; simp only [pz, pn, sz, sc]
  refine r0 29 ?_; simp only [pz, pn, sz, sc]
  refine r0 30 ?_; simp only [pz, pn, sz, sc]
  refine r0 31 ?_; simp only [pz, pn, sz, sc]
  refine r1 32 ?_; (first | (refine ktm hst ta57 rfl rfl ?_ (hc := hp c1 c2 c3 c4); clear hst; intro w hst) | (refine kt hst ta57 rfl rfl ?_; clear hst; intro w hst) | (refine ktm hst ta57 rfl rfl ?_; clear hst; intro w hst) | (refine kp ?_)); (try simp only [pz, pn, sz, sc]); refine re ?_
  refine rd_ ?_
  go_wp2_with ((first | (refine kc hst tc29 rfl ?_) | (refine kc hst tc56 rfl ?_) | (refine kB (tb78_01 _ _) rfl ?_) | (refine kB (tb84_01 _ _) rfl ?_) | (refine kt hst ta57 rfl rfl ?_; clear hst; intro w hst) | (refine ktm hst ta57 rfl rfl ?_; clear hst; intro w hst)); try simp only [pz, pn, sz, sc])
  have hnd := hst.nodup
  refine bp_0 rfl rfl ⟨rfl, c1, c2, c3, c4, ⟨?_, ?_⟩, hst.keeps, fun b o hm => hst.own b o ?_⟩
  · have i1 := hn10.1 _ (List.mem_singleton.2 rfl)
    have i2 := hn15.1 _ (List.mem_singleton.2 rfl)
    have i3 := hn22.1 _ (List.mem_singleton.2 rfl)
    have i4 := hn27.1 _ (List.mem_singleton.2 rfl)
    intro x hx
    simp only [List.mem_cons, List.not_mem_nil, or_false] at hx
    rcases hx with rfl | rfl | rfl | rfl <;> assumption
  · simp only [List.map_cons, List.map_nil, List.nodup_cons, List.mem_cons, List.not_mem_nil, or_false, not_or] at hnd ⊢
    simp only [hnd, not_false_eq_true, and_self, List.nodup_nil]
  · simp only [List.mem_cons, List.not_mem_nil, or_false] at hm ⊢
    rcases hm with h | h | h | h | h <;> simp [h, ptrC]

/-- A call that turns the blocks of L, and brings new ones. -/
def PostZ (S' : List Nat) (L : List (Nat × Obj)) (R : List (Nat × Obj) → Value → Prop) (w : World) (e : Ending) (w' : World) : Prop :=
  ∃ v, e = .returned v ∧ Keeps S' w w' ∧ ∃ L', R L' v ∧ (L'.map Prod.fst).Nodup ∧ (∀ x ∈ L', x.1 ∈ L.map Prod.fst ∨ w.heap.size ≤ x.1) ∧ ∀ b o, (b, o) ∈ L' → w'.heap[b]? = some o
def GivesZ (P : Program) (f : FuncId) (args : Array Value) (S' : List Nat) (L : List (Nat × Obj)) (R : List (Nat × Obj) → Value → Prop) (w : World) : Prop :=
  (∀ x ∈ S', x ∈ L.map Prod.fst) ∧ Calls P f args w (PostZ S' L R w)
/-- The tail of a list, turned. -/
inductive Tail (L L' : List (Nat × Obj)) : List (Nat × Obj) → List (Nat × Obj) → Prop
  | here : Tail L L' L L'
  | there {x X X'} : Tail L L' X X' → Tail L L' (x :: X) (x :: X')
theorem Tail.eq {L L' X X' : List (Nat × Obj)} (h : Tail L L' X X') : ∃ pre, X = pre ++ L ∧ X' = pre ++ L' := by
  induction h with
  | here => exact ⟨[], rfl, rfl⟩
  | there h ih => obtain ⟨pre, rfl, rfl⟩ := ih; exact ⟨_ :: pre, rfl, rfl⟩
theorem St.turn {w0 w w' : World} {S S' : List Nat} {L L' X X' : List (Nat × Obj)} (hst : St w0 S X w) (ht : Tail L L' X X') (hS : ∀ x ∈ S', x ∈ L.map Prod.fst) (hm : ∀ x ∈ S', x ∈ S ∨ w0.heap.size ≤ x)
    (k : Keeps S' w w') (hnd : (L'.map Prod.fst).Nodup) (hnew : ∀ x ∈ L', x.1 ∈ L.map Prod.fst ∨ w.heap.size ≤ x.1) (hown : ∀ b o, (b, o) ∈ L' → w'.heap[b]? = some o) : St w0 S X' w' := by
  obtain ⟨pre, rfl, rfl⟩ := ht.eq
  have hnd0 := hst.nodup
  rw [List.map_append, List.nodup_append] at hnd0
  obtain ⟨n1, n2, n3⟩ := hnd0
  refine ⟨hst.keeps.trans k (fun x hx hlt => ?_), fun b o hb => ?_, ?_⟩
  · rcases hm x hx with h | h
    · exact h
    · omega
  · rcases List.mem_append.1 hb with hb | hb
    · have ho := hst.own b o (List.mem_append.2 (.inl hb))
      rw [k.block b (lt_of_some ho) (fun hx => n3 b (List.mem_map.2 ⟨_, hb, rfl⟩) b (hS b hx) rfl)]
      exact ho
    · exact hown b o hb
  · rw [List.map_append, List.nodup_append]
    refine ⟨n1, hnd, fun x hx y hy e => ?_⟩
    subst e
    obtain ⟨y', hy', e'⟩ := List.mem_map.1 hy
    subst e'
    rcases hnew y' hy' with h | h
    · exact n3 _ hx _ h rfl
    · obtain ⟨z, hz, e⟩ := List.mem_map.1 hx
      have := lt_of_some (hst.own z.1 z.2 (List.mem_append.2 (.inl hz)))
      omega

section
variable {P : Program} {ops : Array Oper} {rest : List Oper} {Q : Exit → Act → World → Prop} {a : Act} {w w0 : World} {S S' : List Nat} {L X : List (Nat × Obj)}
theorem kZ {o : Oper} {c : Call} {x : Operand} {f : FuncId} {cap : Array Value} {args : List Value} {R : List (Nat × Obj) → Value → Prop} (X' : List (Nat × Obj) → List (Nat × Obj)) (hf : GoF P f) (hst : St w0 S X w) (hc : ∀ w, St w0 S X w → GivesZ P f args.toArray S' L R w)
    (ho : o.op = .call c) (hcal : c.callee = .value x) (hx : a.eval x = .func (.func f) #[] cap) (hargs : c.args.toList.map a.eval ++ cap.toList = args)
    (h : ∀ v L' w', R L' v → (∀ x ∈ L', x.1 ∈ L.map Prod.fst ∨ w0.heap.size ≤ x.1) → St w0 S (X' L') w' → wpList P ops Q rest (a.put o.dst v) w')
    (ht : ∀ L', Tail L L' X (X' L') := by intro _; repeat (first | exact Tail.here | apply Tail.there)) (hm : ∀ x ∈ S', x ∈ S ∨ w0.heap.size ≤ x := by (try simp) <;> omega) (hg : o.guard = none := by rfl) : wpList P ops Q (o :: rest) a w := by
  refine wpList_plain hg fun K hK => ?_
  unfold Oper.wp
  rw [run_execOp_call ho hcal hx, args_eq hargs, run_callFunc_go hf, Oper.upon_enter]
  obtain ⟨hS, hc⟩ := hc w hst
  refine hc.mono fun e w'' hh => ?_
  obtain ⟨v, rfl, hk, L', hR, hnd, hnew, hown⟩ := hh
  exact hK _ _ (h v L' w'' hR (fun x hx => (hnew x hx).imp id (fun q => Nat.le_trans hst.keeps.size q)) (hst.turn (ht L') hS hm hk hnd hnew hown))
theorem PostZ.of {R : List (Nat × Obj) → Value → Prop} {L' X' : List (Nat × Obj)} {v : Value} (hst : St w0 S X' w) (hR : R L' v) (hnew : ∀ x ∈ L', x.1 ∈ L.map Prod.fst ∨ w0.heap.size ≤ x.1)
    (ht : Tail L L' X X' := by repeat (first | exact Tail.here | apply Tail.there)) : PostZ S L R w0 (.returned v) w := by
  obtain ⟨pre, rfl, rfl⟩ := ht.eq
  have h := hst.nodup
  rw [List.map_append, List.nodup_append] at h
  exact ⟨v, rfl, hst.keeps, L', hR, h.2.1, hnew, fun b o hb => hst.own b o (List.mem_append.2 (.inr hb))⟩
end

end Go.Proofs.YtggchelniblipaaGreatDoor.Rd

namespace Go.Proofs.YtggchelniblipaaGreatDoor.Rd
open Go Go.RowKit
set_option linter.unusedVariables false
set_option linter.unusedSimpArgs false
set_option maxRecDepth 100000

/-- The blocks of a set that is ready. -/
def EngL (bs br : Nat) (c : Array Value) (c1 c2 c3 c4 : Nat) (q : Nat → Int) : List (Nat × Obj) := [(bs, .cells (engR 0 1 br c1 c2 c3 c4 (q 0) (q 1) (q 2) (q 3) (q 4)) 63), (br, .cells c 92), (c1, .cells (ptrC br) 98), (c2, .cells (ptrC br) 102), (c3, .cells (ptrC br) 106), (c4, .cells (ptrC br) 110)]
def romN : Array Value := romC 0 0 0 0 0
theorem romN_ok : RomOk romN := Or.inl rfl
/-- A set, ready or not. -/
def SetSt (bs br : Nat) (c : Array Value) (q : Nat → Int) (L : List (Nat × Obj)) : Prop := (SetNew bs br L ∧ c = romN ∧ q = fun _ => 0) ∨ ∃ c1 c2 c3 c4, L = EngL bs br c c1 c2 c3 c4 q
theorem SetSt.bs {bs br : Nat} {c : Array Value} {q : Nat → Int} {L : List (Nat × Obj)} (h : SetSt bs br c q L) : bs ∈ L.map Prod.fst ∧ br ∈ L.map Prod.fst := by
  rcases h with ⟨rfl, _⟩ | ⟨c1, c2, c3, c4, rfl⟩ <;> simp [EngL]
def Owns (w : World) (L : List (Nat × Obj)) : Prop := (L.map Prod.fst).Nodup ∧ ∀ b o, (b, o) ∈ L → w.heap[b]? = some o
theorem St.ofOwns {w : World} {L : List (Nat × Obj)} (S : List Nat) (h : Owns w L) : St w S L w := ⟨Keeps.refl _ _, h.2, h.1⟩
theorem St.owns {w0 w : World} {S : List Nat} {L L' X X' : List (Nat × Obj)} (h : St w0 S X' w) (ht : Tail L L' X X') : Owns w L' := by
  obtain ⟨pre, rfl, rfl⟩ := ht.eq
  have hn := h.nodup
  rw [List.map_append, List.nodup_append] at hn
  exact ⟨hn.2.1, fun b o hb => h.own b o (List.mem_append.2 (.inr hb))⟩

theorem engR_sets (br c1 c2 c3 c4 : Nat) : ((engR 1 0 br c1 c2 c3 c4 0 0 0 0 0).setIfInBounds 0 (.int .u32 1)).setIfInBounds (0 + 1) (.int .i32 0) = engR 0 1 br c1 c2 c3 c4 0 0 0 0 0 := rfl
theorem engN_set (p : Option Addr) : (engN p).setIfInBounds (0 + 1) (.int .i32 1) = engC 0 1 p .nilIface .nilIface .nilIface .nilIface 0 0 0 0 0 := rfl

theorem eng_do (b1 bs br : Nat) (c : Array Value) (q : Nat → Int) (L : List (Nat × Obj)) (hS : SetSt bs br c q L) (E1 : TypeId) (hb1 : b1 ∉ L.map Prod.fst) (w : World) (h1 : w.heap[b1]? = some (.cells #[.pointer (some ⟨bs, 0, none⟩)] E1)) (hL : Owns w L) :
    GivesZ Tryz.prog 21 #[.pointer (some ⟨bs, 0, none⟩), .func (.func 22) #[] #[.pointer (some ⟨b1, 0, none⟩)]] [bs] L (fun L' v => v = .tuple #[] ∧ ∃ c1 c2 c3 c4, L' = EngL bs br c c1 c2 c3 c4 q) w := by
  refine ⟨fun x hx => by rw [List.mem_singleton.1 hx]; exact hS.bs.1, ?_⟩
  rcases hS with ⟨rfl, rfl, rfl⟩ | ⟨c1, c2, c3, c4, rfl⟩
  · obtain ⟨hnd, hown⟩ := hL
    have hbs := hown bs _ (List.Mem.head _)
    have hbr := hown br _ (List.Mem.tail _ (List.Mem.head _))
    simp only [List.map_cons, List.map_nil, List.nodup_cons, List.mem_cons, List.not_mem_nil, or_false, not_or, not_false_eq_true, List.nodup_nil, and_true] at hnd hb1
    have h := once_G 22 gf22 #[.pointer (some ⟨b1, 0, none⟩)] bs 0 63 (engN (some ⟨br, 0, none⟩))
      (fun cs2 w1 w2 => ∃ c1 c2 c3 c4, cs2 = engR 1 0 br c1 c2 c3 c4 0 0 0 0 0 ∧ NewIn w1.heap.size [(c1, .cells (ptrC br) 98), (c2, .cells (ptrC br) 102), (c3, .cells (ptrC br) 106), (c4, .cells (ptrC br) 110)] ∧
        Keeps [bs] w1 w2 ∧ ∀ b o, (b, o) ∈ [(c1, .cells (ptrC br) 98), (c2, .cells (ptrC br) 102), (c3, .cells (ptrC br) 106), (c4, .cells (ptrC br) 110)] → w2.heap[b]? = some o) w hbs rfl rfl
      (fun w1 hw1 k1 => by
        rw [engN_set] at hw1
        refine (engine_ready_1 b1 bs br E1 (fun e => hb1.1 e.symm) w1 (by rw [k1.block b1 (lt_of_some h1) (by simpa using hb1.1)]; exact h1) hw1).mono ?_
        rintro e w2 ⟨rfl, c1, c2, c3, c4, hn, k2, own2⟩
        exact ⟨rfl, _, own2 bs _ (List.Mem.head _), ⟨_, rfl⟩, rfl, c1, c2, c3, c4, rfl, hn, k2, fun b o hm => own2 b o (List.Mem.tail _ hm)⟩)
    refine Calls.mono h ?_
    rintro e w' ⟨rfl, cs2, w1, w2, ⟨c1, c2, c3, c4, rfl, hn, k2, own2⟩, k1, k3, hb'⟩
    rw [engR_sets] at hb'
    have hk : Keeps [bs] w w' := (k1.trans k2 (fun x hx _ => hx)).trans k3 (fun x hx _ => hx)
    have hlt : ∀ x ∈ [(c1, Obj.cells (ptrC br) 98), (c2, .cells (ptrC br) 102), (c3, .cells (ptrC br) 106), (c4, .cells (ptrC br) 110)], w.heap.size ≤ x.1 := fun x hx => Nat.le_trans k1.size (hn.1 x hx)
    have hbsl := lt_of_some hbs
    have hbrl := lt_of_some hbr
    refine ⟨_, rfl, hk, _, ⟨rfl, c1, c2, c3, c4, rfl⟩, ?_, ?_, ?_⟩
    · have hn2 := hn.2
      have l1 := hlt _ (List.Mem.head _)
      have l2 := hlt _ (List.Mem.tail _ (List.Mem.head _))
      have l3 := hlt _ (List.Mem.tail _ (List.Mem.tail _ (List.Mem.head _)))
      have l4 := hlt _ (List.Mem.tail _ (List.Mem.tail _ (List.Mem.tail _ (List.Mem.head _))))
      simp only [EngL, List.map_cons, List.map_nil, List.nodup_cons, List.mem_cons, List.not_mem_nil, or_false, not_or] at hn2 l1 l2 l3 l4 ⊢
      simp only [hn2, not_false_eq_true, and_self, List.nodup_nil, and_true]
      exact ⟨⟨hnd, by omega, by omega, by omega, by omega⟩, by omega, by omega, by omega, by omega⟩
    · intro x hx
      simp only [EngL] at hx
      rcases List.mem_cons.1 hx with rfl | hx
      · exact .inl (by simp)
      · rcases List.mem_cons.1 hx with rfl | hx
        · exact .inl (by simp)
        · exact .inr (hlt x hx)
    · intro b o hm
      simp only [EngL] at hm
      rcases List.mem_cons.1 hm with e | hm
      · obtain ⟨rfl, rfl⟩ := Prod.mk.injEq .. ▸ e; exact hb'
      · rcases List.mem_cons.1 hm with e | hm
        · obtain ⟨rfl, rfl⟩ := Prod.mk.injEq .. ▸ e
          rw [hk.block b hbrl (by simpa using fun e => hnd e.symm)]; exact hbr
        · have := own2 b o hm
          rw [k3.block b (lt_of_some this) (by have := hlt _ hm; simp; omega)]; exact this
  · have hbs := hL.2 bs _ (List.Mem.head _)
    have c0 : w.cell? ⟨bs, 0, none⟩ = some (.int .u32 1) := by rw [cell_of_row w bs 0 _ _ _ hbs]; rfl
    refine (on_done ⟨bs, 0, none⟩ 1 (by omega) _ w c0).mono ?_
    rintro e w' ⟨rfl, rfl⟩
    exact ⟨_, rfl, Keeps.refl _ _, _, ⟨rfl, c1, c2, c3, c4, rfl⟩, hL.1, fun x hx => .inl (List.mem_map.2 ⟨x, hx, rfl⟩), hL.2⟩

end Go.Proofs.YtggchelniblipaaGreatDoor.Rd

namespace Go.Proofs.YtggchelniblipaaGreatDoor.Rd
open Go Go.RowKit
set_option linter.unusedVariables false
set_option linter.unusedSimpArgs false
set_option maxRecDepth 100000

theorem engine_ready (bs br : Nat) (c : Array Value) (q : Nat → Int) (L : List (Nat × Obj)) (hS : SetSt bs br c q L) (w0 : World) (hL : Owns w0 L) :
    GivesZ Tryz.prog 14 #[.pointer (some ⟨bs, 0, none⟩)] [bs] L (fun L' v => v = .tuple #[] ∧ ∃ c1 c2 c3 c4, L' = EngL bs br c c1 c2 c3 c4 q) w0 := by
  refine ⟨fun x hx => by rw [List.mem_singleton.1 hx]; exact hS.bs.1, ?_⟩
  have hst := St.ofOwns [bs] hL
  have hdo := fun (b1 : Nat) (w : World) (hst : St w0 [bs] ((b1, .cells #[.pointer (some ⟨bs, 0, none⟩)] 29) :: L) w) => eng_do b1 bs br c q L hS 29 (List.nodup_cons.1 hst.nodup).1 w (hst.own _ _ (List.Mem.head _)) (hst.owns (L := L) (.there .here))
  clear hS hL
  go_enter Tryz.func14, Tryz.ntmps14
  go_wp2_with ((first | (refine kZ (fun L' => (b1, .cells #[.pointer (some ⟨bs, 0, none⟩)] 29) :: L') gf21 hst (fun w hst => hdo b1 w hst) rfl rfl rfl rfl ?_; clear hst; intro v6 L' w hR hnew hst; obtain ⟨rfl, hR⟩ := hR) | (refine kb 1 hst rfl rfl ?_; clear hst; intro b1 w hb1 hst) | (refine kc hst tc29 rfl ?_)); try simp only [pz, pn, sz, sc])
  exact bp_0 rfl rfl (PostZ.of hst ⟨rfl, hR⟩ hnew)

theorem engine_is_yes (k : Int) (h1 : 1 ≤ k) (h2 : k ≤ 4) : Gives Tryz.prog 13 #[.int .i64 k] (.bool true) := by
  intro w0
  have hst := St.start [] w0
  have q1 : k < 5 := by omega
  go_enter Tryz.func13, Tryz.ntmps13
  go_wp2_with fail
  refine bp_t rfl rfl (by rfl) ⟨?_, hst.keeps⟩
  rfl
theorem engine_is_no (k : Int) (h : k < 1 ∨ 4 < k) : Gives Tryz.prog 13 #[.int .i64 k] (.bool false) := by
  intro w0
  have hst := St.start [] w0
  rcases h with h | h
  · have q1 : ¬ 1 ≤ k := by omega
    clear h
    go_enter Tryz.func13, Tryz.ntmps13
    go_wp2_with fail
    refine bp_t rfl rfl (by rfl) ⟨?_, hst.keeps⟩
    rfl
  · have q1 : 1 ≤ k := by omega
    have q2 : ¬ k < 5 := by omega
    clear h
    go_enter Tryz.func13, Tryz.ntmps13
    go_wp2_with fail
    refine bp_t rfl rfl (by rfl) ⟨?_, hst.keeps⟩
    rfl

/-- The engine of a number. -/
def engA (k : Nat) (c1 c2 c3 c4 : Nat) : Value := if k = 1 then eA1 else if k = 2 then eA2 else if k = 3 then eA3 c1 c2 else eA4 c3 c4
theorem engR_at (d m : Int) (br c1 c2 c3 c4 : Nat) (q0 q1 q2 q3 q4 : Int) (k : Nat) (h1 : 1 ≤ k) (h2 : k ≤ 4) : (engR d m br c1 c2 c3 c4 q0 q1 q2 q3 q4)[4 + k]? = some (engA k c1 c2 c3 c4) := by
  obtain rfl | rfl | rfl | rfl : k = 1 ∨ k = 2 ∨ k = 3 ∨ k = 4 := by omega
  all_goals rfl

set_option maxHeartbeats 1000000 in
theorem engine_Of (bs br : Nat) (c : Array Value) (q : Nat → Int) (L : List (Nat × Obj)) (hS : SetSt bs br c q L) (k : Nat) (h1 : 1 ≤ k) (h2 : k ≤ 4) (w0 : World) (hL : Owns w0 L) :
    GivesZ Tryz.prog 6 #[.pointer (some ⟨bs, 0, none⟩), .int .i64 k] [bs] L (fun L' v => ∃ c1 c2 c3 c4, v = .tuple #[engA k c1 c2 c3 c4, .bool true] ∧ L' = EngL bs br c c1 c2 c3 c4 q) w0 := by
  refine ⟨fun x hx => by rw [List.mem_singleton.1 hx]; exact hS.bs.1, ?_⟩
  have hst := St.ofOwns [bs] hL
  have hrd := fun (w : World) (hst : St w0 [bs] L w) => engine_ready bs br c q L hS w (hst.owns (L := L) .here)
  have his := engine_is_yes k (by omega) (by omega)
  have i1 : (0 : Int) ≤ (k : Int) := by omega
  have i2 : (k : Int) < 5 := by omega
  have hat := fun c1 c2 c3 c4 => engR_at 0 1 br c1 c2 c3 c4 (q 0) (q 1) (q 2) (q 3) (q 4) k h1 h2
  have hA := fun c1 c2 c3 c4 => (rfl : engA k c1 c2 c3 c4 = engA k c1 c2 c3 c4)
  clear hS hL h1 h2 hA
  go_enter Tryz.func6, Tryz.ntmps6
  go_wp2_with ((first | (refine kf gf13 hst (his) rfl rfl rfl rfl ?_; clear hst; intro w hst) | (refine kZ (fun L' => L') gf14 hst (fun w hst => hrd w hst) rfl rfl rfl rfl ?_; clear hst; intro v14 L' w hR hnew hst; obtain ⟨rfl, c1, c2, c3, c4, rfl⟩ := hR; have hv := hat c1 c2 c3 c4) | (refine wl_guard (by rfl) ?_) | (refine kc hst tc31 rfl ?_)); try simp only [pz, pn, sz, sc])
  exact bp_tt rfl rfl (by rfl) (by rfl) (PostZ.of hst ⟨c1, c2, c3, c4, rfl, rfl⟩ hnew)

end Go.Proofs.YtggchelniblipaaGreatDoor.Rd

namespace Go.Proofs.YtggchelniblipaaGreatDoor.Rd
open Go Go.RowKit
set_option linter.unusedVariables false
set_option linter.unusedSimpArgs false
set_option maxRecDepth 100000

def rootQ (n : Nat) : Nat := if n < 2 ^ 256 then isqrt n else 0
def rootM (n : Nat) : Nat := if n < 2 ^ 256 then n - isqrt n * isqrt n else 0
def rootE (n : Nat) : Int := if n < 2 ^ 256 then 0 else 4
theorem rootV_eq (n : Nat) : rootV n = .tuple #[W (rootQ n), W (rootM n), .int .i64 (rootE n)] := by
  unfold rootV rootQ rootM rootE; split <;> rfl
theorem Gives.toT {P : Program} {f : FuncId} {args : Array Value} {v : Value} (h : Gives P f args v) (Ls : List (Nat × Obj)) {w : World} (hL : ∀ b o, (b, o) ∈ Ls → w.heap[b]? = some o) : GivesT P f args v Ls Ls w :=
  (h w).mono fun e w' ⟨h1, k⟩ => ⟨h1, k.mono (by simp), fun b o hm => by rw [k.block b (lt_of_some (hL b o hm)) (by simp)]; exact hL b o hm⟩

theorem restoring_Root (n : Nat) (hn : n < M) : Gives Tryz.prog 81 #[.agg #[], W n] (rootV n) := by
  intro w0
  have hst := St.start [] w0
  have h := root2_Root n hn
  rw [rootV_eq] at h ⊢
  generalize rootQ n = x at *
  generalize rootM n = y at *
  generalize rootE n = e at *
  go_enter Tryz.func81, Tryz.ntmps81
  go_wp2_with ((first | (refine kf gf83 hst (h) rfl rfl rfl rfl ?_; clear hst; intro w hst) | (refine kb 2 hst rfl rfl ?_; clear hst; intro b2 w hb2 hst) | (refine kb 3 hst rfl rfl ?_; clear hst; intro b3 w hb3 hst) | (refine ka 4 hst tz24 rfl rfl ?_; clear hst; intro b4 w hb4 hst) | (refine ka 5 hst tz24 rfl rfl ?_; clear hst; intro b5 w hb5 hst) | (refine kl hst ta24 rfl ?_) | (refine klm hst ta24 rfl ?_) | (refine kt hst ta24 rfl rfl ?_; clear hst; intro w hst) | (refine ktm hst ta24 rfl rfl ?_; clear hst; intro w hst)); try simp only [pz, pn, sz, sc])
  refine bp_cct rfl rfl (la hst ta24) (la hst ta24) (by rfl) ⟨?_, hst.keeps⟩
  rfl

theorem signed_Root (n : Nat) (hn : n < M) : Gives Tryz.prog 114 #[.agg #[], W n] (rootV n) := by
  intro w0
  have hst := St.start [] w0
  have h := srtroot_Root n hn
  rw [rootV_eq] at h ⊢
  generalize rootQ n = x at *
  generalize rootM n = y at *
  generalize rootE n = e at *
  go_enter Tryz.func114, Tryz.ntmps114
  go_wp2_with ((first | (refine kf gf116 hst (h) rfl rfl rfl rfl ?_; clear hst; intro w hst) | (refine kb 2 hst rfl rfl ?_; clear hst; intro b2 w hb2 hst) | (refine kb 3 hst rfl rfl ?_; clear hst; intro b3 w hb3 hst) | (refine ka 4 hst tz24 rfl rfl ?_; clear hst; intro b4 w hb4 hst) | (refine ka 5 hst tz24 rfl rfl ?_; clear hst; intro b5 w hb5 hst) | (refine kl hst ta24 rfl ?_) | (refine klm hst ta24 rfl ?_) | (refine kt hst ta24 rfl rfl ?_; clear hst; intro w hst) | (refine ktm hst ta24 rfl rfl ?_; clear hst; intro w hst)); try simp only [pz, pn, sz, sc])
  refine bp_cct rfl rfl (la hst ta24) (la hst ta24) (by rfl) ⟨?_, hst.keeps⟩
  rfl

theorem byNewton_Root (c1 be br : Nat) (c : Array Value) (hc : RomOk c) (hne : be ≠ br) (n : Nat) (hn : n < M) (w0 : World) (he : w0.heap[be]? = some (.cells (ptrC br) 102)) (hr : w0.heap[br]? = some (.cells c 92)) :
    GivesT Tryz.prog 193 #[.agg #[.pointer (some ⟨c1, 0, none⟩), .pointer (some ⟨be, 0, none⟩)], W n] (rootV n) [(br, .cells c 92)] [(br, .cells (romTo n c) 92)] w0 := by
  have hst := St.eng hne he hr
  have hlt := lt_of_some he
  have hltr := lt_of_some hr
  have h := fun (w : World) (q : w.heap[be]? = some (.cells (ptrC br) 102)) (h' : w.heap[br]? = some (.cells c 92)) => nroot_Root be br c hc hne n hn w q h'
  rw [rootV_eq] at h ⊢
  clear hc he hr
  generalize rootQ n = x at *
  generalize rootM n = y at *
  generalize rootE n = e at *
  generalize romTo n c = cf at *
  generalize ptrC br = pc at *
  go_enter Tryz.func193, Tryz.ntmps193
  go_wp2_with ((first | (refine kT gf181 hst (fun w hst => h w (hst.own _ _ (by repeat (first | exact List.Mem.head _ | refine List.Mem.tail _ ?_))) (hst.own _ _ (by repeat (first | exact List.Mem.head _ | refine List.Mem.tail _ ?_)))) rfl rfl rfl rfl ?_; clear hst; intro w hst) | (refine kb 2 hst rfl rfl ?_; clear hst; intro b2 w hb2 hst) | (refine kb 3 hst rfl rfl ?_; clear hst; intro b3 w hb3 hst) | (refine ka 4 hst tz24 rfl rfl ?_; clear hst; intro b4 w hb4 hst) | (refine ka 5 hst tz24 rfl rfl ?_; clear hst; intro b5 w hb5 hst) | (refine kc hst tc75 rfl ?_) | (refine kl hst ta24 rfl ?_) | (refine klm hst ta24 rfl ?_) | (refine kt hst ta24 rfl rfl ?_; clear hst; intro w hst) | (refine ktm hst ta24 rfl rfl ?_; clear hst; intro w hst)); try simp only [pz, pn, sz, sc])
  refine bp_cct rfl rfl (la hst ta24) (la hst ta24) (by rfl) ⟨?_, hst.keeps, own_one (hst.own _ _ (by simp))⟩
  rfl

theorem byGold_Root (c1 be br : Nat) (c : Array Value) (hc : RomOk c) (hne : be ≠ br) (n : Nat) (hn : n < M) (w0 : World) (he : w0.heap[be]? = some (.cells (ptrC br) 110)) (hr : w0.heap[br]? = some (.cells c 92)) :
    GivesT Tryz.prog 204 #[.agg #[.pointer (some ⟨c1, 0, none⟩), .pointer (some ⟨be, 0, none⟩)], W n] (rootV n) [(br, .cells c 92)] [(br, .cells (romTo n c) 92)] w0 := by
  have hst := St.eng hne he hr
  have hlt := lt_of_some he
  have hltr := lt_of_some hr
  have h := fun (w : World) (q : w.heap[be]? = some (.cells (ptrC br) 110)) (h' : w.heap[br]? = some (.cells c 92)) => groot_Root be br c hc hne n hn w q h'
  rw [rootV_eq] at h ⊢
  clear hc he hr
  generalize rootQ n = x at *
  generalize rootM n = y at *
  generalize rootE n = e at *
  generalize romTo n c = cf at *
  generalize ptrC br = pc at *
  go_enter Tryz.func204, Tryz.ntmps204
  go_wp2_with ((first | (refine kT gf199 hst (fun w hst => h w (hst.own _ _ (by repeat (first | exact List.Mem.head _ | refine List.Mem.tail _ ?_))) (hst.own _ _ (by repeat (first | exact List.Mem.head _ | refine List.Mem.tail _ ?_)))) rfl rfl rfl rfl ?_; clear hst; intro w hst) | (refine kb 2 hst rfl rfl ?_; clear hst; intro b2 w hb2 hst) | (refine kb 3 hst rfl rfl ?_; clear hst; intro b3 w hb3 hst) | (refine ka 4 hst tz24 rfl rfl ?_; clear hst; intro b4 w hb4 hst) | (refine ka 5 hst tz24 rfl rfl ?_; clear hst; intro b5 w hb5 hst) | (refine kc hst tc81 rfl ?_) | (refine kl hst ta24 rfl ?_) | (refine klm hst ta24 rfl ?_) | (refine kt hst ta24 rfl rfl ?_; clear hst; intro w hst) | (refine ktm hst ta24 rfl rfl ?_; clear hst; intro w hst)); try simp only [pz, pn, sz, sc])
  refine bp_cct rfl rfl (la hst ta24) (la hst ta24) (by rfl) ⟨?_, hst.keeps, own_one (hst.own _ _ (by simp))⟩
  rfl

theorem meth_Root (k c1 c2 c3 c4 n : Nat) (h1 : 1 ≤ k) (h2 : k ≤ 4) : ∃ f x, GoF Tryz.prog f ∧ (∀ w, (callMethod (engA k c1 c2 c3 c4) "Root" #[W n]).run Tryz.prog w = .ok (.enter f #[x, W n]) w) ∧
    ((k = 1 ∧ f = 81 ∧ x = .agg #[]) ∨ (k = 2 ∧ f = 114 ∧ x = .agg #[]) ∨ (k = 3 ∧ f = 193 ∧ x = .agg #[.pointer (some ⟨c1, 0, none⟩), .pointer (some ⟨c2, 0, none⟩)]) ∨ (k = 4 ∧ f = 204 ∧ x = .agg #[.pointer (some ⟨c3, 0, none⟩), .pointer (some ⟨c4, 0, none⟩)])) := by
  obtain rfl | rfl | rfl | rfl : k = 1 ∨ k = 2 ∨ k = 3 ∨ k = 4 := by omega
  · exact ⟨_, _, gf81, fun w => by unfold engA eA1; kernel_rfl, .inl ⟨rfl, rfl, rfl⟩⟩
  · exact ⟨_, _, gf114, fun w => by unfold engA eA2; kernel_rfl, .inr (.inl ⟨rfl, rfl, rfl⟩)⟩
  · exact ⟨_, _, gf193, fun w => by unfold engA eA3; kernel_rfl, .inr (.inr (.inl ⟨rfl, rfl, rfl⟩))⟩
  · exact ⟨_, _, gf204, fun w => by unfold engA eA4; kernel_rfl, .inr (.inr (.inr ⟨rfl, rfl, rfl⟩))⟩

end Go.Proofs.YtggchelniblipaaGreatDoor.Rd

namespace Go.Proofs.YtggchelniblipaaGreatDoor.Rd
open Go Go.RowKit
set_option linter.unusedVariables false
set_option linter.unusedSimpArgs false
set_option maxRecDepth 100000

/-- One more. -/
def bump (k : Nat) (q : Nat → Int) : Nat → Int := fun i => if i = k then q i + 1 else q i
theorem engR_cnt (d m : Int) (br c1 c2 c3 c4 : Nat) (q : Nat → Int) (k : Nat) (h2 : k ≤ 4) : (engR d m br c1 c2 c3 c4 (q 0) (q 1) (q 2) (q 3) (q 4))[9 + k]? = some (.int .i64 (q k)) := by
  obtain rfl | rfl | rfl | rfl | rfl : k = 0 ∨ k = 1 ∨ k = 2 ∨ k = 3 ∨ k = 4 := by omega
  all_goals rfl
theorem engR_bump (d m : Int) (br c1 c2 c3 c4 : Nat) (q : Nat → Int) (k : Nat) (h2 : k ≤ 4) : (engR d m br c1 c2 c3 c4 (q 0) (q 1) (q 2) (q 3) (q 4)).setIfInBounds (9 + k) (.int .i64 (q k + 1)) = engR d m br c1 c2 c3 c4 (bump k q 0) (bump k q 1) (bump k q 2) (bump k q 3) (bump k q 4) := by
  obtain rfl | rfl | rfl | rfl | rfl : k = 0 ∨ k = 1 ∨ k = 2 ∨ k = 3 ∨ k = 4 := by omega
  all_goals rfl

def keysE (bs br c1 c2 c3 c4 : Nat) : List Nat := [bs, br, c1, c2, c3, c4]
theorem EngL_keys (bs br : Nat) (c : Array Value) (c1 c2 c3 c4 : Nat) (q : Nat → Int) : (EngL bs br c c1 c2 c3 c4 q).map Prod.fst = keysE bs br c1 c2 c3 c4 := rfl
theorem keys_of {bs br : Nat} {c : Array Value} {c1 c2 c3 c4 : Nat} {q : Nat → Int} {A : List Nat} {s : Nat} (h : ∀ x ∈ EngL bs br c c1 c2 c3 c4 q, x.1 ∈ A ∨ s ≤ x.1) : ∀ y ∈ keysE bs br c1 c2 c3 c4, y ∈ A ∨ s ≤ y := fun y hy => by
  rw [← EngL_keys bs br c c1 c2 c3 c4 q] at hy
  obtain ⟨x, hx, rfl⟩ := List.mem_map.1 hy
  exact h x hx
theorem of_keys {bs br : Nat} {c : Array Value} {c1 c2 c3 c4 : Nat} {q : Nat → Int} {A : List Nat} {s : Nat} (h : ∀ y ∈ keysE bs br c1 c2 c3 c4, y ∈ A ∨ s ≤ y) : ∀ x ∈ EngL bs br c c1 c2 c3 c4 q, x.1 ∈ A ∨ s ≤ x.1 := fun x hx =>
  h x.1 (by rw [← EngL_keys bs br c c1 c2 c3 c4 q]; exact List.mem_map.2 ⟨x, hx, rfl⟩)

set_option maxHeartbeats 4000000 in
theorem engine_ask (bs br : Nat) (c c' : Array Value) (q : Nat → Int) (L : List (Nat × Obj)) (hS : SetSt bs br c q L) (k : Nat) (h1 : 1 ≤ k) (h2 : k ≤ 4) (hq1 : 0 ≤ q k) (hq2 : q k ≤ 1000) (g : FuncId) (hg : GoF Tryz.prog g) (cap : Array Value) (a b : Nat) (e : Int) (w0 : World) (hL : Owns w0 L)
    (ht : ∀ c1 c2 c3 c4 w, Keeps [bs, br] w0 w → (∀ y ∈ keysE bs br c1 c2 c3 c4, y ∈ L.map Prod.fst ∨ w0.heap.size ≤ y) → Owns w (EngL bs br c c1 c2 c3 c4 (bump k q)) → GivesT Tryz.prog g ([engA k c1 c2 c3 c4] ++ cap.toList).toArray (.tuple #[W a, W b, .int .i64 e]) [(br, .cells c 92)] [(br, .cells c' 92)] w) :
    GivesZ Tryz.prog 15 #[.pointer (some ⟨bs, 0, none⟩), .int .i64 k, .func (.func g) #[] cap] [bs, br] L (fun L' v => v = .tuple #[W a, W b, .int .i64 e] ∧ ∃ c1 c2 c3 c4, L' = EngL bs br c' c1 c2 c3 c4 (bump k q)) w0 := by
  refine ⟨fun x hx => by simp only [List.mem_cons, List.not_mem_nil, or_false] at hx; rcases hx with rfl | rfl; exact hS.bs.1; exact hS.bs.2, ?_⟩
  have hst := St.ofOwns [bs, br] hL
  have hof := fun (w : World) (ho : Owns w L) => engine_Of bs br c q L hS k h1 h2 w ho
  have hadd := fun c1 c2 c3 c4 (w : World) (h : w.heap[bs]? = some (.cells (engR 0 1 br c1 c2 c3 c4 (q 0) (q 1) (q 2) (q 3) (q 4)) 63)) => int64_Add bs (9 + k) (q k) (by omega) (by omega) _ 63 (engR_cnt 0 1 br c1 c2 c3 c4 q k h2) w h
  simp only [engR_bump _ _ _ _ _ _ _ _ _ h2] at hadd
  have i1 : (0 : Int) ≤ (k : Int) := by omega
  have i2 : (k : Int) < 5 := by omega
  have ht' := Lib.hid ht
  clear hS hL h1 h2 hq1 hq2 ht
  go_enter Tryz.func15, Tryz.ntmps15
  go_wp2_with ((first | (refine kZ (fun L' => (b7, .cells (wc 8 0) 24) :: (b6, .cells (wc 8 0) 24) :: L') gf6 hst (fun w hst => hof w (hst.owns (L := L) (.there (.there .here)))) rfl rfl rfl rfl ?_; clear hst; intro v14 L' w hR hnew hst; obtain ⟨c1, c2, c3, c4, rfl, rfl⟩ := hR; replace hnew := keys_of hnew; unfold EngL at hst) | (refine kT gf27 hst (fun w hst => hadd c1 c2 c3 c4 w (hst.own _ _ (by repeat (first | exact List.Mem.head _ | refine List.Mem.tail _ ?_)))) rfl rfl rfl rfl ?_; clear hst; intro w hst) | (refine kT hg hst (fun w hst => ht'.out c1 c2 c3 c4 w hst.keeps hnew (hst.owns (L := L) (L' := EngL bs br c c1 c2 c3 c4 (bump k q)) (.there (.there .here)))) rfl rfl rfl rfl ?_; clear hst; intro w hst) | (refine ka 6 hst tz24 rfl rfl ?_; clear hst; intro b6 w hb6 hst) | (refine ka 7 hst tz24 rfl rfl ?_; clear hst; intro b7 w hb7 hst) | (refine kt hst ta24 rfl rfl ?_; clear hst; intro w hst) | (refine ktm hst ta24 rfl rfl ?_; clear hst; intro w hst)); try simp only [pz, pn, sz, sc])
  refine bp_cct rfl rfl (la hst ta24) (la hst ta24) (by rfl) (PostZ.of (L' := EngL bs br c' c1 c2 c3 c4 (bump k q)) hst ⟨rfl, c1, c2, c3, c4, rfl⟩ (of_keys hnew) (.there (.there .here)))

/-- The rom behind a root by an engine. -/
def romK (k n : Nat) (c : Array Value) : Array Value := if k < 3 then c else romTo n c
theorem romK_ok {k n : Nat} {c : Array Value} (h : RomOk c) : RomOk (romK k n c) := by unfold romK; split; exact h; exact romTo_ok h

theorem eng_root (bs br : Nat) (c : Array Value) (hc : RomOk c) (c1 c2 c3 c4 : Nat) (q : Nat → Int) (k n : Nat) (h1 : 1 ≤ k) (h2 : k ≤ 4) (hn : n < M) : ∃ f x, (∀ w, (callMethod (engA k c1 c2 c3 c4) "Root" #[W n]).run Tryz.prog w = .ok (.enter f #[x, W n]) w) ∧
    ∀ w, Owns w (EngL bs br c c1 c2 c3 c4 q) → GivesT Tryz.prog f #[x, W n] (rootV n) [(br, .cells c 92)] [(br, .cells (romK k n c) 92)] w := by
  obtain ⟨f, x, _, hm, hk⟩ := meth_Root k c1 c2 c3 c4 n h1 h2
  refine ⟨f, x, hm, fun w hL => ?_⟩
  have hbr := hL.2 br _ (List.Mem.tail _ (List.Mem.head _))
  have hc2 := hL.2 c2 _ (List.Mem.tail _ (List.Mem.tail _ (List.Mem.tail _ (List.Mem.head _))))
  have hc4 := hL.2 c4 _ (List.Mem.tail _ (List.Mem.tail _ (List.Mem.tail _ (List.Mem.tail _ (List.Mem.tail _ (List.Mem.head _))))))
  have hnd := hL.1
  simp only [EngL, List.map_cons, List.map_nil, List.nodup_cons, List.mem_cons, List.not_mem_nil, or_false, not_or] at hnd
  unfold romK
  rcases hk with ⟨rfl, rfl, rfl⟩ | ⟨rfl, rfl, rfl⟩ | ⟨rfl, rfl, rfl⟩ | ⟨rfl, rfl, rfl⟩
  · exact Gives.toT (restoring_Root n hn) _ (own_one hbr)
  · exact Gives.toT (signed_Root n hn) _ (own_one hbr)
  · exact byNewton_Root c1 c2 br c hc (fun e => by omega) n hn w hc2 hbr
  · exact byGold_Root c3 c4 br c hc (fun e => by omega) n hn w hc4 hbr

set_option maxHeartbeats 1000000 in
theorem engine_Root_1 (bs br : Nat) (c : Array Value) (hc : RomOk c) (c1 c2 c3 c4 : Nat) (q : Nat → Int) (k n : Nat) (h1 : 1 ≤ k) (h2 : k ≤ 4) (hn : n < M) (b5 : Nat) (hb5 : b5 ∉ keysE bs br c1 c2 c3 c4) (E5 : TypeId) (w0 : World) (h5 : w0.heap[b5]? = some (.cells (wc 8 n) E5)) (hL : Owns w0 (EngL bs br c c1 c2 c3 c4 q)) :
    GivesT Tryz.prog 17 #[engA k c1 c2 c3 c4, .pointer (some ⟨b5, 0, none⟩)] (.tuple #[W (rootQ n), W (rootM n), .int .i64 (rootE n)]) [(br, .cells c 92)] [(br, .cells (romK k n c) 92)] w0 := by
  have hst := (St.ofOwns [br] hL).add h5 (by rw [EngL_keys]; exact hb5)
  obtain ⟨f, x, hm, hr⟩ := eng_root bs br c hc c1 c2 c3 c4 q k n h1 h2 hn
  rw [rootV_eq] at hr
  have hr' := Lib.hid hr
  clear hr hL hc h5 h1 h2 hn hb5
  generalize engA k c1 c2 c3 c4 = A at *
  generalize rootQ n = x1 at *
  generalize rootM n = x2 at *
  generalize rootE n = x3 at *
  generalize romK k n c = cf at *
  unfold EngL at hst
  go_enter Tryz.func17, Tryz.ntmps17
  go_wp2_with ((first | (refine kTI hst (fun w hst => hr'.out w (hst.owns (L := []) (L' := EngL bs br c c1 c2 c3 c4 q) (X := [_, _, _]) (.there (.there (.there .here))))) hm rfl rfl rfl rfl ?_; clear hst; intro w hst) | (refine ka 3 hst tz24 rfl rfl ?_; clear hst; intro b3 w hb3 hst) | (refine ka 4 hst tz24 rfl rfl ?_; clear hst; intro b4 w hb4 hst) | (refine kl hst ta24 rfl ?_) | (refine klm hst ta24 rfl ?_) | (refine kt hst ta24 rfl rfl ?_; clear hst; intro w hst) | (refine ktm hst ta24 rfl rfl ?_; clear hst; intro w hst)); try simp only [pz, pn, sz, sc])
  refine bp_cct rfl rfl (la hst ta24) (la hst ta24) (by rfl) ⟨?_, hst.keeps, own_one (hst.own _ _ (by simp))⟩
  rfl

set_option maxHeartbeats 1000000 in
theorem engine_Root (bs br : Nat) (c : Array Value) (hc : RomOk c) (q : Nat → Int) (L : List (Nat × Obj)) (hS : SetSt bs br c q L) (k : Nat) (h1 : 1 ≤ k) (h2 : k ≤ 4) (hq1 : 0 ≤ q k) (hq2 : q k ≤ 1000) (n : Nat) (hn : n < M) (w0 : World) (hL : Owns w0 L) :
    GivesZ Tryz.prog 8 #[.pointer (some ⟨bs, 0, none⟩), .int .i64 k, W n] [bs, br] L (fun L' v => v = .tuple #[W (rootQ n), W (rootM n), .int .i64 (rootE n)] ∧ ∃ c1 c2 c3 c4, L' = EngL bs br (romK k n c) c1 c2 c3 c4 (bump k q)) w0 := by
  refine ⟨fun x hx => by simp only [List.mem_cons, List.not_mem_nil, or_false] at hx; rcases hx with rfl | rfl; exact hS.bs.1; exact hS.bs.2, ?_⟩
  have hst := St.ofOwns [bs, br] hL
  have hbs := hS.bs
  have hask := fun (b5 : Nat) (w : World) (h5 : w.heap[b5]? = some (.cells (wc 8 n) 24)) (hb5 : b5 ∉ L.map Prod.fst) (ho : Owns w L) =>
    engine_ask bs br c (romK k n c) q L hS k h1 h2 hq1 hq2 17 gf17 #[.pointer (some ⟨b5, 0, none⟩)] (rootQ n) (rootM n) (rootE n) w ho
      (fun c1 c2 c3 c4 w' kp hk ho' => engine_Root_1 bs br c hc c1 c2 c3 c4 (bump k q) k n h1 h2 hn b5 (fun hb => by
          rcases hk b5 hb with h | h
          · exact hb5 h
          · have := lt_of_some h5; omega) 24 w' (by
          rw [kp.block b5 (lt_of_some h5) (fun hb => by simp only [List.mem_cons, List.not_mem_nil, or_false] at hb; rcases hb with rfl | rfl; exact hb5 hbs.1; exact hb5 hbs.2)]
          exact h5) ho')
  clear hS hL h1 h2 hq1 hq2 hc hn hbs
  generalize rootQ n = x1 at *
  generalize rootM n = x2 at *
  generalize rootE n = x3 at *
  generalize romK k n c = cf at *
  go_enter Tryz.func8, Tryz.ntmps8
  go_wp2_with ((first | (refine kZ (fun L' => (b7, .cells (wc 8 0) 24) :: (b6, .cells (wc 8 0) 24) :: (b5, .cells (wc 8 n) 24) :: L') gf15 hst (fun w hst => hask b5 w (hst.own _ _ (by repeat (first | exact List.Mem.head _ | refine List.Mem.tail _ ?_))) (fun hb => by have hnd := hst.nodup; simp only [List.map_cons, List.nodup_cons] at hnd; exact hnd.2.2.1 hb) (hst.owns (L := L) (.there (.there (.there .here))))) rfl rfl rfl rfl ?_; clear hst; intro v12 L' w hR hnew hst; obtain ⟨rfl, hR⟩ := hR) | (refine kb 5 hst rfl rfl ?_; clear hst; intro b5 w hb5 hst) | (refine ka 6 hst tz24 rfl rfl ?_; clear hst; intro b6 w hb6 hst) | (refine ka 7 hst tz24 rfl rfl ?_; clear hst; intro b7 w hb7 hst) | (refine kt hst ta24 rfl rfl ?_; clear hst; intro w hst) | (refine ktm hst ta24 rfl rfl ?_; clear hst; intro w hst)); try simp only [pz, pn, sz, sc])
  exact bp_cct rfl rfl (la hst ta24) (la hst ta24) (by rfl) (PostZ.of hst ⟨rfl, hR⟩ hnew (.there (.there (.there .here))))

end Go.Proofs.YtggchelniblipaaGreatDoor.Rd
