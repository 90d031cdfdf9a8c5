/- A batch's atomics, its fpu; what its counts become by a result. -/
import Derived.Test.YtoakmlopjeecoaaGreatDoorJ08
import Derived.Test.YtoakmlopjeecoaaGreatDoorJ04
import Derived.Test.YtoakmlopjeecoaaGreatDoorJ05
import Derived.Test.YtoakmlopjeecoaaGreatDoorJ06
namespace Go.Proofs.YtoakmlopjeecoaaGreatDoor.Rd
open Go Go.RowKit
set_option linter.unusedVariables false
set_option linter.unusedSimpArgs false
set_option maxRecDepth 100000

theorem engine_Name_yes (k : Nat) (h1 : 1 ≤ k) (h2 : k ≤ 4) (w0 : World) (hN : NamesIn w0) : GivesAt Tryz.prog 31 #[.int .i64 k] (.string (nm k)) w0 := by
  have hst := St.start [] w0
  have his := engine_is_yes k (by omega) (by omega)
  have hc := Lib.hid (hN k (by omega))
  have i0 : (0 : Int) ≤ (k : Int) := by omega
  have i5 : (k : Int) < 5 := by omega
  clear hN h1 h2
  generalize nm k = T at *
  go_enter Tryz.func31, Tryz.ntmps31
  go_wp2_with ((first | (refine kf gf43 hst (his) rfl rfl rfl rfl ?_; clear hst; intro w hst) | (refine kcv hst tc9 (fun w hst => hst.keeps.cellV hc.out) rfl ?_) | (refine kc hst tc9 rfl ?_)); try simp only [pz, pn, sz, sc])
  refine bp_t rfl rfl (by rfl) ⟨?_, hst.keeps⟩
  rfl

end Go.Proofs.YtoakmlopjeecoaaGreatDoor.Rd

namespace Go.Proofs.YtoakmlopjeecoaaGreatDoor.Rd
open Go Go.RowKit
set_option linter.unusedVariables false
set_option linter.unusedSimpArgs false
set_option maxRecDepth 100000

/-- The blocks of a new fpu. -/
def FpuNew (bu bs br : Nat) (L : List (Nat × Obj)) : Prop := bu ≠ bs ∧ bu ≠ br ∧ bs ≠ br ∧ L = [(bu, .cells #[.pointer (some ⟨bs, 0, none⟩)] 87), (bs, .cells (engN (some ⟨br, 0, none⟩)) 102), (br, .cells (romC 0 0 0 0 0) 124)]
theorem build_engines (p : Option Addr) (w : World) : (Instr.build 85 (List.toArray [(0, .pointer p)])).run Tryz.prog w = .ok (.agg #[.pointer p]) w := by kernel_rfl
theorem build_fpu (p : Option Addr) (w : World) : (Instr.build 87 (List.toArray [(0, .agg #[.pointer p])])).run Tryz.prog w = .ok (.agg #[.pointer p]) w := by kernel_rfl
theorem fpu_New (w0 : World) : GivesN Tryz.prog 22 #[] (fun Lg v => ∃ bu bs br, v = .pointer (some ⟨bu, 0, none⟩) ∧ FpuNew bu bs br Lg) w0 := by
  have hst := St.start [] w0
  have hn := fun w => engine_New w
  unfold FpuNew
  generalize hsN : engN = sN at *
  generalize hcN : romC 0 0 0 0 0 = c at *
  go_enter Tryz.func22, Tryz.ntmps22
  go_wp2_with ((first | (refine kN (o := ⟨some 1, _, _, _, _, _⟩) gf29 hst (fun w hst => hn w) rfl rfl rfl rfl ?_; clear hst; intro v1 Lg1 w hn1 hR1 hst; obtain ⟨bs, br, hne, rfl, hS⟩ := hR1; (try simp only [List.cons_append, List.nil_append, List.append_nil, List.append_assoc] at hst)) | (refine kB (build_engines _) rfl ?_) | (refine kB (build_fpu _) rfl ?_) | (refine kB (tb85_0 _) rfl ?_) | (refine kb 4 hst rfl rfl ?_; clear hst; intro b4 w hb4 hst)); try simp only [pz, pn, sz, sc])
  have hS' : Lg1 = [(bs, .cells (sN (some ⟨br, 0, none⟩)) 102), (br, .cells c 124)] := by rw [hS]; subst hsN hcN; rfl
  subst hS'
  have hq := hst.nodup
  simp only [List.map_cons, List.map_nil, List.nodup_cons, List.mem_cons, List.not_mem_nil, or_false, not_or] at hq
  have h1 := hn1.1 _ (List.Mem.head _)
  have h2 := hn1.1 _ (List.Mem.tail _ (List.Mem.head _))
  exact bp_t rfl rfl (by rfl) (PostN.of hst ⟨by intro x hx; simp only [List.mem_cons, List.not_mem_nil, or_false] at hx; rcases hx with rfl | rfl | rfl <;> assumption, hst.nodup⟩ ⟨b4, bs, br, rfl, hq.1.1, hq.1.2, hq.2.1, rfl⟩ (fun x h => h))

theorem recC_a (op k f m : Int) (a b : Nat) : Part (recC op k f m a b) (wdc a) (recC op k f m a b) (wdc a) 4 := ⟨#[.int .i64 op, .int .i64 k, .int .i64 f, .int .i64 m], wdc b, rfl, rfl, rfl, rfl⟩
theorem recC_b (op k f m : Int) (a b : Nat) : Part (recC op k f m a b) (wdc b) (recC op k f m a b) (wdc b) 6 := ⟨#[.int .i64 op, .int .i64 k, .int .i64 f, .int .i64 m] ++ wdc a, #[], by simp [recC], by simp [recC], by simp [wdc], rfl⟩
theorem nm_ne (k : Nat) (h1 : 1 ≤ k) (h4 : k ≤ 4) : ¬ (nm k).toList = [] := by
  intro e
  have := nm_size k
  rw [ByteArray.toList_eq] at e
  have e2 : (nm k).size = 0 := by
    have := congrArg List.length e
    simpa using this
  rw [e2] at this
  obtain rfl | rfl | rfl | rfl : k = 1 ∨ k = 2 ∨ k = 3 ∨ k = 4 := by omega
  all_goals cases this

theorem fpu_May_div (k f m : Nat) (k1 : 1 ≤ k) (k4 : k ≤ 4) (f1 : 1 ≤ f) (f4 : f ≤ 4) (m1 : 1 ≤ m) (m5 : m ≤ 5) (a b : Nat) (ha : a < M2) (hb : b < M2) (ga : a < 2 ^ fB f) (gb : b < 2 ^ fB f) (w0 : World) (hF : FmtIn w0) (hN : NamesIn w0) :
    GivesAt Tryz.prog 23 #[.agg (recC 1 k f m a b)] (.bool true) w0 := by
  have hst := St.start [] w0
  obtain ⟨g0, g1, g2, g3⟩ := recC_at 1 k f m a b
  have y1 := recC_size 1 k f m a b
  have y2 := recC_one 1 k f m a b
  have pa := recC_a 1 k f m a b
  have pb := recC_b 1 k f m a b
  have hfa := Lib.hid (fun w (kp : Keeps [] w0 w) => (decide_eq_true ga ▸ format_Fits f f1 f4 a ha w (hF.keep kp (by simp)) : GivesAt Tryz.prog 30 #[.int .i64 f, Wd a] (.bool true) w))
  have hfb := Lib.hid (fun w (kp : Keeps [] w0 w) => (decide_eq_true gb ▸ format_Fits f f1 f4 b hb w (hF.keep kp (by simp)) : GivesAt Tryz.prog 30 #[.int .i64 f, Wd b] (.bool true) w))
  have hnm := Lib.hid (fun w (kp : Keeps [] w0 w) => engine_Name_yes k k1 k4 w (fun i hi => kp.cellV (hN i hi)))
  have hmo := mode_Is_yes (m : Int) (by omega) (by omega)
  have hne : (nm k).toList.isEmpty = false := by
    have := nm_ne k k1 k4
    simpa using this
  clear ga gb ha hb hF hN k1 k4 m1 m5 f1 f4
  generalize recC 1 k f m a b = cs at *
  generalize nm k = s at *
  go_enter Tryz.func23, Tryz.ntmps23
  go_wp2_with ((first | (go_big_skip) | (refine klm hst ta24 rfl ?_ (hc := pa)) | (refine klm hst ta24 rfl ?_ (hc := pb)) | (refine kg gf30 hst (fun w hst => hfa.out w hst.keeps) rfl rfl rfl rfl ?_; clear hst; intro w hst) | (refine kg gf30 hst (fun w hst => hfb.out w hst.keeps) rfl rfl rfl rfl ?_; clear hst; intro w hst) | (refine kg gf31 hst (fun w hst => hnm.out w hst.keeps) rfl rfl rfl rfl ?_; clear hst; intro w hst) | (refine kf gf32 hst (hmo) rfl rfl rfl rfl ?_; clear hst; intro w hst) | (refine wl_guard (by rfl) ?_) | (refine kb 1 hst rfl rfl ?_; clear hst; intro b1 w hb1 hst) | (refine kc hst tc3 rfl ?_) | (refine kl hst ta24 rfl ?_) | (refine klm hst ta24 rfl ?_)); try simp only [pz, pn, sz, sc])
  refine bp_t rfl rfl (by rfl) ⟨?_, hst.keeps⟩
  rfl

theorem special_Div_1 (f : Int) (a b : Nat) (na nb : Bool) (x : Nat) (g : FuncId) (hg : GoF Tryz.prog g) (b3 b4 b5 : Nat) (h34 : b3 ≠ b4) (h35 : b3 ≠ b5) (h45 : b4 ≠ b5) (E3 E4 E5 : TypeId) (w0 : World)
    (q3 : w0.heap[b3]? = some (.cells #[.int .i64 f] E3)) (q4 : w0.heap[b4]? = some (.cells (wdc a) E4)) (q5 : w0.heap[b5]? = some (.cells (wdc b) E5))
    (ha : ∀ w, Keeps [] w0 w → GivesAt Tryz.prog 55 #[.int .i64 f, Wd a] (.bool na) w) (hb : ∀ w, Keeps [] w0 w → GivesAt Tryz.prog 55 #[.int .i64 f, Wd b] (.bool nb) w)
    (hgw : ∀ w, Keeps [] w0 w → GivesAt Tryz.prog g #[.int .i64 f, .bool (na != nb)] (Wd x) w) :
    GivesAt Tryz.prog 54 #[.func (.func g) #[] #[], .pointer (some ⟨b3, 0, none⟩), .pointer (some ⟨b4, 0, none⟩), .pointer (some ⟨b5, 0, none⟩)] (Wd x) w0 := by
  have hst := (((St.start [] w0).add q5 (by simp)).add q4 (by simpa using h45)).add q3 (by simp only [List.map_cons, List.map_nil, List.mem_cons, List.not_mem_nil, or_false, not_or]; exact ⟨h34, h35⟩)
  have ha' := Lib.hid ha
  have hb' := Lib.hid hb
  have hg' := Lib.hid hgw
  clear ha hb hgw q3 q4 q5 h34 h35 h45
  go_enter Tryz.func54, Tryz.ntmps54
  go_wp2_with ((first | (refine ka 5 hst tz24 rfl rfl ?_; clear hst; intro b5 w hb5 hst) | (refine kc hst tc3 rfl ?_) | (refine kl hst ta24 rfl ?_) | (refine klm hst ta24 rfl ?_) | (refine kt hst ta24 rfl rfl ?_; clear hst; intro w hst)); try simp only [pz, pn, sz, sc])
  refine wp_region_T 10  hst (by kernel_rfl) ?_; clear hst; intro w hst; (try simp only [List.length_cons, List.length_nil, Nat.reduceAdd, Array.replicate_succ, Array.replicate_zero, List.push_toArray, List.nil_append, List.cons_append])
  refine r0 0 ?_; simp only [pz, pn, sz, sc]
  refine rl 1 rfl ?_ (ylC tc3); simp only [pz, pn, sz, sc]
  refine rl 2 rfl ?_ (ylC tc3); simp only [pz, pn, sz, sc]
  refine rl 3 rfl ?_ (by first | exact ylA ta24 | exact ylM ta24); simp only [pz, pn, sz, sc]
  refine rl 5 rfl ?_ (ylC tc3); simp only [pz, pn, sz, sc]
  refine rl 6 rfl ?_ (by first | exact ylA ta24 | exact ylM ta24); simp only [pz, pn, sz, sc]
  refine r1 4 ?_; (first | (refine kg gf55 hst (fun w hst => ha'.out w hst.keeps) rfl rfl rfl rfl ?_; clear hst; intro w hst) | (refine kg gf55 hst (fun w hst => hb'.out w hst.keeps) rfl rfl rfl rfl ?_; clear hst; intro w hst) | (refine kg hg hst (fun w hst => hg'.out w hst.keeps) rfl rfl rfl rfl ?_; clear hst; intro w hst) | (refine kp ?_)); (try simp only [pz, pn, sz, sc]); refine re ?_
  refine r1 7 ?_; (first | (refine kg gf55 hst (fun w hst => ha'.out w hst.keeps) rfl rfl rfl rfl ?_; clear hst; intro w hst) | (refine kg gf55 hst (fun w hst => hb'.out w hst.keeps) rfl rfl rfl rfl ?_; clear hst; intro w hst) | (refine kg hg hst (fun w hst => hg'.out w hst.keeps) rfl rfl rfl rfl ?_; clear hst; intro w hst) | (refine kp ?_)); (try simp only [pz, pn, sz, sc]); refine re ?_
  refine r0 8 ?_; simp only [pz, pn, sz, sc]
  refine r1 9 ?_; (first | (refine kg gf55 hst (fun w hst => ha'.out w hst.keeps) rfl rfl rfl rfl ?_; clear hst; intro w hst) | (refine kg gf55 hst (fun w hst => hb'.out w hst.keeps) rfl rfl rfl rfl ?_; clear hst; intro w hst) | (refine kg hg hst (fun w hst => hg'.out w hst.keeps) rfl rfl rfl rfl ?_; clear hst; intro w hst) | (refine kp ?_)); (try simp only [pz, pn, sz, sc]); refine re ?_
  refine r1 10 ?_; (refine kt hst ta24 rfl rfl ?_; clear hst; intro w hst); (try simp only [pz, pn, sz, sc]); refine re ?_
  refine rd_ ?_
  all_goals
    go_wp2_with ((first | (refine ka 5 hst tz24 rfl rfl ?_; clear hst; intro b5 w hb5 hst) | (refine kc hst tc3 rfl ?_) | (refine kl hst ta24 rfl ?_) | (refine klm hst ta24 rfl ?_) | (refine kt hst ta24 rfl rfl ?_; clear hst; intro w hst)); try simp only [pz, pn, sz, sc])
    refine bp_c rfl rfl (la hst ta24) ⟨?_, hst.keeps⟩
    rfl

end Go.Proofs.YtoakmlopjeecoaaGreatDoor.Rd

namespace Go.Proofs.YtoakmlopjeecoaaGreatDoor.Rd
open Go Go.RowKit
set_option linter.unusedVariables false
set_option linter.unusedSimpArgs false
set_option maxRecDepth 100000

/-- A call that turns one block. -/
def GivesE (P : Program) (f : FuncId) (args : Array Value) (b : Nat) (R : Value → Obj → Prop) (w : World) : Prop := Calls P f args w fun e w' => ∃ v ob, e = .returned v ∧ R v ob ∧ Keeps [b] w w' ∧ w'.heap[b]? = some ob
section
variable {P : Program} {ops : Array Oper} {rest : List Oper} {Q : Exit → Act → World → Prop} {a : Act} {w w0 : World} {S : List Nat} {L : List (Nat × Obj)}
theorem kE {o : Oper} {c : Call} {x : Operand} {f : FuncId} {cap : Array Value} {args : List Value} {b : Nat} {ob : Obj} {R : Value → Obj → Prop} (L' : Obj → List (Nat × Obj)) (hf : GoF P f) (hst : St w0 S L w) (hc : ∀ w, St w0 S L w → GivesE P f args.toArray b R w)
    (ho : o.op = .call c) (hcal : c.callee = .value x) (hx : a.eval x = .func (.func f) #[] cap) (hargs : c.args.toList.map a.eval ++ cap.toList = args)
    (h : ∀ v ob' w', R v ob' → St w0 S (L' ob') w' → wpList P ops Q rest (a.put o.dst v) w')
    (hat : ∀ ob', At b ob ob' L (L' ob') := by intro _; repeat (first | exact At.head _ | apply At.tail)) (hb : w0.heap.size ≤ b ∨ b ∈ S := by first | exact Or.inl (by assumption) | (refine Or.inr ?_; simp)) (hg : o.guard = none := by rfl) : wpList P ops Q (o :: rest) a w := by
  refine wpList_plain hg fun K hK => ?_
  unfold Oper.wp
  rw [run_execOp_call ho hcal hx, args_eq hargs, run_callFunc_go hf, Oper.upon_enter]
  refine (hc w hst).mono fun e w'' hh => ?_
  obtain ⟨v, ob', rfl, hR, hk, hnew⟩ := hh
  exact hK _ _ (h v ob' w'' hR (hst.put (hat ob') hb hk hnew))
end
theorem GivesE.of {R : Value → Obj → Prop} {w0 w : World} {v : Value} {ob : Obj} {b : Nat} {L : List (Nat × Obj)} (hst : St w0 [b] L w) (hR : R v ob) (hm : (b, ob) ∈ L) : ∃ v' ob', Ending.returned v = .returned v' ∧ R v' ob' ∧ Keeps [b] w0 w ∧ w.heap[b]? = some ob' := ⟨v, ob, rfl, hR, hst.keeps, hst.own _ _ hm⟩

set_option maxHeartbeats 1000000 in
theorem int64_AddY (b o : Nat) (x y : Int) (h1 : 0 ≤ x) (h2 : x ≤ 1000000) (h3 : 0 ≤ y) (h4 : y ≤ 1000000) (cs : Array Value) (E : TypeId) (hx : cs[o]? = some (.int .i64 x)) (w0 : World) (hb : w0.heap[b]? = some (.cells cs E)) :
    GivesT Tryz.prog 17 #[.pointer (some ⟨b, o, none⟩), .int .i64 y] (.int .i64 (x + y)) [(b, .cells cs E)] [(b, .cells (cs.setIfInBounds o (.int .i64 (x + y))) E)] w0 := by
  have hc : w0.cell? ⟨b, o, none⟩ = some (.int .i64 x) := by rw [cell_of_row w0 b o cs E _ hb]; exact hx
  have hz := frozen_of_row w0 b o cs E hb
  have hadd := run_call_add (P := Tryz.prog) Tryz.func26 (by kernel_rfl) (by kernel_rfl) (by kernel_rfl) .i64 (by kernel_rfl) (y := y) (s := x + y) hc hz (by
    have := i64w (x + y) (by omega) (by omega)
    simp [go_sem]
    first | exact this | (rw [this])  | omega)
  have e1 := heap_setCell_same w0 b o cs E (.int .i64 (x + y)) hb
  have k1 := sc_keeps w0 b o (.int .i64 (x + y))
  have hfin : (Ending.returned (.int .i64 (x + y)) = .returned (.int .i64 (x + y))) ∧ Keeps [b] w0 (w0.setCell ⟨b, o, none⟩ (.int .i64 (x + y))) ∧ (w0.setCell ⟨b, o, none⟩ (.int .i64 (x + y))).heap[b]? = some (.cells (cs.setIfInBounds o (.int .i64 (x + y))) E) := ⟨rfl, k1, e1⟩
  have hfin' := Lib.hid hfin
  clear hfin e1 k1 hb hx h1 h2 h3 h4
  go_enter Tryz.func17, Tryz.ntmps17
  go_wp2
  go_ret
  have := hfin'.out
  simpa using this

/-- A batch's cells: its once, its fpu, all, bad, of each flag. -/
def batC (d l : Int) (p : Option Addr) (n m : Int) (t : Nat → Int) : Array Value := #[.int .u32 d, .int .i32 l, .int .u32 0, .pointer p, .int .i64 n, .int .i64 m, .int .i64 (t 0), .int .i64 (t 1), .int .i64 (t 2), .int .i64 (t 3), .int .i64 (t 4)]
/-- A batch that has its fpu, or not yet. -/
def BatP (d : Int) (p : Option Addr) : Prop := (d = 0 ∧ p = none) ∨ (d = 1 ∧ ∃ bu, p = some ⟨bu, 0, none⟩)
theorem batch_New (w0 : World) : GivesN Tryz.prog 5 #[] (OneNew (.cells (batC 0 0 none 0 0 (fun _ => 0)) 62)) w0 := by
  have hst := St.start [] w0
  have hz : ∀ w, (Instr.build 62 (List.toArray [])).run Tryz.prog w = .ok (.agg (batC 0 0 none 0 0 (fun _ => 0))) w := fun w => by kernel_rfl
  generalize batC 0 0 none 0 0 (fun _ => 0) = c at *
  go_enter Tryz.func5, Tryz.ntmps5
  go_wp2_with ((first | (refine kB hz rfl ?_) | (refine kb 2 hst rfl rfl ?_; clear hst; intro b2 w hb2 hst)); try simp only [pz, pn, sz, sc])
  exact bp_t rfl rfl (by rfl) (PostN.one hst (by assumption) (by simp))

set_option maxHeartbeats 1000000 in
theorem batch_unit_1 (b1 bb : Nat) (E1 : TypeId) (hne : bb ≠ b1) (n m : Int) (t : Nat → Int) (w0 : World) (h1 : w0.heap[b1]? = some (.cells #[.pointer (some ⟨bb, 0, none⟩)] E1)) (hb : w0.heap[bb]? = some (.cells (batC 0 1 none n m t) 62)) :
    GivesE Tryz.prog 21 #[.pointer (some ⟨b1, 0, none⟩)] bb (fun v ob => v = .tuple #[] ∧ ∃ bu, ob = .cells (batC 0 1 (some ⟨bu, 0, none⟩) n m t) 62) w0 := by
  have hst : St w0 [bb] [(bb, .cells (batC 0 1 none n m t) 62), (b1, .cells #[.pointer (some ⟨bb, 0, none⟩)] E1)] w0 := ((St.start [bb] w0).add h1 (by simp)).add hb (by simpa using hne)
  have hn := fun w => fpu_New w
  have hset : ∀ p, (batC 0 1 none n m t).setIfInBounds 3 (.pointer p) = batC 0 1 p n m t := fun p => rfl
  have hsz : (batC 0 1 none n m t).size = 11 := rfl
  clear h1 hb
  generalize hR : (fun p => batC 0 1 p n m t) = R at *
  have hR' : ∀ p, batC 0 1 p n m t = R p := fun p => by rw [← hR]
  simp only [hR'] at *
  clear hR hR'
  generalize R none = c at *
  have hset' := Lib.hid hset
  clear hset
  go_enter Tryz.func21, Tryz.ntmps21
  refine wp_region_T 4  hst (by kernel_rfl) ?_; clear hst; intro w hst; (try simp only [List.length_cons, List.length_nil, Nat.reduceAdd, Array.replicate_succ, Array.replicate_zero, List.push_toArray, List.nil_append, List.cons_append])
  refine rl 0 rfl ?_ (ylC tc28); simp only [pz, pn, sz, sc]
  refine r1 1 ?_; (first | (refine kN (o := ⟨some 2, _, _, _, _, _⟩) gf22 hst (fun w hst => hn w) rfl rfl rfl rfl ?_; clear hst; intro v2 Lg2 w hn2 hR2 hst; obtain ⟨bu, bs, br, rfl, hN⟩ := hR2; (try simp only [List.cons_append, List.nil_append, List.append_nil, List.append_assoc] at hst)) | (refine kp ?_)); (try simp only [pz, pn, sz, sc]); refine re ?_
  refine r0 2 ?_; simp only [pz, pn, sz, sc]
  refine r0 3 ?_; simp only [pz, pn, sz, sc]
  refine r1 4 ?_; (refine ks hst tc56 rfl rfl ?_; clear hst; intro w hst; (try rw [hset'.out] at hst)); (try simp only [pz, pn, sz, sc]); refine re ?_
  refine rd_ ?_
  go_wp2_with ((first | (refine kc hst tc28 rfl ?_) | (refine ks hst tc56 rfl rfl ?_; clear hst; intro w hst)); try simp only [pz, pn, sz, sc])
  exact bp_0 rfl rfl (GivesE.of hst ⟨rfl, bu, rfl⟩ (by simp))

theorem batC_once (p : Option Addr) (n m : Int) (t : Nat → Int) : (batC 0 0 none n m t).setIfInBounds (0 + 1) (.int .i32 1) = batC 0 1 none n m t ∧ ((batC 0 1 p n m t).setIfInBounds 0 (.int .u32 1)).setIfInBounds (0 + 1) (.int .i32 0) = batC 1 0 p n m t := ⟨rfl, rfl⟩

theorem batch_do (b1 bb : Nat) (E1 : TypeId) (hne : b1 ≠ bb) (d : Int) (p : Option Addr) (hp : BatP d p) (n m : Int) (t : Nat → Int) (w : World) (h1 : w.heap[b1]? = some (.cells #[.pointer (some ⟨bb, 0, none⟩)] E1)) (hb : w.heap[bb]? = some (.cells (batC d 0 p n m t) 62)) :
    GivesE Tryz.prog 20 #[.pointer (some ⟨bb, 0, none⟩), .func (.func 21) #[] #[.pointer (some ⟨b1, 0, none⟩)]] bb (fun v ob => v = .tuple #[] ∧ ∃ bu, ob = .cells (batC 1 0 (some ⟨bu, 0, none⟩) n m t) 62) w := by
  rcases hp with ⟨rfl, rfl⟩ | ⟨rfl, bu, rfl⟩
  · have h := once_G 21 gf21 #[.pointer (some ⟨b1, 0, none⟩)] bb 0 62 (batC 0 0 none n m t)
      (fun cs2 w1 w2 => Keeps [bb] w1 w2 ∧ ∃ bu, cs2 = batC 0 1 (some ⟨bu, 0, none⟩) n m t) w hb rfl rfl
      (fun w1 hw1 k1 => by
        rw [(batC_once none n m t).1] at hw1
        refine (batch_unit_1 b1 bb E1 (fun e => hne e.symm) n m t w1 (by rw [k1.block b1 (lt_of_some h1) (by simpa using hne)]; exact h1) hw1).mono ?_
        rintro e w2 ⟨v, ob, rfl, ⟨rfl, bu, rfl⟩, k2, hown⟩
        exact ⟨rfl, _, hown, ⟨_, rfl⟩, rfl, k2, bu, rfl⟩)
    refine Calls.mono h ?_
    rintro e w' ⟨rfl, cs2, w1, w2, ⟨k2, bu, rfl⟩, k1, k3, hb'⟩
    rw [(batC_once (some ⟨bu, 0, none⟩) n m t).2] at hb'
    exact ⟨_, _, rfl, ⟨rfl, bu, rfl⟩, (k1.trans k2 (fun x hx _ => hx)).trans k3 (fun x hx _ => hx), hb'⟩
  · have c0 : w.cell? ⟨bb, 0, none⟩ = some (.int .u32 1) := by rw [cell_of_row w bb 0 _ _ _ hb]; rfl
    refine (on_done ⟨bb, 0, none⟩ 1 (by omega) _ w c0).mono ?_
    rintro e w' ⟨rfl, rfl⟩
    exact ⟨_, _, rfl, ⟨rfl, bu, rfl⟩, Keeps.refl _ _, hb⟩

theorem batch_unit (bb : Nat) (d : Int) (p : Option Addr) (hp : BatP d p) (n m : Int) (t : Nat → Int) (w0 : World) (hb : w0.heap[bb]? = some (.cells (batC d 0 p n m t) 62)) :
    GivesE Tryz.prog 14 #[.pointer (some ⟨bb, 0, none⟩)] bb (fun v ob => ∃ bu, v = .pointer (some ⟨bu, 0, none⟩) ∧ ob = .cells (batC 1 0 (some ⟨bu, 0, none⟩) n m t) 62) w0 := by
  have hst : St w0 [bb] [(bb, .cells (batC d 0 p n m t) 62)] w0 := (St.start [bb] w0).add hb (by simp)
  have hdo := fun (b1 : Nat) (w : World) (hst : St w0 [bb] [(b1, .cells #[.pointer (some ⟨bb, 0, none⟩)] 28), (bb, .cells (batC d 0 p n m t) 62)] w) => batch_do b1 bb 28 (by have := hst.nodup; simpa using this) d p hp n m t w (hst.own _ _ (List.Mem.head _)) (hst.own _ _ (List.Mem.tail _ (List.Mem.head _)))
  have hget : ∀ bu, (batC 1 0 (some ⟨bu, 0, none⟩) n m t)[0 + 3]? = some (.pointer (some ⟨bu, 0, none⟩)) := fun bu => rfl
  generalize hR : (fun bu => batC 1 0 (some ⟨bu, 0, none⟩) n m t) = R at *
  have hR' : ∀ bu, batC 1 0 (some ⟨bu, 0, none⟩) n m t = R bu := fun bu => by rw [← hR]
  simp only [hR'] at *
  clear hR hR' hb hp
  generalize batC d 0 p n m t = c at *
  have hget' := Lib.hid hget
  clear hget
  go_enter Tryz.func14, Tryz.ntmps14
  go_wp2_with ((first | (refine kE (fun ob => [(b1, .cells #[.pointer (some ⟨bb, 0, none⟩)] 28), (bb, ob)]) gf20 hst (fun w hst => hdo b1 w hst) rfl rfl rfl rfl ?_; clear hst; intro v7 ob w hR hst; obtain ⟨rfl, bu, rfl⟩ := hR; have hg := hget'.out bu) | (refine kb 1 hst rfl rfl ?_; clear hst; intro b1 w hb1 hst) | (refine kc hst tc28 rfl ?_) | (refine kc hst tc56 rfl ?_)); try simp only [pz, pn, sz, sc])
  exact bp_t rfl rfl (by rfl) (GivesE.of hst ⟨bu, rfl, rfl⟩ (by simp))

/-- The flags, in order. -/
def flC : Array Value := #[.int .i64 1, .int .i64 2, .int .i64 4, .int .i64 8, .int .i64 16]
/-- What the variable of the flags holds. -/
def FlIn (w : World) : Prop := ∀ (i : Nat) v, flC[i]? = some v → w.cell? ⟨0, 0 + i, none⟩ = some v
theorem FlIn.keep {w w' : World} {S : List Nat} (h : FlIn w) (k : Keeps S w w') (hS : 0 ∉ S) : FlIn w' := fun i v hi => k.cellX hS (h i v hi)
/-- What a result adds to the counts: is it bad, has it this flag. -/
def bd (s : Int) : Int := if s = 1 then 1 else 0
def ft (g : Int) (i : Nat) : Int := if g = 2 ∧ i = 1 then 1 else 0
/-- The results that come here. -/
def ResOk (g s : Int) : Prop := (g = 0 ∧ s = 1) ∨ (g = 2 ∧ s = 0)

theorem flC_0 (k : Nat) (h : k < 5) : ∃ x : Int, flC[k]? = some (.int .i64 x) ∧ bits .and .i64 0 x = 0 := by
  obtain rfl | rfl | rfl | rfl | rfl : k = 0 ∨ k = 1 ∨ k = 2 ∨ k = 3 ∨ k = 4 := by omega
  all_goals exact ⟨_, rfl, by decide +kernel⟩
theorem flC_2 (k : Nat) (h : k < 5) (h1 : k ≠ 1) : ∃ x : Int, flC[k]? = some (.int .i64 x) ∧ bits .and .i64 2 x = 0 := by
  obtain rfl | rfl | rfl | rfl : k = 0 ∨ k = 2 ∨ k = 3 ∨ k = 4 := by omega
  all_goals exact ⟨_, rfl, by decide +kernel⟩
theorem flC_1 : flC[1]? = some (.int .i64 2) ∧ bits .and .i64 2 2 = 2 := ⟨rfl, by decide +kernel⟩
def ctK (k : Nat) : Array Value := #[.int .i64 1, .int .i64 0, .int .i64 0, .int .i64 (if 2 ≤ k then 1 else 0), .int .i64 0, .int .i64 0, .int .i64 0]
def ctB : Array Value := #[.int .i64 1, .int .i64 1, .int .i64 0, .int .i64 0, .int .i64 0, .int .i64 0, .int .i64 0]

set_option maxHeartbeats 4000000 in
theorem counts_add_bad (x : Nat) (w0 : World) (hF : FlIn w0) :
    GivesAt Tryz.prog 25 #[.agg (ctC 0 0 (fun _ => 0)), .agg (resC x 0 1)] (.agg ctB) w0 := by
  have hst := St.start [] w0
  have hk0 : ∀ w, Keeps [] w0 w → ∀ (i : Nat) v, flC[i]? = some v → w.cell? ⟨0, 0 + i, none⟩ = some v := fun w k => hF.keep k (by simp)
  have hk := Lib.hid hk0
  have y1 := resC_size x 0 1
  have y2 := resC_one x 0 1
  obtain ⟨g2, g3⟩ := resC_2 x 0 1
  have hfl := Lib.hid flC_0
  have fsz : flC.size = 5 := rfl
  clear hF hk0
  generalize resC x 0 1 = cs at *
  generalize flC = fl at *
  unfold ctC
  go_enter Tryz.func25, Tryz.ntmps25
  go_wp2_with ((first | (go_big_skip) | (refine klx hst ta34 (fun w hst j v hj => hk.out w hst.keeps j v hj) rfl ?_ (hn := fsz)) | (refine kb 2 hst rfl rfl ?_; clear hst; intro b2 w hb2 hst) | (refine kb 3 hst rfl rfl ?_; clear hst; intro b3 w hb3 hst) | (refine ka 4 hst tz36 rfl rfl ?_; clear hst; intro b4 w hb4 hst) | (refine kc hst tc3 rfl ?_) | (refine ks hst tc3 rfl rfl ?_; clear hst; intro w hst) | (refine kl hst ta34 rfl ?_) | (refine klm hst ta34 rfl ?_) | (refine ki tr34 tc3 rfl ?_) | (refine kl hst ta36 rfl ?_) | (refine kt hst ta36 rfl rfl ?_; clear hst; intro w hst)); try simp only [pz, pn, sz, sc])
  have hst : St w0 [] [(b4, .cells #[.int .i64 0, .int .i64 0, .int .i64 0, .int .i64 0, .int .i64 0, .int .i64 0, .int .i64 0] 36), (b3, .cells cs 41), (b2, .cells ctB 36)] w := hst
  go_loopw [5, 6, 19] (fun u v i wr => ∃ k : Nat, k ≤ 5 ∧ i = .int .i64 k ∧ St w0 [] [(b4, .cells #[.int .i64 0, .int .i64 0, .int .i64 0, .int .i64 0, .int .i64 0, .int .i64 0, .int .i64 0] 36), (b3, .cells cs 41), (b2, .cells ctB 36)] wr) (fun _ _ i _ => 5 - (intOf i).toNat)
  case atStart => exact ⟨0, by omega, rfl, hst⟩
  case round =>
    clear hst
    obtain ⟨k, hk5, rfl, hst⟩ := hrel
    by_cases hlt : k < 5
    · have q : decide ((k : Int) < 5) = true := decide_eq_true (by omega)
      obtain ⟨y, hy, hand⟩ := hfl.out k hlt
      generalize ctB = cB at *
      clear hk hfl
      go_wp2_with ((first | (go_big_skip) | (refine ki tr34 tc3 rfl ?_ (j := k) (hj := hlt) (hv := hy)) | (refine kb 2 hst rfl rfl ?_; clear hst; intro b2 w hb2 hst) | (refine kb 3 hst rfl rfl ?_; clear hst; intro b3 w hb3 hst) | (refine ka 4 hst tz36 rfl rfl ?_; clear hst; intro b4 w hb4 hst) | (refine kc hst tc3 rfl ?_) | (refine ks hst tc3 rfl rfl ?_; clear hst; intro w hst) | (refine kl hst ta34 rfl ?_) | (refine klm hst ta34 rfl ?_) | (refine ki tr34 tc3 rfl ?_) | (refine kl hst ta36 rfl ?_) | (refine kt hst ta36 rfl rfl ?_; clear hst; intro w hst)); try simp only [pz, pn, sz, sc])
      go_roundw
      case rel => exact ⟨k + 1, by omega, by go_num, hst⟩
      case measure => simp [intOf]; omega
    · have : k = 5 := by omega
      subst this
      have q : decide (((5 : Nat) : Int) < 5) = false := by decide
      clear hk hfl
      have yB : ctB.size = 7 := rfl
      have oB : OneC ctB := ⟨by kernel_rfl⟩
      generalize hB : ctB = cB at *
      have hB' := Lib.hid hB
      clear hB
      go_wp2_with ((first | (go_big_skip) | (refine kb 2 hst rfl rfl ?_; clear hst; intro b2 w hb2 hst) | (refine kb 3 hst rfl rfl ?_; clear hst; intro b3 w hb3 hst) | (refine ka 4 hst tz36 rfl rfl ?_; clear hst; intro b4 w hb4 hst) | (refine kc hst tc3 rfl ?_) | (refine ks hst tc3 rfl rfl ?_; clear hst; intro w hst) | (refine kl hst ta34 rfl ?_) | (refine klm hst ta34 rfl ?_) | (refine ki tr34 tc3 rfl ?_) | (refine kl hst ta36 rfl ?_) | (refine kt hst ta36 rfl rfl ?_; clear hst; intro w hst)); try simp only [pz, pn, sz, sc])
      refine bp_c rfl rfl (la hst ta36) ⟨?_, hst.keeps⟩
      rw [hB'.out]

set_option maxHeartbeats 4000000 in
theorem counts_add_zero (x : Nat) (w0 : World) (hF : FlIn w0) :
    GivesAt Tryz.prog 25 #[.agg (ctC 0 0 (fun _ => 0)), .agg (resC x 2 0)] (.agg (ctK 5)) w0 := by
  have hst := St.start [] w0
  have hk0 : ∀ w, Keeps [] w0 w → ∀ (i : Nat) v, flC[i]? = some v → w.cell? ⟨0, 0 + i, none⟩ = some v := fun w k => hF.keep k (by simp)
  have hk := Lib.hid hk0
  have y1 := resC_size x 2 0
  have y2 := resC_one x 2 0
  obtain ⟨g2, g3⟩ := resC_2 x 2 0
  have hfl := Lib.hid flC_2
  have hf1 := Lib.hid flC_1
  have fsz : flC.size = 5 := rfl
  clear hF hk0
  generalize resC x 2 0 = cs at *
  generalize flC = fl at *
  unfold ctC
  go_enter Tryz.func25, Tryz.ntmps25
  go_wp2_with ((first | (go_big_skip) | (refine klx hst ta34 (fun w hst j v hj => hk.out w hst.keeps j v hj) rfl ?_ (hn := fsz)) | (refine kb 2 hst rfl rfl ?_; clear hst; intro b2 w hb2 hst) | (refine kb 3 hst rfl rfl ?_; clear hst; intro b3 w hb3 hst) | (refine ka 4 hst tz36 rfl rfl ?_; clear hst; intro b4 w hb4 hst) | (refine kc hst tc3 rfl ?_) | (refine ks hst tc3 rfl rfl ?_; clear hst; intro w hst) | (refine kl hst ta34 rfl ?_) | (refine klm hst ta34 rfl ?_) | (refine ki tr34 tc3 rfl ?_) | (refine kl hst ta36 rfl ?_) | (refine kt hst ta36 rfl rfl ?_; clear hst; intro w hst)); try simp only [pz, pn, sz, sc])
  have hst : St w0 [] [(b4, .cells #[.int .i64 0, .int .i64 0, .int .i64 0, .int .i64 0, .int .i64 0, .int .i64 0, .int .i64 0] 36), (b3, .cells cs 41), (b2, .cells (ctK 0) 36)] w := hst
  go_loopw [5, 6, 19] (fun u v i wr => ∃ k : Nat, k ≤ 5 ∧ i = .int .i64 k ∧ St w0 [] [(b4, .cells #[.int .i64 0, .int .i64 0, .int .i64 0, .int .i64 0, .int .i64 0, .int .i64 0, .int .i64 0] 36), (b3, .cells cs 41), (b2, .cells (ctK k) 36)] wr) (fun _ _ i _ => 5 - (intOf i).toNat)
  case atStart => exact ⟨0, by omega, rfl, hst⟩
  case round =>
    clear hst
    obtain ⟨k, hk5, rfl, hst⟩ := hrel
    by_cases hlt : k < 5
    · have q : decide ((k : Int) < 5) = true := decide_eq_true (by omega)
      by_cases h1 : k = 1
      · subst h1
        obtain ⟨hy, hand⟩ := hf1.out
        have hsz : (ctK 1).size = 7 := rfl
        have hg : (ctK 1)[0 + 2 + 1]? = some (.int .i64 0) := rfl
        have hset := Lib.hid (show (ctK 1).setIfInBounds (0 + 2 + 1) (.int .i64 1) = ctK 2 from rfl)
        generalize ctK 1 = c1 at *
        generalize hc2 : ctK 2 = c2 at *
        have hc2' := Lib.hid hc2
        clear hk hfl hf1 hc2
        go_wp2_with ((first | (go_big_skip) | (refine ki tr34 tc3 rfl ?_ (j := 1) (hj := by omega) (hv := hy)) | (refine kb 2 hst rfl rfl ?_; clear hst; intro b2 w hb2 hst) | (refine kb 3 hst rfl rfl ?_; clear hst; intro b3 w hb3 hst) | (refine ka 4 hst tz36 rfl rfl ?_; clear hst; intro b4 w hb4 hst) | (refine kc hst tc3 rfl ?_) | (refine ks hst tc3 rfl rfl ?_; clear hst; intro w hst; (try rw [hset.out] at hst)) | (refine kl hst ta34 rfl ?_) | (refine klm hst ta34 rfl ?_) | (refine ki tr34 tc3 rfl ?_) | (refine kl hst ta36 rfl ?_) | (refine kt hst ta36 rfl rfl ?_; clear hst; intro w hst; (try rw [hset.out] at hst))); try simp only [pz, pn, sz, sc])
        go_roundw
        case rel => exact ⟨2, by omega, by go_num, by rw [hc2'.out]; exact hst⟩
        case measure => simp [intOf]
      · obtain ⟨y, hy, hand⟩ := hfl.out k hlt h1
        have hsame : ctK k = ctK (k + 1) := by
          obtain rfl | rfl | rfl | rfl : k = 0 ∨ k = 2 ∨ k = 3 ∨ k = 4 := by omega
          all_goals rfl
        rw [hsame] at hst
        clear hsame
        generalize hc : ctK (k + 1) = cB at *
        have hc' := Lib.hid hc
        clear hk hfl hf1 hc
        go_wp2_with ((first | (go_big_skip) | (refine ki tr34 tc3 rfl ?_ (j := k) (hj := hlt) (hv := hy)) | (refine kb 2 hst rfl rfl ?_; clear hst; intro b2 w hb2 hst) | (refine kb 3 hst rfl rfl ?_; clear hst; intro b3 w hb3 hst) | (refine ka 4 hst tz36 rfl rfl ?_; clear hst; intro b4 w hb4 hst) | (refine kc hst tc3 rfl ?_) | (refine ks hst tc3 rfl rfl ?_; clear hst; intro w hst) | (refine kl hst ta34 rfl ?_) | (refine klm hst ta34 rfl ?_) | (refine ki tr34 tc3 rfl ?_) | (refine kl hst ta36 rfl ?_) | (refine kt hst ta36 rfl rfl ?_; clear hst; intro w hst)); try simp only [pz, pn, sz, sc])
        go_roundw
        case rel => exact ⟨k + 1, by omega, by go_num, by rw [hc'.out]; exact hst⟩
        case measure => simp [intOf]; omega
    · have : k = 5 := by omega
      subst this
      have q : decide (((5 : Nat) : Int) < 5) = false := by decide
      clear hk hfl hf1
      have yB : (ctK 5).size = 7 := rfl
      have oB : OneC (ctK 5) := ⟨by kernel_rfl⟩
      generalize hB : ctK 5 = cB at *
      have hB' := Lib.hid hB
      clear hB
      go_wp2_with ((first | (go_big_skip) | (refine kb 2 hst rfl rfl ?_; clear hst; intro b2 w hb2 hst) | (refine kb 3 hst rfl rfl ?_; clear hst; intro b3 w hb3 hst) | (refine ka 4 hst tz36 rfl rfl ?_; clear hst; intro b4 w hb4 hst) | (refine kc hst tc3 rfl ?_) | (refine ks hst tc3 rfl rfl ?_; clear hst; intro w hst) | (refine kl hst ta34 rfl ?_) | (refine klm hst ta34 rfl ?_) | (refine ki tr34 tc3 rfl ?_) | (refine kl hst ta36 rfl ?_) | (refine kt hst ta36 rfl rfl ?_; clear hst; intro w hst)); try simp only [pz, pn, sz, sc])
      refine bp_c rfl rfl (la hst ta36) ⟨?_, hst.keeps⟩
      rw [hB'.out]

/-- The counts of one such result. -/
def oneC (g : Int) : Array Value := if g = 0 then ctB else ctK 5
theorem counts_add (x : Nat) (g s : Int) (h : ResOk g s) (w0 : World) (hF : FlIn w0) :
    GivesAt Tryz.prog 25 #[.agg (ctC 0 0 (fun _ => 0)), .agg (resC x g s)] (.agg (oneC g)) w0 := by
  rcases h with ⟨rfl, rfl⟩ | ⟨rfl, rfl⟩
  · exact counts_add_bad x w0 hF
  · exact counts_add_zero x w0 hF
theorem oneC_eq (g s : Int) (h : ResOk g s) : oneC g = ctC 1 (bd s) (ft g) := by
  rcases h with ⟨rfl, rfl⟩ | ⟨rfl, rfl⟩ <;> rfl

end Go.Proofs.YtoakmlopjeecoaaGreatDoor.Rd
