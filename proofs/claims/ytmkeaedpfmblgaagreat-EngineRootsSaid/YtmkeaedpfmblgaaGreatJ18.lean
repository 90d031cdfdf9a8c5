/- What goldroot's first, steps, Pair, Root answer. -/
import Derived.Test.YtmkeaedpfmblgaaGreatJ17
import Derived.Test.YtmkeaedpfmblgaaGreatJ13
namespace Go.Proofs.YtmkeaedpfmblgaaGreat.Rd
open Go Go.RowKit
set_option linter.unusedVariables false
set_option linter.unusedSimpArgs false
set_option maxRecDepth 100000

section
variable {P : Program} {ops : Array Oper} {rest : List Oper} {Q : Exit → Act → World → Prop} {a : Act} {w w0 : World} {S : List Nat} {L L' : List (Nat × Obj)}
theorem run_execOp_first {o : Oper} {c : Call} (ho : o.op = .call c) {x : Operand} (hc : c.callee = .value x) {f : FuncId} {fi cap : Array Value} (hx : a.eval x = .func (.func f) fi cap) (w : World) :
    (execOp a.eval o).run P w = (callFunc f (fi ++ c.args.map a.eval ++ cap)).run P w := by
  unfold execOp
  simp [ho, resolve, hc, hx, Deferred.ofValue, Sem.run_bind, invoke]
theorem run_execOp_invoke {o : Oper} {c : Call} (ho : o.op = .call c) {x : Operand} {name : String} (hc : c.callee = .invoke x name) (w : World) :
    (execOp a.eval o).run P w = (callMethod (a.eval x) name (c.args.map a.eval)).run P w := by
  unfold execOp
  simp [ho, resolve, hc, Sem.run_bind, invoke]
  have h0 : (#[a.eval x] ++ Array.map a.eval c.args)[0]? = some (a.eval x) := by rw [Array.getElem?_append_left (by simp)]; rfl
  rw [h0]
  show Sem.run P (callMethod _ _ ((Array.map a.eval c.args).extract 0 _)) w = _
  rw [show c.args.size = (Array.map a.eval c.args).size by simp, Array.extract_size]
theorem args_first {xs : Array Operand} {fi cap : Array Value} {args : List Value} (h : fi.toList ++ xs.toList.map a.eval ++ cap.toList = args) : fi ++ xs.map a.eval ++ cap = args.toArray := by
  apply Array.toList_inj.1
  simp [← h]
theorem args_in {xs : Array Operand} {args : List Value} (h : xs.toList.map a.eval = args) : xs.map a.eval = args.toArray := by
  apply Array.toList_inj.1
  simp [h]
/-- A call of a method value. -/
theorem kfV {o : Oper} {c : Call} {x : Operand} {f : FuncId} {fi cap : Array Value} {args : List Value} {v : Value} (hf : GoF P f) (hst : St w0 S L w) (hc : Gives P f args.toArray v)
    (ho : o.op = .call c) (hcal : c.callee = .value x) (hx : a.eval x = .func (.func f) fi cap) (hargs : fi.toList ++ c.args.toList.map a.eval ++ cap.toList = args)
    (h : ∀ w', St w0 S L w' → wpList P ops Q rest (a.put o.dst v) w') (hg : o.guard = none := by rfl) : wpList P ops Q (o :: rest) a w := by
  refine wpList_plain hg fun K hK => ?_
  unfold Oper.wp
  rw [run_execOp_first ho hcal hx, args_first hargs, run_callFunc_go hf, Oper.upon_enter]
  refine (hc w).mono fun e w'' hh => ?_
  obtain ⟨rfl, hk⟩ := hh
  exact hK _ _ (h _ (hst.keep hk))
/-- A call through an interface that writes the blocks Ls. -/
theorem kTI {o : Oper} {c : Call} {x : Operand} {f : FuncId} {rv : Value} {name : String} {args args' : List Value} {v : Value} {Ls Ls' : List (Nat × Obj)} (hst : St w0 S L w) (hc : ∀ w, St w0 S L w → GivesT P f args'.toArray v Ls Ls' w)
    (hm : ∀ w, (callMethod rv name args.toArray).run P w = .ok (.enter f args'.toArray) w) (ho : o.op = .call c) (hcal : c.callee = .invoke x name) (hx : a.eval x = rv) (hargs : c.args.toList.map a.eval = args)
    (h : ∀ w', St w0 S L' w' → wpList P ops Q rest (a.put o.dst v) w')
    (hsw : Swap Ls Ls' L L' := by repeat (first | exact Swap.nil _ | exact At.head _ | apply At.tail | apply Swap.cons))
    (hb : Mine w0.heap.size S Ls := by repeat (first | exact Mine.nil | refine Mine.cons (by first | exact Or.inl (by assumption) | (refine Or.inr ?_; simp)) ?_)) (hg : o.guard = none := by rfl) : wpList P ops Q (o :: rest) a w := by
  refine wpList_plain hg fun K hK => ?_
  unfold Oper.wp
  rw [run_execOp_invoke ho hcal, hx, args_in hargs, hm, Oper.upon_enter]
  refine (hc w hst).mono fun e w'' hh => ?_
  obtain ⟨rfl, hk, hown⟩ := hh
  exact hK _ _ (h w'' (hst.puts hsw hb.all hk hown))
end

def gPair (p : Nat × Nat) : Array Value := wc 8 p.1 ++ wc 8 p.2
def gNext (p : Nat × Nat) : Nat × Nat := (p.1 * (3 * gH - p.1 * p.2 / R) / R, p.2 * (3 * gH - p.1 * p.2 / R) / R)
theorem two_M (x y : Nat) (h1 : x ≤ 2 * R) (h2 : y ≤ 2 * R) : x * y < M :=
  Nat.lt_of_le_of_lt (Nat.mul_le_mul (Nat.le_trans h1 (show 2 * R ≤ 2 ^ 161 by decide)) (Nat.le_trans h2 (show 2 * R ≤ 2 ^ 161 by decide))) (pow_sq_M 161 161 (by omega))

set_option maxHeartbeats 8000000 in
theorem gold_next (g h : Nat) (h1 : g ≤ 2 * R) (h2 : h ≤ 2 * R) (h3 : g * h / R ≤ 3 * gH) : Gives Tryz.prog 224 #[.agg (wc 8 g ++ wc 8 h)] (.agg (gPair (gNext (g, h)))) := by
  intro w0
  have hst := St.start [] w0
  have hR3 : 3 * gH < M := small_M (by decide)
  have hR2 : 2 * R < M := small_M (by decide)
  have hRg : R + gH = 3 * gH := by decide
  have hgR : 3 * gH ≤ 2 * R := by decide
  have p1 := wide_Power 160
  rw [show pow2 160 = R by decide] at p1
  have p2 := wide_Power 159
  rw [show pow2 159 = gH by decide] at p2
  have hs := sum2_of R gH (by omega) (by omega) (by omega)
  rw [hRg] at hs
  have t1 := fix_Times g h 160 (by omega) (by omega) (by omega) (Nat.lt_of_le_of_lt (Nat.div_le_self _ _) (two_M g h h1 h2))
  rw [show (2 : Nat) ^ 160 = R from rfl] at t1
  show Calls _ _ _ _ (fun e w' => e = .returned (.agg (wc 8 (g * (3 * gH - g * h / R) / R) ++ wc 8 (h * (3 * gH - g * h / R) / R))) ∧ Keeps [] w0 w')
  generalize g * h / R = t at *
  have hsub := wide_Sub (3 * gH) t hR3 (by omega)
  rw [show (3 * gH + M - t) % M = 3 * gH - t by rw [show 3 * gH + M - t = 3 * gH - t + M by omega, Nat.add_mod_right, Nat.mod_eq_of_lt (by omega)]] at hsub
  have hf2 : 3 * gH - t ≤ 2 * R := by omega
  have t2 := fix_Times g (3 * gH - t) 160 (by omega) (by omega) (by omega) (Nat.lt_of_le_of_lt (Nat.div_le_self _ _) (two_M g _ h1 hf2))
  have t3 := fix_Times h (3 * gH - t) 160 (by omega) (by omega) (by omega) (Nat.lt_of_le_of_lt (Nat.div_le_self _ _) (two_M h _ h2 hf2))
  rw [show (2 : Nat) ^ 160 = R from rfl] at t2 t3
  clear h1 h2 h3 hR3 hR2 hRg hgR hf2
  generalize g * (3 * gH - t) / R = y1 at *
  generalize h * (3 * gH - t) / R = y2 at *
  generalize 3 * gH - t = f at *
  generalize 3 * gH = x1 at *
  generalize gH = x2 at *
  generalize R = x3 at *
  have k1 : (wc 8 g ++ wc 8 h).size = 16 := by simp
  have k2 : (wc 8 y1 ++ wc 8 y2).size = 16 := by simp
  have k3 := app_one y1 y2
  go_enter Tryz.func224, Tryz.ntmps224
  go_wp2_with ((first | (refine kf gf118 hst (p1) rfl rfl rfl rfl ?_; clear hst; intro w hst) | (refine kf gf118 hst (p2) rfl rfl rfl rfl ?_; clear hst; intro w hst) | (refine kg gf108 hst (fun w hst => hs _ w (hst.own _ _ (by simp))) rfl rfl rfl rfl ?_; clear hst; intro w hst) | (refine kb 1 hst rfl rfl ?_; clear hst; intro b1 w hb1 hst) | (refine ka 2 hst tz258 rfl rfl ?_; clear hst; intro b2 w hb2 hst) | (refine kS 8 hst ts183_ (tw24_2 _ _) rfl rfl ?_; clear hst; intro b8 w hb8 hst) | (refine ka 3 hst tz24 rfl rfl ?_; clear hst; intro b3 w hb3 hst) | (refine kt hst ta24 rfl rfl ?_; clear hst; intro w hst) | (refine ktm hst ta24 rfl rfl ?_; clear hst; intro w hst) | (refine kl hst ta24 rfl ?_) | (refine klm hst ta24 rfl ?_) | (refine ka 4 hst tz24 rfl rfl ?_; clear hst; intro b4 w hb4 hst) | (refine kB (tb258_01 _ _) rfl ?_) | (refine kt hst ta258 rfl rfl ?_; clear hst; intro w hst) | (refine ktm hst ta258 rfl rfl ?_; clear hst; intro w hst)); try simp only [pz, pn, sz, sc])
  refine wp_region_T 11  hst (by kernel_rfl) ?_; clear hst; intro w hst; (try dsimp only [List.length_cons, List.length_nil]); (try simp only [List.length_cons, List.length_nil, Nat.reduceAdd, Array.replicate_succ, Array.replicate_zero, List.push_toArray, List.nil_append, List.cons_append])
  refine r0 1 ?_; simp only [pz, pn, sz, sc]
  refine r0 3 ?_; simp only [pz, pn, sz, sc]
  refine rl 0 rfl ?_ (by first | exact ylA ta24 | exact ylM ta24); simp only [pz, pn, sz, sc]
  refine rl 2 rfl ?_ (by first | exact ylA ta24 | exact ylM ta24); simp only [pz, pn, sz, sc]
  refine rl 4 rfl ?_ (by first | exact ylA ta24 | exact ylM ta24); simp only [pz, pn, sz, sc]
  refine r2 5 10 ?_ ?_
  (first | (refine kf gf188 hst (t1) rfl rfl rfl rfl ?_; clear hst; intro w hst) | (refine kf gf116 hst (hsub) rfl rfl rfl rfl ?_; clear hst; intro w hst) | (refine kp ?_)); (try simp only [pz, pn, sz, sc]); refine re ?_
  refine r2 6 10 ?_ ?_
  (first | (refine kf gf188 hst (t1) rfl rfl rfl rfl ?_; clear hst; intro w hst) | (refine kf gf116 hst (hsub) rfl rfl rfl rfl ?_; clear hst; intro w hst) | (refine kp ?_)); (try simp only [pz, pn, sz, sc]); refine re ?_
  refine r0 7 ?_; simp only [pz, pn, sz, sc]
  refine r0 8 ?_; simp only [pz, pn, sz, sc]
  refine r0 9 ?_; simp only [pz, pn, sz, sc]
  refine r1 10 ?_; (refine ka 4 hst tz24 rfl rfl ?_; clear hst; intro b4 w hb4 hst); (try simp only [pz, pn, sz, sc]); refine re ?_
  refine r1 11 ?_; (first | (refine kt hst ta24 rfl rfl ?_; clear hst; intro w hst) | (refine ktm hst ta24 rfl rfl ?_; clear hst; intro w hst)); (try simp only [pz, pn, sz, sc]); refine re ?_
  refine r0 12 ?_; simp only [pz, pn, sz, sc]
  refine rd_ ?_
  rotate_left 1
  (refine ka 4 hst tz24 rfl rfl ?_; clear hst; intro b4 w hb4 hst); (try simp only [pz, pn, sz, sc]); refine re ?_
  refine r1 6 ?_; (first | (refine kf gf188 hst (t1) rfl rfl rfl rfl ?_; clear hst; intro w hst) | (refine kf gf116 hst (hsub) rfl rfl rfl rfl ?_; clear hst; intro w hst) | (refine kp ?_)); (try simp only [pz, pn, sz, sc]); refine re ?_
  refine r0 7 ?_; simp only [pz, pn, sz, sc]
  refine r0 8 ?_; simp only [pz, pn, sz, sc]
  refine r0 9 ?_; simp only [pz, pn, sz, sc]
  refine r1 11 ?_; (first | (refine kt hst ta24 rfl rfl ?_; clear hst; intro w hst) | (refine ktm hst ta24 rfl rfl ?_; clear hst; intro w hst)); (try simp only [pz, pn, sz, sc]); refine re ?_
  refine r0 12 ?_; simp only [pz, pn, sz, sc]
  refine rd_ ?_
  rotate_right 1
  rotate_left 2
  (refine ka 4 hst tz24 rfl rfl ?_; clear hst; intro b4 w hb4 hst); (try simp only [pz, pn, sz, sc]); refine re ?_
  refine r1 5 ?_; (first | (refine kf gf188 hst (t1) rfl rfl rfl rfl ?_; clear hst; intro w hst) | (refine kf gf116 hst (hsub) rfl rfl rfl rfl ?_; clear hst; intro w hst) | (refine kp ?_)); (try simp only [pz, pn, sz, sc]); refine re ?_
  refine r1 6 ?_; (first | (refine kf gf188 hst (t1) rfl rfl rfl rfl ?_; clear hst; intro w hst) | (refine kf gf116 hst (hsub) rfl rfl rfl rfl ?_; clear hst; intro w hst) | (refine kp ?_)); (try simp only [pz, pn, sz, sc]); refine re ?_
  refine r0 7 ?_; simp only [pz, pn, sz, sc]
  refine r0 8 ?_; simp only [pz, pn, sz, sc]
  refine r0 9 ?_; simp only [pz, pn, sz, sc]
  refine r1 11 ?_; (first | (refine kt hst ta24 rfl rfl ?_; clear hst; intro w hst) | (refine ktm hst ta24 rfl rfl ?_; clear hst; intro w hst)); (try simp only [pz, pn, sz, sc]); refine re ?_
  refine r0 12 ?_; simp only [pz, pn, sz, sc]
  refine rd_ ?_
  rotate_right 2
  all_goals
    go_wp2_with ((first | (refine kb 1 hst rfl rfl ?_; clear hst; intro b1 w hb1 hst) | (refine ka 2 hst tz258 rfl rfl ?_; clear hst; intro b2 w hb2 hst) | (refine kS 8 hst ts183_ (tw24_2 _ _) rfl rfl ?_; clear hst; intro b8 w hb8 hst) | (refine ka 3 hst tz24 rfl rfl ?_; clear hst; intro b3 w hb3 hst) | (refine kt hst ta24 rfl rfl ?_; clear hst; intro w hst) | (refine ktm hst ta24 rfl rfl ?_; clear hst; intro w hst) | (refine kl hst ta24 rfl ?_) | (refine klm hst ta24 rfl ?_) | (refine ka 4 hst tz24 rfl rfl ?_; clear hst; intro b4 w hb4 hst) | (refine kB (tb258_01 _ _) rfl ?_) | (refine kt hst ta258 rfl rfl ?_; clear hst; intro w hst) | (refine ktm hst ta258 rfl rfl ?_; clear hst; intro w hst)); try simp only [pz, pn, sz, sc])
    refine wp_region_T 9  hst (by kernel_rfl) ?_; clear hst; intro w hst; (try dsimp only [List.length_cons, List.length_nil]); (try simp only [List.length_cons, List.length_nil, Nat.reduceAdd, Array.replicate_succ, Array.replicate_zero, List.push_toArray, List.nil_append, List.cons_append])
    refine r0 0 ?_; simp only [pz, pn, sz, sc]
    refine r0 4 ?_; simp only [pz, pn, sz, sc]
    refine rl 1 rfl ?_ (by first | exact ylA ta24 | exact ylM ta24); simp only [pz, pn, sz, sc]
    refine rl 2 rfl ?_ (by first | exact ylA ta24 | exact ylM ta24); simp only [pz, pn, sz, sc]
    refine rl 5 rfl ?_ (by first | exact ylA ta24 | exact ylM ta24); simp only [pz, pn, sz, sc]
    refine rl 6 rfl ?_ (by first | exact ylA ta24 | exact ylM ta24); simp only [pz, pn, sz, sc]
    refine r1 3 ?_; (first | (refine kf gf188 hst (t2) rfl rfl rfl rfl ?_; clear hst; intro w hst) | (refine kf gf188 hst (t3) rfl rfl rfl rfl ?_; clear hst; intro w hst) | (refine kp ?_)); (try simp only [pz, pn, sz, sc]); refine re ?_
    refine r1 7 ?_; (first | (refine kf gf188 hst (t2) rfl rfl rfl rfl ?_; clear hst; intro w hst) | (refine kf gf188 hst (t3) rfl rfl rfl rfl ?_; clear hst; intro w hst) | (refine kp ?_)); (try simp only [pz, pn, sz, sc]); refine re ?_
    refine r0 8 ?_ (hy := yB (tb258_01 _ _)); simp only [pz, pn, sz, sc]
    refine r1 9 ?_; (first | (refine kt hst ta258 rfl rfl ?_; clear hst; intro w hst) | (refine ktm hst ta258 rfl rfl ?_; clear hst; intro w hst)); (try simp only [pz, pn, sz, sc]); refine re ?_
    refine rd_ ?_
    go_wp2_with ((first | (refine kb 1 hst rfl rfl ?_; clear hst; intro b1 w hb1 hst) | (refine ka 2 hst tz258 rfl rfl ?_; clear hst; intro b2 w hb2 hst) | (refine kS 8 hst ts183_ (tw24_2 _ _) rfl rfl ?_; clear hst; intro b8 w hb8 hst) | (refine ka 3 hst tz24 rfl rfl ?_; clear hst; intro b3 w hb3 hst) | (refine kt hst ta24 rfl rfl ?_; clear hst; intro w hst) | (refine ktm hst ta24 rfl rfl ?_; clear hst; intro w hst) | (refine kl hst ta24 rfl ?_) | (refine klm hst ta24 rfl ?_) | (refine ka 4 hst tz24 rfl rfl ?_; clear hst; intro b4 w hb4 hst) | (refine kB (tb258_01 _ _) rfl ?_) | (refine kt hst ta258 rfl rfl ?_; clear hst; intro w hst) | (refine ktm hst ta258 rfl rfl ?_; clear hst; intro w hst)); try simp only [pz, pn, sz, sc])
    refine bp_c rfl rfl (la hst ta258) ⟨?_, hst.keeps⟩
    rfl

end Go.Proofs.YtmkeaedpfmblgaaGreat.Rd

namespace Go.Proofs.YtmkeaedpfmblgaaGreat.Rd
open Go Go.RowKit
set_option linter.unusedVariables false
set_option linter.unusedSimpArgs false
set_option maxRecDepth 100000

theorem gPair_size (p : Nat × Nat) : (gPair p).size = 16 := by simp [gPair]
theorem gPair_one (p : Nat × Nat) : OneC (gPair p) := app_one _ _

set_option maxHeartbeats 8000000 in
theorem groot_first (br : Nat) (c : Array Value) (hc : RomOk c) (n : Nat) (h1 : 2 ^ 254 ≤ n) (h2 : n < 2 ^ 256) (w0 : World) (hr : w0.heap[br]? = some (.cells c 80)) :
    GivesT Tryz.prog 221 #[.agg #[.pointer (some ⟨br, 0, none⟩)], W n] (.agg (gPair (goldS n 0))) [(br, .cells c 80)] [(br, .cells romF 80)] w0 := by
  have hst := (St.start [br] w0).add hr (by simp)
  have hltr := lt_of_some hr
  have hg := fun (w : World) (h : w.heap[br]? = some (.cells c 80)) => rom_GuessRoot br c hc n h1 h2 w h
  have hv := rguess_le n h1 h2
  show GivesT _ _ _ (.agg (wc 8 (n * rguessAt (n / 2 ^ 249) / 2 ^ 105) ++ wc 8 (rguessAt (n / 2 ^ 249) * 2 ^ 150))) _ _ _
  clear hr hc h1
  generalize rguessAt (n / 2 ^ 249) = v at *
  have hvB : v < B := by rw [B_val]; omega
  have hof := of_u64 v hvB
  have h1' := Lib.hid (wc_1 v hvB)
  have hvM : v < M := small_M (by omega)
  have hnM : n < M := small_M (by omega)
  have hshl := wide_Shl v 150 hvM
  rw [show clampN 150 = 150 from rfl, Nat.mod_eq_of_lt (small_M (by omega))] at hshl
  have hti := fix_Times n v 105 hnM hvM (by omega) (by
    refine Nat.lt_of_le_of_lt (Nat.div_le_self _ _) (Nat.lt_of_le_of_lt (Nat.mul_le_mul (Nat.le_of_lt h2) (show v ≤ 2 ^ 10 by omega)) (pow_sq_M 256 10 (by omega))))
  clear h2 hnM hvM hv
  generalize n * v / 2 ^ 105 = x at *
  generalize v * 2 ^ 150 = y at *
  generalize romF = cf at *
  have k2 : (wc 8 x ++ wc 8 y).size = 16 := by simp
  have k3 := app_one x y
  go_enter Tryz.func221, Tryz.ntmps221
  go_wp2_with ((first | (refine kT gf213 hst (fun w hst => hg w (hst.own _ _ (by simp))) rfl rfl rfl rfl ?_; clear hst; intro w hst) | (refine kb 2 hst rfl rfl ?_; clear hst; intro b2 w hb2 hst) | (refine kb 3 hst rfl rfl ?_; clear hst; intro b3 w hb3 hst) | (refine ka 4 hst tz258 rfl rfl ?_; clear hst; intro b4 w hb4 hst) | (refine kc hst tc48 rfl ?_) | (refine kl hst ta24 rfl ?_) | (refine klm hst ta24 rfl ?_) | (refine wl_slice1 (o := ⟨some 16, _, _, _, _, _⟩) hst ts133 te22 rfl rfl (by (simp only [eval_lit, eval_k, eval_f, eval_g, List.getD_cons_succ, List.getD_cons_zero]) <;> rfl) (by rfl) ?_; clear hst; intro b16 w hb16 hst) | (refine wl_slice1 (o := ⟨some 20, _, _, _, _, _⟩) hst ts133 te22 rfl rfl (by (simp only [eval_lit, eval_k, eval_f, eval_g, List.getD_cons_succ, List.getD_cons_zero]) <;> rfl) (by rfl) ?_; clear hst; intro b20 w hb20 hst) | (refine kB (tb258_01 _ _) rfl ?_) | (refine kt hst ta258 rfl rfl ?_; clear hst; intro w hst) | (refine ktm hst ta258 rfl rfl ?_; clear hst; intro w hst)); try simp only [pz, pn, sz, sc])
  refine wp_region_T 10  hst (by kernel_rfl) ?_; clear hst; intro w hst; (try dsimp only [List.length_cons, List.length_nil]); (try simp only [List.length_cons, List.length_nil, Nat.reduceAdd, Array.replicate_succ, Array.replicate_zero, List.push_toArray, List.nil_append, List.cons_append])
  refine r0 1 ?_; simp only [pz, pn, sz, sc]
  refine r0 5 ?_; simp only [pz, pn, sz, sc]
  refine rl 0 rfl ?_ (by first | exact ylA ta24 | exact ylM ta24); simp only [pz, pn, sz, sc]
  refine r2 2 6 ?_ ?_
  (refine wl_slice1 (o := ⟨some 16, _, _, _, _, _⟩) hst ts133 te22 rfl rfl (by (simp only [eval_lit, eval_k, eval_f, eval_g, List.getD_cons_succ, List.getD_cons_zero]) <;> rfl) (by rfl) ?_; clear hst; intro b16 w hb16 hst); (try simp only [pz, pn, sz, sc]); refine re ?_
  refine r2 3 6 ?_ ?_
  (first | (refine kg gf109 hst (fun w hst => hof _ w (by rw [← h1'.out]; exact hst.own _ _ (by repeat (first | exact List.Mem.head _ | refine List.Mem.tail _ ?_)))) rfl rfl rfl rfl ?_; clear hst; intro w hst) | (refine kf gf188 hst (hti) rfl rfl rfl rfl ?_; clear hst; intro w hst) | (refine kf gf115 hst (hshl) rfl rfl rfl rfl ?_; clear hst; intro w hst) | (refine kp ?_)); (try simp only [pz, pn, sz, sc]); refine re ?_
  refine r2 4 6 ?_ ?_
  (first | (refine kg gf109 hst (fun w hst => hof _ w (by rw [← h1'.out]; exact hst.own _ _ (by repeat (first | exact List.Mem.head _ | refine List.Mem.tail _ ?_)))) rfl rfl rfl rfl ?_; clear hst; intro w hst) | (refine kf gf188 hst (hti) rfl rfl rfl rfl ?_; clear hst; intro w hst) | (refine kf gf115 hst (hshl) rfl rfl rfl rfl ?_; clear hst; intro w hst) | (refine kp ?_)); (try simp only [pz, pn, sz, sc]); refine re ?_
  refine r1 6 ?_; (refine wl_slice1 (o := ⟨some 20, _, _, _, _, _⟩) hst ts133 te22 rfl rfl (by (simp only [eval_lit, eval_k, eval_f, eval_g, List.getD_cons_succ, List.getD_cons_zero]) <;> rfl) (by rfl) ?_; clear hst; intro b20 w hb20 hst); (try simp only [pz, pn, sz, sc]); refine re ?_
  refine r1 7 ?_; (first | (refine kg gf109 hst (fun w hst => hof _ w (by rw [← h1'.out]; exact hst.own _ _ (by repeat (first | exact List.Mem.head _ | refine List.Mem.tail _ ?_)))) rfl rfl rfl rfl ?_; clear hst; intro w hst) | (refine kf gf188 hst (hti) rfl rfl rfl rfl ?_; clear hst; intro w hst) | (refine kf gf115 hst (hshl) rfl rfl rfl rfl ?_; clear hst; intro w hst) | (refine kp ?_)); (try simp only [pz, pn, sz, sc]); refine re ?_
  refine r1 8 ?_; (first | (refine kg gf109 hst (fun w hst => hof _ w (by rw [← h1'.out]; exact hst.own _ _ (by repeat (first | exact List.Mem.head _ | refine List.Mem.tail _ ?_)))) rfl rfl rfl rfl ?_; clear hst; intro w hst) | (refine kf gf188 hst (hti) rfl rfl rfl rfl ?_; clear hst; intro w hst) | (refine kf gf115 hst (hshl) rfl rfl rfl rfl ?_; clear hst; intro w hst) | (refine kp ?_)); (try simp only [pz, pn, sz, sc]); refine re ?_
  refine r0 9 ?_ (hy := yB (tb258_01 _ _)); simp only [pz, pn, sz, sc]
  refine r1 10 ?_; (first | (refine kt hst ta258 rfl rfl ?_; clear hst; intro w hst) | (refine ktm hst ta258 rfl rfl ?_; clear hst; intro w hst)); (try simp only [pz, pn, sz, sc]); refine re ?_
  refine rd_ ?_
  rotate_left 1
  (refine wl_slice1 (o := ⟨some 20, _, _, _, _, _⟩) hst ts133 te22 rfl rfl (by (simp only [eval_lit, eval_k, eval_f, eval_g, List.getD_cons_succ, List.getD_cons_zero]) <;> rfl) (by rfl) ?_; clear hst; intro b20 w hb20 hst); (try simp only [pz, pn, sz, sc]); refine re ?_
  refine r1 4 ?_; (first | (refine kg gf109 hst (fun w hst => hof _ w (by rw [← h1'.out]; exact hst.own _ _ (by repeat (first | exact List.Mem.head _ | refine List.Mem.tail _ ?_)))) rfl rfl rfl rfl ?_; clear hst; intro w hst) | (refine kf gf188 hst (hti) rfl rfl rfl rfl ?_; clear hst; intro w hst) | (refine kf gf115 hst (hshl) rfl rfl rfl rfl ?_; clear hst; intro w hst) | (refine kp ?_)); (try simp only [pz, pn, sz, sc]); refine re ?_
  refine r1 7 ?_; (first | (refine kg gf109 hst (fun w hst => hof _ w (by rw [← h1'.out]; exact hst.own _ _ (by repeat (first | exact List.Mem.head _ | refine List.Mem.tail _ ?_)))) rfl rfl rfl rfl ?_; clear hst; intro w hst) | (refine kf gf188 hst (hti) rfl rfl rfl rfl ?_; clear hst; intro w hst) | (refine kf gf115 hst (hshl) rfl rfl rfl rfl ?_; clear hst; intro w hst) | (refine kp ?_)); (try simp only [pz, pn, sz, sc]); refine re ?_
  refine r1 8 ?_; (first | (refine kg gf109 hst (fun w hst => hof _ w (by rw [← h1'.out]; exact hst.own _ _ (by repeat (first | exact List.Mem.head _ | refine List.Mem.tail _ ?_)))) rfl rfl rfl rfl ?_; clear hst; intro w hst) | (refine kf gf188 hst (hti) rfl rfl rfl rfl ?_; clear hst; intro w hst) | (refine kf gf115 hst (hshl) rfl rfl rfl rfl ?_; clear hst; intro w hst) | (refine kp ?_)); (try simp only [pz, pn, sz, sc]); refine re ?_
  refine r0 9 ?_ (hy := yB (tb258_01 _ _)); simp only [pz, pn, sz, sc]
  refine r1 10 ?_; (first | (refine kt hst ta258 rfl rfl ?_; clear hst; intro w hst) | (refine ktm hst ta258 rfl rfl ?_; clear hst; intro w hst)); (try simp only [pz, pn, sz, sc]); refine re ?_
  refine rd_ ?_
  rotate_right 1
  rotate_left 2
  (refine wl_slice1 (o := ⟨some 20, _, _, _, _, _⟩) hst ts133 te22 rfl rfl (by (simp only [eval_lit, eval_k, eval_f, eval_g, List.getD_cons_succ, List.getD_cons_zero]) <;> rfl) (by rfl) ?_; clear hst; intro b20 w hb20 hst); (try simp only [pz, pn, sz, sc]); refine re ?_
  refine r1 3 ?_; (first | (refine kg gf109 hst (fun w hst => hof _ w (by rw [← h1'.out]; exact hst.own _ _ (by repeat (first | exact List.Mem.head _ | refine List.Mem.tail _ ?_)))) rfl rfl rfl rfl ?_; clear hst; intro w hst) | (refine kf gf188 hst (hti) rfl rfl rfl rfl ?_; clear hst; intro w hst) | (refine kf gf115 hst (hshl) rfl rfl rfl rfl ?_; clear hst; intro w hst) | (refine kp ?_)); (try simp only [pz, pn, sz, sc]); refine re ?_
  refine r1 4 ?_; (first | (refine kg gf109 hst (fun w hst => hof _ w (by rw [← h1'.out]; exact hst.own _ _ (by repeat (first | exact List.Mem.head _ | refine List.Mem.tail _ ?_)))) rfl rfl rfl rfl ?_; clear hst; intro w hst) | (refine kf gf188 hst (hti) rfl rfl rfl rfl ?_; clear hst; intro w hst) | (refine kf gf115 hst (hshl) rfl rfl rfl rfl ?_; clear hst; intro w hst) | (refine kp ?_)); (try simp only [pz, pn, sz, sc]); refine re ?_
  refine r1 7 ?_; (first | (refine kg gf109 hst (fun w hst => hof _ w (by rw [← h1'.out]; exact hst.own _ _ (by repeat (first | exact List.Mem.head _ | refine List.Mem.tail _ ?_)))) rfl rfl rfl rfl ?_; clear hst; intro w hst) | (refine kf gf188 hst (hti) rfl rfl rfl rfl ?_; clear hst; intro w hst) | (refine kf gf115 hst (hshl) rfl rfl rfl rfl ?_; clear hst; intro w hst) | (refine kp ?_)); (try simp only [pz, pn, sz, sc]); refine re ?_
  refine r1 8 ?_; (first | (refine kg gf109 hst (fun w hst => hof _ w (by rw [← h1'.out]; exact hst.own _ _ (by repeat (first | exact List.Mem.head _ | refine List.Mem.tail _ ?_)))) rfl rfl rfl rfl ?_; clear hst; intro w hst) | (refine kf gf188 hst (hti) rfl rfl rfl rfl ?_; clear hst; intro w hst) | (refine kf gf115 hst (hshl) rfl rfl rfl rfl ?_; clear hst; intro w hst) | (refine kp ?_)); (try simp only [pz, pn, sz, sc]); refine re ?_
  refine r0 9 ?_ (hy := yB (tb258_01 _ _)); simp only [pz, pn, sz, sc]
  refine r1 10 ?_; (first | (refine kt hst ta258 rfl rfl ?_; clear hst; intro w hst) | (refine ktm hst ta258 rfl rfl ?_; clear hst; intro w hst)); (try simp only [pz, pn, sz, sc]); refine re ?_
  refine rd_ ?_
  rotate_right 2
  rotate_left 3
  (refine wl_slice1 (o := ⟨some 20, _, _, _, _, _⟩) hst ts133 te22 rfl rfl (by (simp only [eval_lit, eval_k, eval_f, eval_g, List.getD_cons_succ, List.getD_cons_zero]) <;> rfl) (by rfl) ?_; clear hst; intro b20 w hb20 hst); (try simp only [pz, pn, sz, sc]); refine re ?_
  refine r1 2 ?_; (refine wl_slice1 (o := ⟨some 16, _, _, _, _, _⟩) hst ts133 te22 rfl rfl (by (simp only [eval_lit, eval_k, eval_f, eval_g, List.getD_cons_succ, List.getD_cons_zero]) <;> rfl) (by rfl) ?_; clear hst; intro b16 w hb16 hst); (try simp only [pz, pn, sz, sc]); refine re ?_
  refine r1 3 ?_; (first | (refine kg gf109 hst (fun w hst => hof _ w (by rw [← h1'.out]; exact hst.own _ _ (by repeat (first | exact List.Mem.head _ | refine List.Mem.tail _ ?_)))) rfl rfl rfl rfl ?_; clear hst; intro w hst) | (refine kf gf188 hst (hti) rfl rfl rfl rfl ?_; clear hst; intro w hst) | (refine kf gf115 hst (hshl) rfl rfl rfl rfl ?_; clear hst; intro w hst) | (refine kp ?_)); (try simp only [pz, pn, sz, sc]); refine re ?_
  refine r1 4 ?_; (first | (refine kg gf109 hst (fun w hst => hof _ w (by rw [← h1'.out]; exact hst.own _ _ (by repeat (first | exact List.Mem.head _ | refine List.Mem.tail _ ?_)))) rfl rfl rfl rfl ?_; clear hst; intro w hst) | (refine kf gf188 hst (hti) rfl rfl rfl rfl ?_; clear hst; intro w hst) | (refine kf gf115 hst (hshl) rfl rfl rfl rfl ?_; clear hst; intro w hst) | (refine kp ?_)); (try simp only [pz, pn, sz, sc]); refine re ?_
  refine r1 7 ?_; (first | (refine kg gf109 hst (fun w hst => hof _ w (by rw [← h1'.out]; exact hst.own _ _ (by repeat (first | exact List.Mem.head _ | refine List.Mem.tail _ ?_)))) rfl rfl rfl rfl ?_; clear hst; intro w hst) | (refine kf gf188 hst (hti) rfl rfl rfl rfl ?_; clear hst; intro w hst) | (refine kf gf115 hst (hshl) rfl rfl rfl rfl ?_; clear hst; intro w hst) | (refine kp ?_)); (try simp only [pz, pn, sz, sc]); refine re ?_
  refine r1 8 ?_; (first | (refine kg gf109 hst (fun w hst => hof _ w (by rw [← h1'.out]; exact hst.own _ _ (by repeat (first | exact List.Mem.head _ | refine List.Mem.tail _ ?_)))) rfl rfl rfl rfl ?_; clear hst; intro w hst) | (refine kf gf188 hst (hti) rfl rfl rfl rfl ?_; clear hst; intro w hst) | (refine kf gf115 hst (hshl) rfl rfl rfl rfl ?_; clear hst; intro w hst) | (refine kp ?_)); (try simp only [pz, pn, sz, sc]); refine re ?_
  refine r0 9 ?_ (hy := yB (tb258_01 _ _)); simp only [pz, pn, sz, sc]
  refine r1 10 ?_; (first | (refine kt hst ta258 rfl rfl ?_; clear hst; intro w hst) | (refine ktm hst ta258 rfl rfl ?_; clear hst; intro w hst)); (try simp only [pz, pn, sz, sc]); refine re ?_
  refine rd_ ?_
  rotate_right 3
  all_goals
    go_wp2_with ((first | (refine kb 2 hst rfl rfl ?_; clear hst; intro b2 w hb2 hst) | (refine kb 3 hst rfl rfl ?_; clear hst; intro b3 w hb3 hst) | (refine ka 4 hst tz258 rfl rfl ?_; clear hst; intro b4 w hb4 hst) | (refine kc hst tc48 rfl ?_) | (refine kl hst ta24 rfl ?_) | (refine klm hst ta24 rfl ?_) | (refine wl_slice1 (o := ⟨some 16, _, _, _, _, _⟩) hst ts133 te22 rfl rfl (by (simp only [eval_lit, eval_k, eval_f, eval_g, List.getD_cons_succ, List.getD_cons_zero]) <;> rfl) (by rfl) ?_; clear hst; intro b16 w hb16 hst) | (refine wl_slice1 (o := ⟨some 20, _, _, _, _, _⟩) hst ts133 te22 rfl rfl (by (simp only [eval_lit, eval_k, eval_f, eval_g, List.getD_cons_succ, List.getD_cons_zero]) <;> rfl) (by rfl) ?_; clear hst; intro b20 w hb20 hst) | (refine kB (tb258_01 _ _) rfl ?_) | (refine kt hst ta258 rfl rfl ?_; clear hst; intro w hst) | (refine ktm hst ta258 rfl rfl ?_; clear hst; intro w hst)); try simp only [pz, pn, sz, sc])
    first | exact bp_c rfl rfl (la hst ta258) (GivesT.of hst rfl (by simp)) | exact bp_c rfl rfl (la hst ta258) ⟨rfl, hst.keeps, own_one (hst.own _ _ (by simp))⟩

set_option maxHeartbeats 8000000 in
theorem groot_steps (n : Nat) (h1 : 2 ^ 254 ≤ n) (h2 : n < 2 ^ 256) : Gives Tryz.prog 223 #[.agg (gPair (goldS n 0)), .int .i64 5] (.agg (gPair (goldS n 5))) := by
  intro w0
  have hst := St.start [] w0
  have hnx := Lib.hid (fun k (hk : k < 5) => (show Gives Tryz.prog 224 #[.agg (gPair (goldS n k))] (.agg (gPair (goldS n (k + 1)))) by
    have I := gold_near n h1 (by rw [show K * K = 2 ^ 256 by decide]; exact h2) k (by omega)
    have hs := I.small (by omega)
    exact gold_next _ _ hs.1 hs.2 (gold_fac _ _ _ (gds_le k (by omega)) I.hE).1))
  have z0 := gPair_size (goldS n 0)
  have z1 := gPair_one (goldS n 0)
  clear h1 h2
  go_enter Tryz.func223, Tryz.ntmps223
  go_wp2_with ((first | (refine kb 2 hst rfl rfl ?_; clear hst; intro b2 w hb2 hst) | (refine ka 4 hst tz258 rfl rfl ?_; clear hst; intro b4 w hb4 hst) | (refine kl hst ta258 rfl ?_) | (refine klm hst ta258 rfl ?_) | (refine kt hst ta258 rfl rfl ?_; clear hst; intro w hst) | (refine ktm hst ta258 rfl rfl ?_; clear hst; intro w hst)); try simp only [pz, pn, sz, sc])
  go_loopw [7] (fun i wr => ∃ k : Nat, k ≤ 5 ∧ i = .int .i64 k ∧ ∃ cs4 : Array Value, cs4.size = 16 ∧ St w0 [] [(b4, .cells cs4 258), (b2, .cells (gPair (goldS n k)) 258)] wr) (fun i _ => 5 - (intOf i).toNat)
  case atStart => exact ⟨0, by omega, rfl, _, by kernel_rfl, hst.sub (by repeat (first | exact List.Sublist.refl _ | exact List.nil_sublist _ | refine List.Sublist.cons_cons _ ?_ | refine List.Sublist.cons _ ?_))⟩
  case round =>
    clear hst
    obtain ⟨k, hk, rfl, cs4, hcs4, hst⟩ := hrel
    have z0 := gPair_size (goldS n k)
    have z1 := gPair_one (goldS n k)
    by_cases hlt : k < 5
    · have hi5 : (k : Int) < 5 := by omega
      have hn := hnx.out k hlt
      have z2 := gPair_size (goldS n (k + 1))
      have z3 := gPair_one (goldS n (k + 1))
      go_wp2_with ((first | (refine kfV gf224 hst hn rfl rfl rfl rfl ?_; clear hst; intro w hst) | (refine kb 2 hst rfl rfl ?_; clear hst; intro b2 w hb2 hst) | (refine ka 4 hst tz258 rfl rfl ?_; clear hst; intro b4 w hb4 hst) | (refine kl hst ta258 rfl ?_) | (refine klm hst ta258 rfl ?_) | (refine kt hst ta258 rfl rfl ?_; clear hst; intro w hst) | (refine ktm hst ta258 rfl rfl ?_; clear hst; intro w hst)); try simp only [pz, pn, sz, sc])
      go_roundw
      case rel => exact ⟨k + 1, by omega, by go_num, cs4, hcs4, hst.sub (by repeat (first | exact List.Sublist.refl _ | exact List.nil_sublist _ | refine List.Sublist.cons_cons _ ?_ | refine List.Sublist.cons _ ?_))⟩
      case measure => simp [intOf]; omega
    · have : k = 5 := by omega
      subst this
      go_wp2_with ((first | (refine kb 2 hst rfl rfl ?_; clear hst; intro b2 w hb2 hst) | (refine ka 4 hst tz258 rfl rfl ?_; clear hst; intro b4 w hb4 hst) | (refine kl hst ta258 rfl ?_) | (refine klm hst ta258 rfl ?_) | (refine kt hst ta258 rfl rfl ?_; clear hst; intro w hst) | (refine ktm hst ta258 rfl rfl ?_; clear hst; intro w hst)); try simp only [pz, pn, sz, sc])
      refine bp_c rfl rfl (la hst ta258) ⟨?_, hst.keeps⟩
      rfl

end Go.Proofs.YtmkeaedpfmblgaaGreat.Rd
