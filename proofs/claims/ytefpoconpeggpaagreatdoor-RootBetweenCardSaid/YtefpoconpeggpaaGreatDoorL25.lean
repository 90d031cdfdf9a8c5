/- What goldroot's first, steps, Pair, Root answer. -/
import Derived.Test.YtefpoconpeggpaaGreatDoorL24
namespace Go.Proofs.YtefpoconpeggpaaGreatDoor.Rd
set_option linter.unusedVariables false
set_option maxRecDepth 100000

def gH : Nat := 2 ^ 159
/-- The pairs of the rounds. -/
def goldS (n : Nat) : Nat → Nat × Nat
  | 0 => (n * rguessAt (n / 2 ^ 249) / 2 ^ 105, rguessAt (n / 2 ^ 249) * 2 ^ 150)
  | k + 1 => ((goldS n k).1 * (3 * gH - (goldS n k).1 * (goldS n k).2 / R) / R, (goldS n k).2 * (3 * gH - (goldS n k).1 * (goldS n k).2 / R) / R)
def gds : Nat → Nat
  | 0 => 2 ^ 154 + 1
  | 1 => 2 ^ 150
  | 2 => 2 ^ 142
  | 3 => 2 ^ 126
  | 4 => 2 ^ 94
  | _ => 2 ^ 30
theorem gds_step : ∀ k, k < 5 → 2 * (gds k * gds k) + 12 * R ≤ gds (k + 1) * R := by decide
theorem gds_le : ∀ k, k < 6 → gds k ≤ 2 ^ 155 := by decide
theorem gds_drift : ∀ k, k < 5 → (2 * k + 1) * (R + gds k) + R ≤ (2 * (k + 1) + 1) * R := by decide
structure GoldI (n k g h : Nat) : Prop where
  hg : g ≤ R + gH + k * 2 ^ 156
  hh : h ≤ R + gH + k * 2 ^ 156
  hE : (((gH * R : Nat) : Int) - ((g * h : Nat) : Int)).natAbs ≤ gds k * R
  hF : (((2 ^ 255 * g : Nat) : Int) - ((n * h : Nat) : Int)).natAbs ≤ (2 * k + 1) * (K * K)
theorem gold_fac (g h d : Nat) (hd : d ≤ 2 ^ 155) (hE : (((gH * R : Nat) : Int) - ((g * h : Nat) : Int)).natAbs ≤ d * R) : g * h / R ≤ 3 * gH ∧ 3 * gH - g * h / R ≤ R + d := by
  have hR := R_pos
  have h2 : R = 2 * gH := by decide
  have h3 : d ≤ gH := Nat.le_trans hd (by decide)
  have e1 : g * h ≤ (gH + d) * R := by rw [Nat.add_mul]; omega
  have e2 : (gH - d) * R ≤ g * h := by rw [Nat.sub_mul]; omega
  have t1 : g * h / R ≤ gH + d := Nat.div_le_of_le_mul (by rw [Nat.mul_comm R]; exact e1)
  have t2 : gH - d ≤ g * h / R := (Nat.le_div_iff_mul_le hR).2 e2
  omega
theorem gold_grow (g f d : Nat) (hg : g ≤ 2 * R) (hd : d ≤ 2 ^ 155) (hf : f ≤ R + d) : g * f / R ≤ g + 2 ^ 156 := by
  apply Nat.div_le_of_le_mul
  have e1 : g * f ≤ g * (R + d) := Nat.mul_le_mul_left _ hf
  have e2 : g * d ≤ 2 * R * 2 ^ 155 := Nat.mul_le_mul hg hd
  have e3 : g * (R + d) = g * R + g * d := Nat.mul_add _ _ _
  have e4 : R * (g + 2 ^ 156) = g * R + R * 2 ^ 156 := by rw [Nat.mul_add, Nat.mul_comm R g]
  have e5 : 2 * R * 2 ^ 155 = R * 2 ^ 156 := by decide
  omega
theorem GoldI.small {n k g h : Nat} (I : GoldI n k g h) (hk : k ≤ 5) : g ≤ 2 * R ∧ h ≤ 2 * R := by
  have h1 := I.hg
  have h2 := I.hh
  have h3 : k * 2 ^ 156 ≤ 5 * 2 ^ 156 := Nat.mul_le_mul_right _ hk
  have h4 : R + gH + 5 * 2 ^ 156 ≤ 2 * R := by decide
  omega
theorem GoldI.next {n k g h : Nat} (hn : n < K * K) (hk : k < 5) (I : GoldI n k g h) : GoldI n (k + 1) (g * (3 * gH - g * h / R) / R) (h * (3 * gH - g * h / R) / R) := by
  obtain ⟨s1, s2⟩ := I.small (by omega)
  have hd := gds_le k (by omega)
  obtain ⟨f1, f2⟩ := gold_fac g h _ hd I.hE
  have a1 := gold_grow g _ _ s1 hd f2
  have a2 := gold_grow h _ _ s2 hd f2
  have b1 := I.hg
  have b2 := I.hh
  have e : (k + 1) * 2 ^ 156 = k * 2 ^ 156 + 2 ^ 156 := by rw [Nat.add_mul, Nat.one_mul]
  exact ⟨by omega, by omega, groot_step gH R g h (gds k) (gds (k + 1)) (by decide) (by decide) (Nat.le_trans hd (by decide)) s1 s2 I.hE f1 (gds_step k hk),
    groot_drift R (2 ^ 255) (K * K) n g h _ (2 * k + 1) (2 * (k + 1) + 1) (gds k) R_pos (by decide) (Nat.le_of_lt hn) I.hF f2 (gds_drift k hk)⟩
theorem gold_seed_g (n g : Nat) (hn : n < K * K) (h : n * (g * g) ≤ 2 ^ 249 * 34603008) : n * g / 2 ^ 105 ≤ R + gH := by
  apply Nat.div_le_of_le_mul
  apply Nat.not_lt.1
  intro h1
  have h2 := sq_le_of_le (Nat.le_of_lt h1)
  have e1 : n * g * (n * g) = n * (n * (g * g)) := by grind
  have h3 := Nat.mul_le_mul (Nat.le_of_lt hn) h
  have h4 : K * K * (2 ^ 249 * 34603008) < 2 ^ 105 * (R + gH) * (2 ^ 105 * (R + gH)) := by decide
  omega
theorem gold_aux (a b y1 y2 y3 P Rr : Nat) (e : y1 + y2 = y3 * P) (h2 : y2 ≤ Rr) (sd : ((a : Int) - (y3 : Int)).natAbs ≤ b) : (((a * P : Nat) : Int) - (y1 : Int)).natAbs ≤ b * P + Rr := by
  have u : y3 ≤ a + b := by omega
  have l : a ≤ y3 + b := by omega
  have u2 := Nat.mul_le_mul_right P u
  have l2 := Nat.mul_le_mul_right P l
  rw [Nat.add_mul] at u2 l2
  omega
theorem gold_zero (n : Nat) (h1 : 2 ^ 254 ≤ n) (h2 : n < K * K) : GoldI n 0 (goldS n 0).1 (goldS n 0).2 := by
  have h3 := Nat.div_add_mod n (2 ^ 249)
  have h4 := Nat.mod_lt n (show 0 < 2 ^ 249 by decide)
  have i1 : 32 ≤ n / 2 ^ 249 := by omega
  have i2 : n / 2 ^ 249 < 128 := by
    have : K * K = 2 ^ 249 * 128 := by decide
    rw [this] at h2
    exact Nat.div_lt_of_lt_mul h2
  simp only [goldS]
  generalize n / 2 ^ 249 = i at *
  generalize n % 2 ^ 249 = r at *
  obtain ⟨t1, t2, t3⟩ := rguess_table i i2 i1
  generalize rguessAt i = g at *
  have sd := seed_aux (2 ^ 249) 1 n g i r h3 h4 t1 t2
  rw [show 2 ^ 249 * 33554432 * (1 * 1) = 2 ^ 249 * 33554432 by decide, show 2 ^ 249 * 1048576 * (1 * 1) = 2 ^ 249 * 1048576 by decide, show g * 1 * (g * 1) = g * g by simp] at sd
  have q1 := Nat.div_add_mod (n * g) (2 ^ 105)
  have q2 := Nat.mod_lt (n * g) (show 0 < 2 ^ 105 by decide)
  have u : n * (g * g) ≤ 2 ^ 249 * 34603008 := by omega
  have hgr := gold_seed_g n g h2 u
  have e0 : n * g * g = n * (g * g) := Nat.mul_assoc _ _ _
  generalize n * g / 2 ^ 105 = x at *
  generalize n * g % 2 ^ 105 = m at *
  refine ⟨by omega, ?_, ?_, ?_⟩
  · have : 1016 * 2 ^ 150 ≤ R + gH := by decide
    have h' : g * 2 ^ 150 ≤ 1016 * 2 ^ 150 := Nat.mul_le_mul_right _ t3
    rw [Nat.zero_mul, Nat.add_zero]
    exact Nat.le_trans h' this
  · have eX : x * (g * 2 ^ 150) + m * g * 2 ^ 45 = n * (g * g) * 2 ^ 45 := by
      have p : (2 : Nat) ^ 150 = 2 ^ 105 * 2 ^ 45 := by decide
      rw [p]
      generalize (2 : Nat) ^ 105 = a at *
      generalize (2 : Nat) ^ 45 = b at *
      rw [← e0, ← q1]; grind
    have mg : m * g ≤ 2 ^ 105 * 1016 := Nat.mul_le_mul (Nat.le_of_lt q2) t3
    have p1 : gH * R = 2 ^ 249 * 33554432 * 2 ^ 45 := by decide
    have p2 : gds 0 * R = 2 ^ 249 * 1048576 * 2 ^ 45 + R := by decide
    have p3 : 2 ^ 105 * 1016 * 2 ^ 45 ≤ R := by decide
    rw [p1, p2]
    have mg2 := Nat.mul_le_mul_right (2 ^ 45) mg
    exact gold_aux _ _ _ _ _ _ _ eX (Nat.le_trans mg2 p3) sd
  · have eX : 2 ^ 255 * x + 2 ^ 150 * m = n * (g * 2 ^ 150) := by
      have p : (2 : Nat) ^ 255 = 2 ^ 105 * 2 ^ 150 := by decide
      rw [p]
      generalize (2 : Nat) ^ 105 = a at *
      generalize (2 : Nat) ^ 150 = b at *
      have : n * (g * b) = n * g * b := (Nat.mul_assoc _ _ _).symm
      rw [this, ← q1]; grind
    have p3 : 2 ^ 150 * 2 ^ 105 ≤ K * K := by decide
    have mg := Nat.mul_le_mul_left (2 ^ 150) (Nat.le_of_lt q2)
    generalize n * (g * 2 ^ 150) = y1 at *
    omega
theorem gold_near (n : Nat) (h1 : 2 ^ 254 ≤ n) (h2 : n < K * K) (k : Nat) (hk : k ≤ 5) : GoldI n k (goldS n k).1 (goldS n k).2 := by
  induction k with
  | zero => exact gold_zero n h1 h2
  | succ k ih => exact (ih (by omega)).next h2 (by omega)
theorem goldroot_last (n s : Nat) (h1 : 2 ^ 254 ≤ n) (h2 : n < K * K) (hs1 : s * s ≤ n) (hs2 : n < (s + 1) * (s + 1)) : (goldS n 5).1 / 2 ^ 32 ≤ s + 1 ∧ s ≤ (goldS n 5).1 / 2 ^ 32 + 1 := by
  have I := gold_near n h1 h2 5 (Nat.le_refl _)
  have hs : 2 ^ 127 ≤ s := by
    apply Nat.not_lt.1
    intro h
    have h3 := sq_le_of_le (show s + 1 ≤ 2 ^ 127 by omega)
    have h4 : 2 ^ 127 * 2 ^ 127 ≤ 2 ^ 254 := by decide
    omega
  refine groot_guess (2 ^ 255) (2 ^ 32) R (K * K) n _ _ s (2 ^ 30) 11 (by decide) (by decide) hs1 hs2 (I.small (by omega)).1 ?_ I.hF ?_
  · have : (2 : Nat) ^ 255 * (2 ^ 32 * 2 ^ 32) = gH * R := by decide
    rw [this]; exact I.hE
  · have a1 := Nat.mul_le_mul_right (2 ^ 30 * R) (Nat.le_of_lt h2)
    have a2 := Nat.mul_le_mul_right (2 ^ 255 * (2 ^ 32 * 2 ^ 32)) (Nat.mul_le_mul_left 2 hs)
    have a3 : K * K * (2 ^ 30 * R) + 2 * R * (11 * (K * K)) + 2 ^ 255 * (2 ^ 32 * 2 ^ 32) < 2 * 2 ^ 127 * (2 ^ 255 * (2 ^ 32 * 2 ^ 32)) := by decide
    exact Nat.lt_of_lt_of_le (Nat.lt_of_le_of_lt (Nat.add_le_add_right (Nat.add_le_add_right a1 _) _) a3) a2

end Go.Proofs.YtefpoconpeggpaaGreatDoor.Rd

namespace Go.Proofs.YtefpoconpeggpaaGreatDoor.Rd
open Go Go.RowKit
set_option linter.unusedVariables false
set_option linter.unusedSimpArgs false
set_option maxRecDepth 100000

section
variable {P : Program} {ops : Array Oper} {rest : List Oper} {Q : Exit → Act → World → Prop} {a : Act} {w w0 : World} {S : List Nat} {L L' : List (Nat × Obj)}
theorem run_execOp_first {o : Oper} {c : Call} (ho : o.op = .call c) {x : Operand} (hc : c.callee = .value x) {f : FuncId} {fi cap : Array Value} (hx : a.eval x = .func (.func f) fi cap) (w : World) :
    (execOp a.eval o).run P w = (callFunc f (fi ++ c.args.map a.eval ++ cap)).run P w := by
  unfold execOp
  simp [ho, resolve, hc, hx, Deferred.ofValue, Sem.run_bind, invoke]
theorem run_execOp_invoke {o : Oper} {c : Call} (ho : o.op = .call c) {x : Operand} {name : String} (hc : c.callee = .invoke x name) (w : World) :
    (execOp a.eval o).run P w = (callMethod (a.eval x) name (c.args.map a.eval)).run P w := by
  unfold execOp
  simp [ho, resolve, hc, Sem.run_bind, invoke]
  have h0 : (#[a.eval x] ++ Array.map a.eval c.args)[0]? = some (a.eval x) := by rw [Array.getElem?_append_left (by simp)]; rfl
  rw [h0]
  show Sem.run P (callMethod _ _ ((Array.map a.eval c.args).extract 0 _)) w = _
  rw [show c.args.size = (Array.map a.eval c.args).size by simp, Array.extract_size]
theorem args_first {xs : Array Operand} {fi cap : Array Value} {args : List Value} (h : fi.toList ++ xs.toList.map a.eval ++ cap.toList = args) : fi ++ xs.map a.eval ++ cap = args.toArray := by
  apply Array.toList_inj.1
  simp [← h]
theorem args_in {xs : Array Operand} {args : List Value} (h : xs.toList.map a.eval = args) : xs.map a.eval = args.toArray := by
  apply Array.toList_inj.1
  simp [h]
/-- A call of a method value. -/
theorem kfV {o : Oper} {c : Call} {x : Operand} {f : FuncId} {fi cap : Array Value} {args : List Value} {v : Value} (hf : GoF P f) (hst : St w0 S L w) (hc : Gives P f args.toArray v)
    (ho : o.op = .call c) (hcal : c.callee = .value x) (hx : a.eval x = .func (.func f) fi cap) (hargs : fi.toList ++ c.args.toList.map a.eval ++ cap.toList = args)
    (h : ∀ w', St w0 S L w' → wpList P ops Q rest (a.put o.dst v) w') (hg : o.guard = none := by rfl) : wpList P ops Q (o :: rest) a w := by
  refine wpList_plain hg fun K hK => ?_
  unfold Oper.wp
  rw [run_execOp_first ho hcal hx, args_first hargs, run_callFunc_go hf, Oper.upon_enter]
  refine (hc w).mono fun e w'' hh => ?_
  obtain ⟨rfl, hk⟩ := hh
  exact hK _ _ (h _ (hst.keep hk))
/-- A call through an interface that writes the blocks Ls. -/
theorem kTI {o : Oper} {c : Call} {x : Operand} {f : FuncId} {rv : Value} {name : String} {args args' : List Value} {v : Value} {Ls Ls' : List (Nat × Obj)} (hst : St w0 S L w) (hc : ∀ w, St w0 S L w → GivesT P f args'.toArray v Ls Ls' w)
    (hm : ∀ w, (callMethod rv name args.toArray).run P w = .ok (.enter f args'.toArray) w) (ho : o.op = .call c) (hcal : c.callee = .invoke x name) (hx : a.eval x = rv) (hargs : c.args.toList.map a.eval = args)
    (h : ∀ w', St w0 S L' w' → wpList P ops Q rest (a.put o.dst v) w')
    (hsw : Swap Ls Ls' L L' := by repeat (first | exact Swap.nil _ | exact At.head _ | apply At.tail | apply Swap.cons))
    (hb : Mine w0.heap.size S Ls := by repeat (first | exact Mine.nil | refine Mine.cons (by first | exact Or.inl (by assumption) | (refine Or.inr ?_; simp)) ?_)) (hg : o.guard = none := by rfl) : wpList P ops Q (o :: rest) a w := by
  refine wpList_plain hg fun K hK => ?_
  unfold Oper.wp
  rw [run_execOp_invoke ho hcal, hx, args_in hargs, hm, Oper.upon_enter]
  refine (hc w hst).mono fun e w'' hh => ?_
  obtain ⟨rfl, hk, hown⟩ := hh
  exact hK _ _ (h w'' (hst.puts hsw hb.all hk hown))
end

def gPair (p : Nat × Nat) : Array Value := wc 8 p.1 ++ wc 8 p.2
def gNext (p : Nat × Nat) : Nat × Nat := (p.1 * (3 * gH - p.1 * p.2 / R) / R, p.2 * (3 * gH - p.1 * p.2 / R) / R)
theorem two_M (x y : Nat) (h1 : x ≤ 2 * R) (h2 : y ≤ 2 * R) : x * y < M :=
  Nat.lt_of_le_of_lt (Nat.mul_le_mul (Nat.le_trans h1 (show 2 * R ≤ 2 ^ 161 by decide)) (Nat.le_trans h2 (show 2 * R ≤ 2 ^ 161 by decide))) (pow_sq_M 161 161 (by omega))

set_option maxHeartbeats 8000000 in
theorem gold_next (g h : Nat) (h1 : g ≤ 2 * R) (h2 : h ≤ 2 * R) (h3 : g * h / R ≤ 3 * gH) : Gives Tryz.prog 270 #[.agg (wc 8 g ++ wc 8 h)] (.agg (gPair (gNext (g, h)))) := by
  intro w0
  have hst := St.start [] w0
  have hR3 : 3 * gH < M := small_M (by decide)
  have hR2 : 2 * R < M := small_M (by decide)
  have hRg : R + gH = 3 * gH := by decide
  have hgR : 3 * gH ≤ 2 * R := by decide
  have p1 := wide_Power 160
  rw [show pow2 160 = R by decide] at p1
  have p2 := wide_Power 159
  rw [show pow2 159 = gH by decide] at p2
  have hs := sum2_of R gH (by omega) (by omega) (by omega)
  rw [hRg] at hs
  have t1 := fix_Times g h 160 (by omega) (by omega) (by omega) (Nat.lt_of_le_of_lt (Nat.div_le_self _ _) (two_M g h h1 h2))
  rw [show (2 : Nat) ^ 160 = R from rfl] at t1
  show Calls _ _ _ _ (fun e w' => e = .returned (.agg (wc 8 (g * (3 * gH - g * h / R) / R) ++ wc 8 (h * (3 * gH - g * h / R) / R))) ∧ Keeps [] w0 w')
  generalize g * h / R = t at *
  have hsub := wide_Sub (3 * gH) t hR3 (by omega)
  rw [show (3 * gH + M - t) % M = 3 * gH - t by rw [show 3 * gH + M - t = 3 * gH - t + M by omega, Nat.add_mod_right, Nat.mod_eq_of_lt (by omega)]] at hsub
  have hf2 : 3 * gH - t ≤ 2 * R := by omega
  have t2 := fix_Times g (3 * gH - t) 160 (by omega) (by omega) (by omega) (Nat.lt_of_le_of_lt (Nat.div_le_self _ _) (two_M g _ h1 hf2))
  have t3 := fix_Times h (3 * gH - t) 160 (by omega) (by omega) (by omega) (Nat.lt_of_le_of_lt (Nat.div_le_self _ _) (two_M h _ h2 hf2))
  rw [show (2 : Nat) ^ 160 = R from rfl] at t2 t3
  clear h1 h2 h3 hR3 hR2 hRg hgR hf2
  generalize g * (3 * gH - t) / R = y1 at *
  generalize h * (3 * gH - t) / R = y2 at *
  generalize 3 * gH - t = f at *
  generalize 3 * gH = x1 at *
  generalize gH = x2 at *
  generalize R = x3 at *
  have k1 : (wc 8 g ++ wc 8 h).size = 16 := by simp
  have k2 : (wc 8 y1 ++ wc 8 y2).size = 16 := by simp
  have k3 := app_one y1 y2
  go_enter Tryz.func270, Tryz.ntmps270
  go_wp2_with ((first | (refine kf gf127 hst (p1) rfl rfl rfl rfl ?_; clear hst; intro w hst) | (refine kf gf127 hst (p2) rfl rfl rfl rfl ?_; clear hst; intro w hst) | (refine kg gf72 hst (fun w hst => hs _ w (hst.own _ _ (by simp))) rfl rfl rfl rfl ?_; clear hst; intro w hst) | (refine kb 1 hst rfl rfl ?_; clear hst; intro b1 w hb1 hst) | (refine ka 2 hst tz306 rfl rfl ?_; clear hst; intro b2 w hb2 hst) | (refine kS 8 hst ts162_ (tw44_2 _ _) rfl rfl ?_; clear hst; intro b8 w hb8 hst) | (refine ka 3 hst tz44 rfl rfl ?_; clear hst; intro b3 w hb3 hst) | (refine kt hst ta44 rfl rfl ?_; clear hst; intro w hst)); try simp only [pz, pn, sz, sc])
  refine wp_region_T 11  hst (by kernel_rfl) ?_; clear hst; intro w hst; (try simp only [List.length_cons, List.length_nil, Nat.reduceAdd, Array.replicate_succ, Array.replicate_zero, List.push_toArray, List.nil_append, List.cons_append])
  refine r0 1 ?_; simp only [pz, pn, sz, sc]
  refine r0 3 ?_; simp only [pz, pn, sz, sc]
  refine rl 0 rfl ?_ (by first | exact ylA ta44 | exact ylM ta44); simp only [pz, pn, sz, sc]
  refine rl 2 rfl ?_ (by first | exact ylA ta44 | exact ylM ta44); simp only [pz, pn, sz, sc]
  refine rl 4 rfl ?_ (by first | exact ylA ta44 | exact ylM ta44); simp only [pz, pn, sz, sc]
  refine r2 5 10 ?_ ?_
  (refine kf gf246 hst (t1) rfl rfl rfl rfl ?_; clear hst; intro w hst); (try simp only [pz, pn, sz, sc]); refine re ?_
  refine r2 6 10 ?_ ?_
  (refine kf gf122 hst (hsub) rfl rfl rfl rfl ?_; clear hst; intro w hst); (try simp only [pz, pn, sz, sc]); refine re ?_
  refine r0 7 ?_; simp only [pz, pn, sz, sc]
  refine r0 8 ?_; simp only [pz, pn, sz, sc]
  refine r0 9 ?_; simp only [pz, pn, sz, sc]
  refine r1 10 ?_; (refine ka 4 hst tz44 rfl rfl ?_; clear hst; intro b4 w hb4 hst); (try simp only [pz, pn, sz, sc]); refine re ?_
  refine r1 11 ?_; (refine kt hst ta44 rfl rfl ?_; clear hst; intro w hst); (try simp only [pz, pn, sz, sc]); refine re ?_
  refine r0 12 ?_; simp only [pz, pn, sz, sc]
  refine rd_ ?_
  rotate_left 1
  (refine ka 4 hst tz44 rfl rfl ?_; clear hst; intro b4 w hb4 hst); (try simp only [pz, pn, sz, sc]); refine re ?_
  refine r1 6 ?_; (refine kf gf122 hst (hsub) rfl rfl rfl rfl ?_; clear hst; intro w hst); (try simp only [pz, pn, sz, sc]); refine re ?_
  refine r0 7 ?_; simp only [pz, pn, sz, sc]
  refine r0 8 ?_; simp only [pz, pn, sz, sc]
  refine r0 9 ?_; simp only [pz, pn, sz, sc]
  refine r1 11 ?_; (refine kt hst ta44 rfl rfl ?_; clear hst; intro w hst); (try simp only [pz, pn, sz, sc]); refine re ?_
  refine r0 12 ?_; simp only [pz, pn, sz, sc]
  refine rd_ ?_
  rotate_right 1
  rotate_left 2
  (refine ka 4 hst tz44 rfl rfl ?_; clear hst; intro b4 w hb4 hst); (try simp only [pz, pn, sz, sc]); refine re ?_
  refine r1 5 ?_; (refine kf gf246 hst (t1) rfl rfl rfl rfl ?_; clear hst; intro w hst); (try simp only [pz, pn, sz, sc]); refine re ?_
  refine r1 6 ?_; (refine kf gf122 hst (hsub) rfl rfl rfl rfl ?_; clear hst; intro w hst); (try simp only [pz, pn, sz, sc]); refine re ?_
  refine r0 7 ?_; simp only [pz, pn, sz, sc]
  refine r0 8 ?_; simp only [pz, pn, sz, sc]
  refine r0 9 ?_; simp only [pz, pn, sz, sc]
  refine r1 11 ?_; (refine kt hst ta44 rfl rfl ?_; clear hst; intro w hst); (try simp only [pz, pn, sz, sc]); refine re ?_
  refine r0 12 ?_; simp only [pz, pn, sz, sc]
  refine rd_ ?_
  rotate_right 2
  all_goals
    go_wp2_with fail
    refine wp_region_T 9  hst (by kernel_rfl) ?_; clear hst; intro w hst; (try simp only [List.length_cons, List.length_nil, Nat.reduceAdd, Array.replicate_succ, Array.replicate_zero, List.push_toArray, List.nil_append, List.cons_append])
    refine r0 0 ?_; simp only [pz, pn, sz, sc]
    refine r0 4 ?_; simp only [pz, pn, sz, sc]
    refine rl 1 rfl ?_ (by first | exact ylA ta44 | exact ylM ta44); simp only [pz, pn, sz, sc]
    refine rl 2 rfl ?_ (by first | exact ylA ta44 | exact ylM ta44); simp only [pz, pn, sz, sc]
    refine rl 5 rfl ?_ (by first | exact ylA ta44 | exact ylM ta44); simp only [pz, pn, sz, sc]
    refine rl 6 rfl ?_ (by first | exact ylA ta44 | exact ylM ta44); simp only [pz, pn, sz, sc]
    refine r1 3 ?_; (refine kf gf246 hst (t2) rfl rfl rfl rfl ?_; clear hst; intro w hst); (try simp only [pz, pn, sz, sc]); refine re ?_
    refine r1 7 ?_; (refine kf gf246 hst (t3) rfl rfl rfl rfl ?_; clear hst; intro w hst); (try simp only [pz, pn, sz, sc]); refine re ?_
    refine r0 8 ?_ (hy := yB (tb306_01 _ _)); simp only [pz, pn, sz, sc]
    refine r1 9 ?_; (refine kt hst ta306 rfl rfl ?_; clear hst; intro w hst); (try simp only [pz, pn, sz, sc]); refine re ?_
    refine rd_ ?_
    go_wp2_with fail
    refine bp_c rfl rfl (la hst ta306) ⟨?_, hst.keeps⟩
    rfl

end Go.Proofs.YtefpoconpeggpaaGreatDoor.Rd

namespace Go.Proofs.YtefpoconpeggpaaGreatDoor.Rd
open Go Go.RowKit
set_option linter.unusedVariables false
set_option linter.unusedSimpArgs false
set_option maxRecDepth 100000

theorem gPair_size (p : Nat × Nat) : (gPair p).size = 16 := by simp [gPair]
theorem gPair_one (p : Nat × Nat) : OneC (gPair p) := app_one _ _

set_option maxHeartbeats 8000000 in
theorem groot_first (br : Nat) (c : Array Value) (hc : RomOk c) (n : Nat) (h1 : 2 ^ 254 ≤ n) (h2 : n < 2 ^ 256) (w0 : World) (hr : w0.heap[br]? = some (.cells c 121)) :
    GivesT Tryz.prog 267 #[.agg #[.pointer (some ⟨br, 0, none⟩)], W n] (.agg (gPair (goldS n 0))) [(br, .cells c 121)] [(br, .cells romF 121)] w0 := by
  have hst := (St.start [br] w0).add hr (by simp)
  have hltr := lt_of_some hr
  have hg := fun (w : World) (h : w.heap[br]? = some (.cells c 121)) => rom_GuessRoot br c hc n h1 h2 w h
  have hv := rguess_le n h1 h2
  show GivesT _ _ _ (.agg (wc 8 (n * rguessAt (n / 2 ^ 249) / 2 ^ 105) ++ wc 8 (rguessAt (n / 2 ^ 249) * 2 ^ 150))) _ _ _
  clear hr hc h1
  generalize rguessAt (n / 2 ^ 249) = v at *
  have hvB : v < B := by rw [B_val]; omega
  have hof := of_u64 v hvB
  have h1' := Lib.hid (wc_1 v hvB)
  have hvM : v < M := small_M (by omega)
  have hnM : n < M := small_M (by omega)
  have hshl := wide_Shl v 150 hvM
  rw [show clampN 150 = 150 from rfl, Nat.mod_eq_of_lt (small_M (by omega))] at hshl
  have hti := fix_Times n v 105 hnM hvM (by omega) (by
    refine Nat.lt_of_le_of_lt (Nat.div_le_self _ _) (Nat.lt_of_le_of_lt (Nat.mul_le_mul (Nat.le_of_lt h2) (show v ≤ 2 ^ 10 by omega)) (pow_sq_M 256 10 (by omega))))
  clear h2 hnM hvM hv
  generalize n * v / 2 ^ 105 = x at *
  generalize v * 2 ^ 150 = y at *
  generalize romF = cf at *
  have k2 : (wc 8 x ++ wc 8 y).size = 16 := by simp
  have k3 := app_one x y
  go_enter Tryz.func267, Tryz.ntmps267
  go_wp2_with ((first | (refine kT gf259 hst (fun w hst => hg w (hst.own _ _ (by simp))) rfl rfl rfl rfl ?_; clear hst; intro w hst) | (refine kb 2 hst rfl rfl ?_; clear hst; intro b2 w hb2 hst) | (refine kb 3 hst rfl rfl ?_; clear hst; intro b3 w hb3 hst) | (refine ka 4 hst tz306 rfl rfl ?_; clear hst; intro b4 w hb4 hst) | (refine kc hst tc67 rfl ?_) | (refine kl hst ta44 rfl ?_)); try simp only [pz, pn, sz, sc])
  refine wp_region_T 10  hst (by kernel_rfl) ?_; clear hst; intro w hst; (try simp only [List.length_cons, List.length_nil, Nat.reduceAdd, Array.replicate_succ, Array.replicate_zero, List.push_toArray, List.nil_append, List.cons_append])
  refine r0 1 ?_; simp only [pz, pn, sz, sc]
  refine r0 5 ?_; simp only [pz, pn, sz, sc]
  refine rl 0 rfl ?_ (by first | exact ylA ta44 | exact ylM ta44); simp only [pz, pn, sz, sc]
  refine r2 2 6 ?_ ?_
  (refine wl_slice1 (o := ⟨some 16, _, _, _, _, _⟩) hst ts123 te22 rfl rfl (by (simp only [eval_lit, eval_k, eval_f, eval_g, List.getD_cons_succ, List.getD_cons_zero]) <;> rfl) (by rfl) ?_; clear hst; intro b16 w hb16 hst); (try simp only [pz, pn, sz, sc]); refine re ?_
  refine r2 3 6 ?_ ?_
  (refine kg gf131 hst (fun w hst => hof _ w (by rw [← h1'.out]; exact hst.own _ _ (by repeat (first | exact List.Mem.head _ | refine List.Mem.tail _ ?_)))) rfl rfl rfl rfl ?_; clear hst; intro w hst); (try simp only [pz, pn, sz, sc]); refine re ?_
  refine r2 4 6 ?_ ?_
  (refine kf gf246 hst (hti) rfl rfl rfl rfl ?_; clear hst; intro w hst); (try simp only [pz, pn, sz, sc]); refine re ?_
  refine r1 6 ?_; (refine wl_slice1 (o := ⟨some 20, _, _, _, _, _⟩) hst ts123 te22 rfl rfl (by (simp only [eval_lit, eval_k, eval_f, eval_g, List.getD_cons_succ, List.getD_cons_zero]) <;> rfl) (by rfl) ?_; clear hst; intro b20 w hb20 hst); (try simp only [pz, pn, sz, sc]); refine re ?_
  refine r1 7 ?_; (refine kg gf131 hst (fun w hst => hof _ w (by rw [← h1'.out]; exact hst.own _ _ (by repeat (first | exact List.Mem.head _ | refine List.Mem.tail _ ?_)))) rfl rfl rfl rfl ?_; clear hst; intro w hst); (try simp only [pz, pn, sz, sc]); refine re ?_
  refine r1 8 ?_; (refine kf gf48 hst (hshl) rfl rfl rfl rfl ?_; clear hst; intro w hst); (try simp only [pz, pn, sz, sc]); refine re ?_
  refine r0 9 ?_ (hy := yB (tb306_01 _ _)); simp only [pz, pn, sz, sc]
  refine r1 10 ?_; (refine kt hst ta306 rfl rfl ?_; clear hst; intro w hst); (try simp only [pz, pn, sz, sc]); refine re ?_
  refine rd_ ?_
  rotate_left 1
  (refine wl_slice1 (o := ⟨some 20, _, _, _, _, _⟩) hst ts123 te22 rfl rfl (by (simp only [eval_lit, eval_k, eval_f, eval_g, List.getD_cons_succ, List.getD_cons_zero]) <;> rfl) (by rfl) ?_; clear hst; intro b20 w hb20 hst); (try simp only [pz, pn, sz, sc]); refine re ?_
  refine r1 4 ?_; (refine kf gf246 hst (hti) rfl rfl rfl rfl ?_; clear hst; intro w hst); (try simp only [pz, pn, sz, sc]); refine re ?_
  refine r1 7 ?_; (refine kg gf131 hst (fun w hst => hof _ w (by rw [← h1'.out]; exact hst.own _ _ (by repeat (first | exact List.Mem.head _ | refine List.Mem.tail _ ?_)))) rfl rfl rfl rfl ?_; clear hst; intro w hst); (try simp only [pz, pn, sz, sc]); refine re ?_
  refine r1 8 ?_; (refine kf gf48 hst (hshl) rfl rfl rfl rfl ?_; clear hst; intro w hst); (try simp only [pz, pn, sz, sc]); refine re ?_
  refine r0 9 ?_ (hy := yB (tb306_01 _ _)); simp only [pz, pn, sz, sc]
  refine r1 10 ?_; (refine kt hst ta306 rfl rfl ?_; clear hst; intro w hst); (try simp only [pz, pn, sz, sc]); refine re ?_
  refine rd_ ?_
  rotate_right 1
  rotate_left 2
  (refine wl_slice1 (o := ⟨some 20, _, _, _, _, _⟩) hst ts123 te22 rfl rfl (by (simp only [eval_lit, eval_k, eval_f, eval_g, List.getD_cons_succ, List.getD_cons_zero]) <;> rfl) (by rfl) ?_; clear hst; intro b20 w hb20 hst); (try simp only [pz, pn, sz, sc]); refine re ?_
  refine r1 3 ?_; (refine kg gf131 hst (fun w hst => hof _ w (by rw [← h1'.out]; exact hst.own _ _ (by repeat (first | exact List.Mem.head _ | refine List.Mem.tail _ ?_)))) rfl rfl rfl rfl ?_; clear hst; intro w hst); (try simp only [pz, pn, sz, sc]); refine re ?_
  refine r1 4 ?_; (refine kf gf246 hst (hti) rfl rfl rfl rfl ?_; clear hst; intro w hst); (try simp only [pz, pn, sz, sc]); refine re ?_
  refine r1 7 ?_; (refine kg gf131 hst (fun w hst => hof _ w (by rw [← h1'.out]; exact hst.own _ _ (by repeat (first | exact List.Mem.head _ | refine List.Mem.tail _ ?_)))) rfl rfl rfl rfl ?_; clear hst; intro w hst); (try simp only [pz, pn, sz, sc]); refine re ?_
  refine r1 8 ?_; (refine kf gf48 hst (hshl) rfl rfl rfl rfl ?_; clear hst; intro w hst); (try simp only [pz, pn, sz, sc]); refine re ?_
  refine r0 9 ?_ (hy := yB (tb306_01 _ _)); simp only [pz, pn, sz, sc]
  refine r1 10 ?_; (refine kt hst ta306 rfl rfl ?_; clear hst; intro w hst); (try simp only [pz, pn, sz, sc]); refine re ?_
  refine rd_ ?_
  rotate_right 2
  rotate_left 3
  (refine wl_slice1 (o := ⟨some 20, _, _, _, _, _⟩) hst ts123 te22 rfl rfl (by (simp only [eval_lit, eval_k, eval_f, eval_g, List.getD_cons_succ, List.getD_cons_zero]) <;> rfl) (by rfl) ?_; clear hst; intro b20 w hb20 hst); (try simp only [pz, pn, sz, sc]); refine re ?_
  refine r1 2 ?_; (refine wl_slice1 (o := ⟨some 16, _, _, _, _, _⟩) hst ts123 te22 rfl rfl (by (simp only [eval_lit, eval_k, eval_f, eval_g, List.getD_cons_succ, List.getD_cons_zero]) <;> rfl) (by rfl) ?_; clear hst; intro b16 w hb16 hst); (try simp only [pz, pn, sz, sc]); refine re ?_
  refine r1 3 ?_; (refine kg gf131 hst (fun w hst => hof _ w (by rw [← h1'.out]; exact hst.own _ _ (by repeat (first | exact List.Mem.head _ | refine List.Mem.tail _ ?_)))) rfl rfl rfl rfl ?_; clear hst; intro w hst); (try simp only [pz, pn, sz, sc]); refine re ?_
  refine r1 4 ?_; (refine kf gf246 hst (hti) rfl rfl rfl rfl ?_; clear hst; intro w hst); (try simp only [pz, pn, sz, sc]); refine re ?_
  refine r1 7 ?_; (refine kg gf131 hst (fun w hst => hof _ w (by rw [← h1'.out]; exact hst.own _ _ (by repeat (first | exact List.Mem.head _ | refine List.Mem.tail _ ?_)))) rfl rfl rfl rfl ?_; clear hst; intro w hst); (try simp only [pz, pn, sz, sc]); refine re ?_
  refine r1 8 ?_; (refine kf gf48 hst (hshl) rfl rfl rfl rfl ?_; clear hst; intro w hst); (try simp only [pz, pn, sz, sc]); refine re ?_
  refine r0 9 ?_ (hy := yB (tb306_01 _ _)); simp only [pz, pn, sz, sc]
  refine r1 10 ?_; (refine kt hst ta306 rfl rfl ?_; clear hst; intro w hst); (try simp only [pz, pn, sz, sc]); refine re ?_
  refine rd_ ?_
  rotate_right 3
  all_goals
    go_wp2_with fail
    first | exact bp_c rfl rfl (la hst ta306) (GivesT.of hst rfl (by simp)) | exact bp_c rfl rfl (la hst ta306) ⟨rfl, hst.keeps, own_one (hst.own _ _ (by simp))⟩

set_option maxHeartbeats 8000000 in
theorem groot_steps (n : Nat) (h1 : 2 ^ 254 ≤ n) (h2 : n < 2 ^ 256) : Gives Tryz.prog 269 #[.agg (gPair (goldS n 0)), .int .i64 5] (.agg (gPair (goldS n 5))) := by
  intro w0
  have hst := St.start [] w0
  have hnx := Lib.hid (fun k (hk : k < 5) => (show Gives Tryz.prog 270 #[.agg (gPair (goldS n k))] (.agg (gPair (goldS n (k + 1)))) by
    have I := gold_near n h1 (by rw [show K * K = 2 ^ 256 by decide]; exact h2) k (by omega)
    have hs := I.small (by omega)
    exact gold_next _ _ hs.1 hs.2 (gold_fac _ _ _ (gds_le k (by omega)) I.hE).1))
  have z0 := gPair_size (goldS n 0)
  have z1 := gPair_one (goldS n 0)
  clear h1 h2
  go_enter Tryz.func269, Tryz.ntmps269
  go_wp2_with ((first | (refine kb 2 hst rfl rfl ?_; clear hst; intro b2 w hb2 hst) | (refine ka 4 hst tz306 rfl rfl ?_; clear hst; intro b4 w hb4 hst)); try simp only [pz, pn, sz, sc])
  go_loopw [7] (fun i wr => ∃ k : Nat, k ≤ 5 ∧ i = .int .i64 k ∧ ∃ cs4 : Array Value, cs4.size = 16 ∧ St w0 [] [(b4, .cells cs4 306), (b2, .cells (gPair (goldS n k)) 306)] wr) (fun i _ => 5 - (intOf i).toNat)
  case atStart => exact ⟨0, by omega, rfl, _, by kernel_rfl, hst.sub (by repeat (first | exact List.Sublist.refl _ | exact List.nil_sublist _ | refine List.Sublist.cons_cons _ ?_ | refine List.Sublist.cons _ ?_))⟩
  case round =>
    clear hst
    obtain ⟨k, hk, rfl, cs4, hcs4, hst⟩ := hrel
    have z0 := gPair_size (goldS n k)
    have z1 := gPair_one (goldS n k)
    by_cases hlt : k < 5
    · have hi5 : (k : Int) < 5 := by omega
      have hn := hnx.out k hlt
      have z2 := gPair_size (goldS n (k + 1))
      have z3 := gPair_one (goldS n (k + 1))
      go_wp2_with ((first | (refine kfV gf270 hst hn rfl rfl rfl rfl ?_; clear hst; intro w hst) | (refine kl hst ta306 rfl ?_) | (refine kt hst ta306 rfl rfl ?_; clear hst; intro w hst)); try simp only [pz, pn, sz, sc])
      go_roundw
      case rel => exact ⟨k + 1, by omega, by go_num, cs4, hcs4, hst.sub (by repeat (first | exact List.Sublist.refl _ | exact List.nil_sublist _ | refine List.Sublist.cons_cons _ ?_ | refine List.Sublist.cons _ ?_))⟩
      case measure => simp [intOf]; omega
    · have : k = 5 := by omega
      subst this
      go_wp2_with ((first | (refine kl hst ta306 rfl ?_) | (refine kt hst ta306 rfl rfl ?_; clear hst; intro w hst)); try simp only [pz, pn, sz, sc])
      refine bp_c rfl rfl (la hst ta306) ⟨?_, hst.keeps⟩
      rfl

end Go.Proofs.YtefpoconpeggpaaGreatDoor.Rd
