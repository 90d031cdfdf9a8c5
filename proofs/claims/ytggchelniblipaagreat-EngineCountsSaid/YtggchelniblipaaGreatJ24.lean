/- What newton's seed, repeat, reciprocal, guess, may, Divide answer. -/
import Derived.Test.YtggchelniblipaaGreatJ23
namespace Go.Proofs.YtggchelniblipaaGreat.Rd
open Go Go.RowKit
set_option linter.unusedVariables false
set_option linter.unusedSimpArgs false
set_option maxRecDepth 100000

/-- What an engine's Divide answers, through the interface. -/
def DivM (bs br : Nat) (c c' : Array Value) (c1 c2 c3 c4 k n d x y : Nat) (e : Int) : Prop := ∃ f z, (∀ w, (callMethod (engA k c1 c2 c3 c4) "Divide" #[W n, W d]).run Tryz.prog w = .ok (.enter f #[z, W n, W d]) w) ∧
    ∀ w q, Owns w (EngL bs br c c1 c2 c3 c4 q) → GivesT Tryz.prog f #[z, W n, W d] (.tuple #[W x, W y, .int .i64 e]) [(br, .cells c 69)] [(br, .cells c' 69)] w

theorem div_gold (bs br : Nat) (c : Array Value) (hc : RomOk c) (c1 c2 c3 c4 n d : Nat) (hn : n < M) (hd : d < M) : DivM bs br c (romD n d c) c1 c2 c3 c4 4 n d (quoQ n d) (quoM n d) (mayE n d : Nat) := by
  refine ⟨192, .pointer (some ⟨c3, 0, none⟩), fun w => by unfold engA eA4; kernel_rfl, fun w q hL => ?_⟩
  have hbr := hL.2 br _ (List.Mem.tail _ (List.Mem.head _))
  have hc3 := hL.2 c3 _ (List.Mem.tail _ (List.Mem.tail _ (List.Mem.tail _ (List.Mem.tail _ (List.Mem.head _)))))
  have hnd := hL.1
  simp only [EngL, List.map_cons, List.map_nil, List.nodup_cons, List.mem_cons, List.not_mem_nil, or_false, not_or] at hnd
  exact gold_Divide c3 br c hc (fun e => by omega) n d hn hd w hc3 hbr

set_option maxHeartbeats 1000000 in
theorem engine_Divide_1 (bs br : Nat) (c c' : Array Value) (c1 c2 c3 c4 : Nat) (q : Nat → Int) (k n d x1 x2 : Nat) (x3 : Int) (hD : DivM bs br c c' c1 c2 c3 c4 k n d x1 x2 x3) (b5 b6 : Nat) (h65 : b6 ≠ b5) (hb5 : b5 ∉ keysE bs br c1 c2 c3 c4) (hb6 : b6 ∉ keysE bs br c1 c2 c3 c4) (E5 E6 : TypeId) (w0 : World) (h5 : w0.heap[b5]? = some (.cells (wc 8 n) E5)) (h6 : w0.heap[b6]? = some (.cells (wc 8 d) E6)) (hL : Owns w0 (EngL bs br c c1 c2 c3 c4 q)) :
    GivesT Tryz.prog 14 #[engA k c1 c2 c3 c4, .pointer (some ⟨b5, 0, none⟩), .pointer (some ⟨b6, 0, none⟩)] (.tuple #[W x1, W x2, .int .i64 x3]) [(br, .cells c 69)] [(br, .cells c' 69)] w0 := by
  have hst := ((St.ofOwns [br] hL).add h5 (by rw [EngL_keys]; exact hb5)).add h6 (by
    rw [List.map_cons, EngL_keys]
    intro h
    rcases List.mem_cons.1 h with h | h
    · exact h65 h
    · exact hb6 h)
  obtain ⟨f, z, hm, hr⟩ := hD
  have hr' := Lib.hid hr
  clear hr hL h5 h6 hb5 hb6
  generalize engA k c1 c2 c3 c4 = A at *
  unfold EngL at hst
  go_enter Tryz.func14, Tryz.ntmps14
  go_wp2_with ((first | (refine kTI hst (fun w hst => hr'.out w q (hst.owns (L := []) (L' := EngL bs br c c1 c2 c3 c4 q) (X := [_, _, _, _]) (.there (.there (.there (.there .here)))))) hm rfl rfl rfl rfl ?_; clear hst; intro w hst) | (refine ka 4 hst tz25 rfl rfl ?_; clear hst; intro b4 w hb4 hst) | (refine ka 5 hst tz25 rfl rfl ?_; clear hst; intro b5 w hb5 hst) | (refine kl hst ta25 rfl ?_) | (refine klm hst ta25 rfl ?_) | (refine kt hst ta25 rfl rfl ?_; clear hst; intro w hst) | (refine ktm hst ta25 rfl rfl ?_; clear hst; intro w hst)); try simp only [pz, pn, sz, sc])
  refine bp_cct rfl rfl (la hst ta25) (la hst ta25) (by rfl) ⟨?_, hst.keeps, own_one (hst.own _ _ (by simp))⟩
  rfl

set_option maxHeartbeats 1000000 in
theorem engine_Divide (bs br : Nat) (c c' : Array Value) (q : Nat → Int) (L : List (Nat × Obj)) (hS : SetSt bs br c q L) (k : Nat) (h1 : 1 ≤ k) (h2 : k ≤ 4) (hq1 : 0 ≤ q k) (hq2 : q k ≤ 1000) (n d x1 x2 : Nat) (x3 : Int) (hD : ∀ c1 c2 c3 c4, DivM bs br c c' c1 c2 c3 c4 k n d x1 x2 x3) (w0 : World) (hL : Owns w0 L) :
    GivesZ Tryz.prog 7 #[.pointer (some ⟨bs, 0, none⟩), .int .i64 k, W n, W d] [bs, br] L (fun L' v => v = .tuple #[W x1, W x2, .int .i64 x3] ∧ ∃ c1 c2 c3 c4, L' = EngL bs br c' c1 c2 c3 c4 (bump k q)) w0 := by
  refine ⟨fun x hx => by simp only [List.mem_cons, List.not_mem_nil, or_false] at hx; rcases hx with rfl | rfl; exact hS.bs.1; exact hS.bs.2, ?_⟩
  have hst := St.ofOwns [bs, br] hL
  have hbs := hS.bs
  have hask := fun (b6 b7 : Nat) (h76 : b7 ≠ b6) (w : World) (h6 : w.heap[b6]? = some (.cells (wc 8 n) 25)) (h7 : w.heap[b7]? = some (.cells (wc 8 d) 25)) (hb6 : b6 ∉ L.map Prod.fst) (hb7 : b7 ∉ L.map Prod.fst) (ho : Owns w L) =>
    engine_ask bs br c c' q L hS k h1 h2 hq1 hq2 14 gf14 #[.pointer (some ⟨b6, 0, none⟩), .pointer (some ⟨b7, 0, none⟩)] x1 x2 x3 w ho
      (fun c1 c2 c3 c4 w' kp hk ho' => engine_Divide_1 bs br c c' c1 c2 c3 c4 (bump k q) k n d x1 x2 x3 (hD c1 c2 c3 c4) b6 b7 h76
        (fun hb => by
          rcases hk b6 hb with h | h
          · exact hb6 h
          · have := lt_of_some h6; omega)
        (fun hb => by
          rcases hk b7 hb with h | h
          · exact hb7 h
          · have := lt_of_some h7; omega) 25 25 w'
        (by
          rw [kp.block b6 (lt_of_some h6) (fun hb => by simp only [List.mem_cons, List.not_mem_nil, or_false] at hb; rcases hb with rfl | rfl; exact hb6 hbs.1; exact hb6 hbs.2)]
          exact h6)
        (by
          rw [kp.block b7 (lt_of_some h7) (fun hb => by simp only [List.mem_cons, List.not_mem_nil, or_false] at hb; rcases hb with rfl | rfl; exact hb7 hbs.1; exact hb7 hbs.2)]
          exact h7) ho')
  clear hS hL h1 h2 hq1 hq2 hD hbs
  go_enter Tryz.func7, Tryz.ntmps7
  go_wp2_with ((first | (refine kZ (fun L' => (b9, .cells (wc 8 0) 25) :: (b8, .cells (wc 8 0) 25) :: (b7, .cells (wc 8 d) 25) :: (b6, .cells (wc 8 n) 25) :: L') gf13 hst (fun w hst => hask b6 b7 (by have hnd := hst.nodup; simp only [List.map_cons, List.nodup_cons, List.mem_cons, not_or] at hnd; exact hnd.2.2.1.1) w (hst.own _ _ (by repeat (first | exact List.Mem.head _ | refine List.Mem.tail _ ?_))) (hst.own _ _ (by repeat (first | exact List.Mem.head _ | refine List.Mem.tail _ ?_))) (fun hb => by have hnd := hst.nodup; simp only [List.map_cons, List.nodup_cons] at hnd; exact hnd.2.2.2.1 hb) (fun hb => by have hnd := hst.nodup; simp only [List.map_cons, List.nodup_cons] at hnd; exact hnd.2.2.1 (List.mem_cons_of_mem _ hb)) (hst.owns (L := L) (.there (.there (.there (.there .here)))))) rfl rfl rfl rfl ?_; clear hst; intro v14 L' w hR hnew hst; obtain ⟨rfl, hR⟩ := hR) | (refine kb 6 hst rfl rfl ?_; clear hst; intro b6 w hb6 hst) | (refine kb 7 hst rfl rfl ?_; clear hst; intro b7 w hb7 hst) | (refine ka 8 hst tz25 rfl rfl ?_; clear hst; intro b8 w hb8 hst) | (refine ka 9 hst tz25 rfl rfl ?_; clear hst; intro b9 w hb9 hst) | (refine kt hst ta25 rfl rfl ?_; clear hst; intro w hst) | (refine ktm hst ta25 rfl rfl ?_; clear hst; intro w hst)); try simp only [pz, pn, sz, sc])
  exact bp_cct rfl rfl (la hst ta25) (la hst ta25) (by rfl) (PostZ.of hst ⟨rfl, hR⟩ hnew (.there (.there (.there (.there .here)))))

theorem law_is_yes (k : Int) (h1 : 1 ≤ k) (h2 : k ≤ 4) : Gives Tryz.prog 9 #[.int .i64 k] (.bool true) := by
  intro w0
  have hst := St.start [] w0
  go_enter Tryz.func9, Tryz.ntmps9
  go_wp2_with fail
  refine bp_t rfl rfl (by rfl) ⟨?_, hst.keeps⟩
  rfl

theorem law_is_no (k : Int) (h : k < 1 ∨ 4 < k) : Gives Tryz.prog 9 #[.int .i64 k] (.bool false) := by
  intro w0
  have hst := St.start [] w0
  rcases h with h | h
  · have q1 : ¬ 1 ≤ k := by omega
    clear h
    go_enter Tryz.func9, Tryz.ntmps9
    go_wp2_with fail
    refine bp_t rfl rfl (by rfl) ⟨?_, hst.keeps⟩
    rfl
  · have q1 : 1 ≤ k := by omega
    have q2 : ¬ k ≤ 4 := by omega
    clear h
    go_enter Tryz.func9, Tryz.ntmps9
    go_wp2_with fail
    refine bp_t rfl rfl (by rfl) ⟨?_, hst.keeps⟩
    rfl

theorem build_100 (w : World) : (Instr.build 25 (List.toArray [(0, .int .u64 100)])).run Tryz.prog w = .ok (W 100) w := by kernel_rfl
theorem build_7 (w : World) : (Instr.build 25 (List.toArray [(0, .int .u64 7)])).run Tryz.prog w = .ok (W 7) w := by kernel_rfl
theorem build_14 (w : World) : (Instr.build 25 (List.toArray [(0, .int .u64 14)])).run Tryz.prog w = .ok (W 14) w := by kernel_rfl
theorem build_2 (w : World) : (Instr.build 25 (List.toArray [(0, .int .u64 2)])).run Tryz.prog w = .ok (W 2) w := by kernel_rfl
theorem quo_100 : quoQ 100 7 = 14 ∧ quoM 100 7 = 2 ∧ mayE 100 7 = 0 := by decide

set_option maxHeartbeats 4000000 in
theorem law_awake : Gives Tryz.prog 4 #[] (.bool true) := by
  intro w0
  have hst := St.start [] w0
  have hnew := fun w => engine_New w
  have b100 := build_100
  have b7' := build_7
  have b14 := build_14
  have b2' := build_2
  have hdiv := fun bs br L (hS : SetNew bs br L) (w : World) (ho : Owns w L) => engine_Divide bs br romN (romD 100 7 romN) (fun _ => 0) L (.inl ⟨hS, rfl, rfl⟩) 4 (by omega) (by omega) (by decide) (by decide) 100 7 _ _ _ (fun c1 c2 c3 c4 => div_gold bs br romN romN_ok c1 c2 c3 c4 100 7 (small_M (by decide)) (small_M (by decide))) w ho
  rw [quo_100.1, quo_100.2.1, quo_100.2.2] at hdiv
  have hcnt := fun bs br c1 c2 c3 c4 w h => engine_Count bs br 0 1 c1 c2 c3 c4 (bump 4 (fun _ => 0)) 4 (by omega) (by omega) w h
  rw [show ((4 : Nat) : Int) = 4 from rfl] at hdiv hcnt
  rw [show bump 4 (fun _ => 0) 4 = 1 from rfl] at hcnt
  generalize romD 100 7 romN = c' at *
  have m14 : 14 < M := small_M (by decide)
  have m2 : 2 < M := small_M (by decide)
  have e14 : decide (14 = 14) = true := rfl
  have e2 : decide (2 = 2) = true := rfl
  go_enter Tryz.func4, Tryz.ntmps4
  go_wp2_with ((first | (refine kN (o := ⟨some 5, _, _, _, _, _⟩) gf5 hst (fun w hst => hnew w) rfl rfl rfl rfl ?_; clear hst; intro v5 L w hn5 hR5 hst; obtain ⟨bs, br, hsr, rfl, hS⟩ := hR5; (try simp only [List.cons_append, List.nil_append, List.append_nil, List.append_assoc] at hst); have hbs : w0.heap.size ≤ bs := hn5.1 (bs, _) (by rw [hS]; exact List.Mem.head _); have hbr : w0.heap.size ≤ br := hn5.1 (br, _) (by rw [hS]; exact List.Mem.tail _ (List.Mem.head _))) | (refine kZ (fun L' => L') gf7 hst (fun w hst => hdiv bs br L hS w (hst.owns (L := L) .here)) rfl rfl rfl rfl ?_; clear hst; intro v12 L' w hR hnew2 hst; obtain ⟨rfl, c1, c2, c3, c4, rfl⟩ := hR; unfold EngL at hst) | (refine kg gf10 hst (fun w hst => hcnt bs br c1 c2 c3 c4 w (hst.own _ _ (by repeat (first | exact List.Mem.head _ | refine List.Mem.tail _ ?_)))) rfl rfl rfl rfl ?_; clear hst; intro w hst) | (refine kB b100 rfl ?_) | (refine kB b7' rfl ?_) | (refine kB b14 rfl ?_) | (refine kB b2' rfl ?_) | (refine wl_guard (by rfl) ?_) | (refine ka 2 hst tz25 rfl rfl ?_; clear hst; intro b2 w hb2 hst) | (refine ka 3 hst tz25 rfl rfl ?_; clear hst; intro b3 w hb3 hst) | (refine kt hst ta25 rfl rfl ?_; clear hst; intro w hst) | (refine ktm hst ta25 rfl rfl ?_; clear hst; intro w hst) | (refine kl hst ta25 rfl ?_) | (refine klm hst ta25 rfl ?_) | (refine ke tr25 tc23 rfl ?_)); try simp only [pz, pn, sz, sc])
  refine bp_t rfl rfl (by rfl) ⟨?_, hst.keeps⟩
  rfl

end Go.Proofs.YtggchelniblipaaGreat.Rd

namespace Go.Proofs.YtggchelniblipaaGreat.Rd
open Go Go.RowKit
set_option linter.unusedVariables false
set_option linter.unusedSimpArgs false
set_option maxRecDepth 100000

set_option maxHeartbeats 4000000 in
theorem newton_seed (br : Nat) (c : Array Value) (hc : RomOk c) (D : Nat) (h1 : 2 ^ 127 ≤ D) (h2 : D < 2 ^ 128) (w0 : World) (hr : w0.heap[br]? = some (.cells c 69)) :
    GivesT Tryz.prog 156 #[.agg #[.pointer (some ⟨br, 0, none⟩)], W D] (W (newtonY D 0)) [(br, .cells c 69)] [(br, .cells romF 69)] w0 := by
  have hst := (St.start [br] w0).add hr (by simp)
  have hg := fun (w : World) (h : w.heap[br]? = some (.cells c 69)) => rom_Guess br c hc D h1 h2 w h
  rw [guess_recip D h1] at hg
  have hv := (guess_near D h1 h2).2.2
  show GivesT _ _ _ (W (guessOf D * 2 ^ 151)) _ _ _
  clear hr hc h1 h2
  generalize guessOf D = v at *
  have hvB : v < B := by rw [B_val]; omega
  have hof := of_u64 v hvB
  have h1' := Lib.hid (wc_1 v hvB)
  have hvM : v < M := small_M (by omega)
  have hshl := wide_Shl v 151 hvM
  rw [show clampN 151 = 151 from rfl, Nat.mod_eq_of_lt (small_M (by omega))] at hshl
  generalize v * 2 ^ 151 = y at *
  generalize romF = cf at *
  go_enter Tryz.func156, Tryz.ntmps156
  go_wp2_with ((first | (refine kT gf172 hst (fun w hst => hg w (hst.own _ _ (by simp))) rfl rfl rfl rfl ?_; clear hst; intro w hst) | (refine kg gf86 hst (fun w hst => hof _ w (by rw [← h1'.out]; exact hst.own _ _ (by simp))) rfl rfl rfl rfl ?_; clear hst; intro w hst) | (refine kf gf92 hst (hshl) rfl rfl rfl rfl ?_; clear hst; intro w hst) | (refine kb 2 hst rfl rfl ?_; clear hst; intro b2 w hb2 hst) | (refine kb 3 hst rfl rfl ?_; clear hst; intro b3 w hb3 hst) | (refine ka 4 hst tz25 rfl rfl ?_; clear hst; intro b4 w hb4 hst) | (refine kc hst tc38 rfl ?_) | (refine kl hst ta25 rfl ?_) | (refine klm hst ta25 rfl ?_) | (refine wl_slice1 (o := ⟨some 15, _, _, _, _, _⟩) hst ts145 te23 rfl rfl (by (simp only [eval_lit, eval_k, eval_f, eval_g, List.getD_cons_succ, List.getD_cons_zero]) <;> rfl) (by rfl) ?_; clear hst; intro b15 w hb15 hst) | (refine kt hst ta25 rfl rfl ?_; clear hst; intro w hst) | (refine ktm hst ta25 rfl rfl ?_; clear hst; intro w hst)); try simp only [pz, pn, sz, sc])
  first | exact bp_c rfl rfl (la hst ta25) (GivesT.of hst rfl (by simp)) | exact bp_c rfl rfl (la hst ta25) ⟨rfl, hst.keeps, hst.own _ _ (by simp)⟩

set_option maxHeartbeats 4000000 in
theorem newton_better (D m : Nat) (h1 : 2 ^ 127 ≤ D) (h2 : D < 2 ^ 128) (hm : m ≤ 5) (b1 : Nat) (E1 : TypeId) (w0 : World) (hb : w0.heap[b1]? = some (.cells (wc 8 D) E1)) :
    GivesAt Tryz.prog 170 #[W (newtonY D m), .pointer (some ⟨b1, 0, none⟩)] (W (newtonY D (m + 1))) w0 := by
  have hst := (St.start [] w0).add hb (by simp)
  obtain ⟨q1, q2⟩ := newtonY_small D h1 h2 m hm
  show GivesAt _ _ _ (W (newtonY D m * (2 * R - D * newtonY D m / K) / R)) _
  have hR2 : 2 * R < M := small_M (by decide)
  have hDM : D < M := small_M (by omega)
  have hyM : newtonY D m < M := small_M (by omega)
  have e1 : D * newtonY D m / 2 ^ 128 < M := Nat.lt_of_le_of_lt q1 hR2
  have t1 := fix_Times D (newtonY D m) 128 hDM hyM (by omega) e1
  rw [show (2 : Nat) ^ 128 = K from rfl] at t1 e1
  have t2 := fix_Two _ q1
  have hf : 2 * R - D * newtonY D m / K ≤ 2 ^ 161 := Nat.le_trans (Nat.sub_le _ _) (by decide)
  have t3 := fix_Times (newtonY D m) (2 * R - D * newtonY D m / K) 160 hyM (Nat.lt_of_le_of_lt hf (small_M (by decide))) (by omega)
    (Nat.lt_of_le_of_lt (Nat.div_le_self _ _) (Nat.lt_of_le_of_lt (Nat.mul_le_mul q2 hf) (pow_sq_M 162 161 (by omega))))
  rw [show (2 : Nat) ^ 160 = R from rfl] at t3
  clear q1 q2 e1 hb h1 h2 hR2 hDM hyM hf hm
  generalize newtonY D m * (2 * R - D * newtonY D m / K) / R = z3 at *
  generalize 2 * R - D * newtonY D m / K = z2 at *
  generalize D * newtonY D m / K = z1 at *
  generalize newtonY D m = y at *
  go_enter Tryz.func170, Tryz.ntmps170
  go_wp2_with ((first | (refine kb 2 hst rfl rfl ?_; clear hst; intro b2 w hb2 hst) | (refine ka 3 hst tz25 rfl rfl ?_; clear hst; intro b3 w hb3 hst) | (refine kl hst ta25 rfl ?_) | (refine klm hst ta25 rfl ?_) | (refine kt hst ta25 rfl rfl ?_; clear hst; intro w hst) | (refine ktm hst ta25 rfl rfl ?_; clear hst; intro w hst)); try simp only [pz, pn, sz, sc])
  refine wp_region_T 6  hst (by kernel_rfl) ?_; clear hst; intro w hst; (try dsimp only [List.length_cons, List.length_nil]); (try simp only [List.length_cons, List.length_nil, Nat.reduceAdd, Array.replicate_succ, Array.replicate_zero, List.push_toArray, List.nil_append, List.cons_append])
  refine rl 0 rfl ?_ (by first | exact ylA ta25 | exact ylM ta25); simp only [pz, pn, sz, sc]
  refine rl 1 rfl ?_ (by first | exact ylA ta25 | exact ylM ta25); simp only [pz, pn, sz, sc]
  refine rl 2 rfl ?_ (by first | exact ylA ta25 | exact ylM ta25); simp only [pz, pn, sz, sc]
  refine r1 3 ?_; (first | (refine kf gf165 hst (t1) rfl rfl rfl rfl ?_; clear hst; intro w hst) | (refine kf gf171 hst (t2) rfl rfl rfl rfl ?_; clear hst; intro w hst) | (refine kf gf165 hst (t3) rfl rfl rfl rfl ?_; clear hst; intro w hst) | (refine kp ?_)); (try simp only [pz, pn, sz, sc]); refine re ?_
  refine r1 4 ?_; (first | (refine kf gf165 hst (t1) rfl rfl rfl rfl ?_; clear hst; intro w hst) | (refine kf gf171 hst (t2) rfl rfl rfl rfl ?_; clear hst; intro w hst) | (refine kf gf165 hst (t3) rfl rfl rfl rfl ?_; clear hst; intro w hst) | (refine kp ?_)); (try simp only [pz, pn, sz, sc]); refine re ?_
  refine r1 5 ?_; (first | (refine kf gf165 hst (t1) rfl rfl rfl rfl ?_; clear hst; intro w hst) | (refine kf gf171 hst (t2) rfl rfl rfl rfl ?_; clear hst; intro w hst) | (refine kf gf165 hst (t3) rfl rfl rfl rfl ?_; clear hst; intro w hst) | (refine kp ?_)); (try simp only [pz, pn, sz, sc]); refine re ?_
  refine r1 6 ?_; (first | (refine kt hst ta25 rfl rfl ?_; clear hst; intro w hst) | (refine ktm hst ta25 rfl rfl ?_; clear hst; intro w hst)); (try simp only [pz, pn, sz, sc]); refine re ?_
  refine rd_ ?_
  go_wp2_with ((first | (refine kb 2 hst rfl rfl ?_; clear hst; intro b2 w hb2 hst) | (refine ka 3 hst tz25 rfl rfl ?_; clear hst; intro b3 w hb3 hst) | (refine kl hst ta25 rfl ?_) | (refine klm hst ta25 rfl ?_) | (refine kt hst ta25 rfl rfl ?_; clear hst; intro w hst) | (refine ktm hst ta25 rfl rfl ?_; clear hst; intro w hst)); try simp only [pz, pn, sz, sc])
  refine bp_c rfl rfl (la hst ta25) ⟨?_, hst.keeps⟩
  rfl

set_option maxHeartbeats 4000000 in
theorem newton_repeat (y : Nat → Nat) (k : Nat) (hk : k ≤ 100) (f : FuncId) (hf : GoF Tryz.prog f) (cap : Array Value) (w0 : World)
    (hc : ∀ i w, i < k → Keeps [] w0 w → GivesAt Tryz.prog f ([W (y i)] ++ cap.toList).toArray (W (y (i + 1))) w) :
    GivesAt Tryz.prog 169 #[.int .i64 k, W (y 0), .func (.func f) #[] cap] (W (y k)) w0 := by
  have hst := St.start [] w0
  have hc' := Lib.hid hc
  clear hc
  go_enter Tryz.func169, Tryz.ntmps169
  go_wp2_with ((first | (refine kb 4 hst rfl rfl ?_; clear hst; intro b4 w hb4 hst) | (refine ka 6 hst tz25 rfl rfl ?_; clear hst; intro b6 w hb6 hst) | (refine kl hst ta25 rfl ?_) | (refine klm hst ta25 rfl ?_) | (refine kt hst ta25 rfl rfl ?_; clear hst; intro w hst) | (refine ktm hst ta25 rfl rfl ?_; clear hst; intro w hst)); try simp only [pz, pn, sz, sc])
  go_loopw [8] (fun i wr => ∃ j : Nat, j ≤ k ∧ i = .int .i64 j ∧ St w0 [] [(b6, .cells (wc 8 0) 25), (b4, .cells (wc 8 (y j)) 25)] wr) (fun i _ => k - (intOf i).toNat)
  case atStart => exact ⟨0, by omega, rfl, hst⟩
  case round =>
    clear hst
    obtain ⟨j, hj, rfl, hst⟩ := hrel
    by_cases hlt : j < k
    · have h5 : (j : Int) < (k : Int) := by omega
      have hb := fun (w : World) (kp : Keeps [] w0 w) => hc'.out j w hlt kp
      go_wp2_with ((first | (refine kg hf hst (fun w hst => hb w hst.keeps) rfl rfl rfl rfl ?_; clear hst; intro w hst) | (refine kb 4 hst rfl rfl ?_; clear hst; intro b4 w hb4 hst) | (refine ka 6 hst tz25 rfl rfl ?_; clear hst; intro b6 w hb6 hst) | (refine kl hst ta25 rfl ?_) | (refine klm hst ta25 rfl ?_) | (refine kt hst ta25 rfl rfl ?_; clear hst; intro w hst) | (refine ktm hst ta25 rfl rfl ?_; clear hst; intro w hst)); try simp only [pz, pn, sz, sc])
      go_roundw
      case rel => exact ⟨j + 1, by omega, by go_num, hst⟩
      case measure => (simp [intOf]; try omega)
    · obtain rfl : j = k := by omega
      have h5 : ¬ (j : Int) < (j : Int) := by omega
      go_wp2_with ((first | (refine kb 4 hst rfl rfl ?_; clear hst; intro b4 w hb4 hst) | (refine ka 6 hst tz25 rfl rfl ?_; clear hst; intro b6 w hb6 hst) | (refine kl hst ta25 rfl ?_) | (refine klm hst ta25 rfl ?_) | (refine kt hst ta25 rfl rfl ?_; clear hst; intro w hst) | (refine ktm hst ta25 rfl rfl ?_; clear hst; intro w hst)); try simp only [pz, pn, sz, sc])
      refine bp_c rfl rfl (la hst ta25) ⟨?_, hst.keeps⟩
      rfl

end Go.Proofs.YtggchelniblipaaGreat.Rd
