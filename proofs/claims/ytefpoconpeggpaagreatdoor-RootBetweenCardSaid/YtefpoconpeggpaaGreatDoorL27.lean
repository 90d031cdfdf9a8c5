/- What root.may, rounded answer. -/
import Derived.Test.YtefpoconpeggpaaGreatDoorL26
import Derived.Test.YtefpoconpeggpaaGreatDoorL23
namespace Go.Proofs.YtefpoconpeggpaaGreatDoor.Rd
open Go Go.RowKit
set_option linter.unusedVariables false
set_option linter.unusedSimpArgs false
set_option maxRecDepth 100000

def rootQ (n : Nat) : Nat := if n < 2 ^ 256 then isqrt n else 0
def rootM (n : Nat) : Nat := if n < 2 ^ 256 then n - isqrt n * isqrt n else 0
def rootE (n : Nat) : Int := if n < 2 ^ 256 then 0 else 4
theorem rootV_eq (n : Nat) : rootV n = .tuple #[W (rootQ n), W (rootM n), .int .i64 (rootE n)] := by
  unfold rootV rootQ rootM rootE; split <;> rfl
theorem Gives.toT {P : Program} {f : FuncId} {args : Array Value} {v : Value} (h : Gives P f args v) (Ls : List (Nat × Obj)) {w : World} (hL : ∀ b o, (b, o) ∈ Ls → w.heap[b]? = some o) : GivesT P f args v Ls Ls w :=
  (h w).mono fun e w' ⟨h1, k⟩ => ⟨h1, k.mono (by simp), fun b o hm => by rw [k.block b (lt_of_some (hL b o hm)) (by simp)]; exact hL b o hm⟩

theorem restoring_Root (n : Nat) (hn : n < M) : Gives Tryz.prog 217 #[.agg #[], W n] (rootV n) := by
  intro w0
  have hst := St.start [] w0
  have h := root2_Root n hn
  rw [rootV_eq] at h ⊢
  generalize rootQ n = x at *
  generalize rootM n = y at *
  generalize rootE n = e at *
  go_enter Tryz.func217, Tryz.ntmps217
  go_wp2_with ((first | (refine kf gf218 hst (h) rfl rfl rfl rfl ?_; clear hst; intro w hst) | (refine kb 2 hst rfl rfl ?_; clear hst; intro b2 w hb2 hst) | (refine kb 3 hst rfl rfl ?_; clear hst; intro b3 w hb3 hst) | (refine ka 4 hst tz44 rfl rfl ?_; clear hst; intro b4 w hb4 hst) | (refine ka 5 hst tz44 rfl rfl ?_; clear hst; intro b5 w hb5 hst) | (refine kl hst ta44 rfl ?_) | (refine kt hst ta44 rfl rfl ?_; clear hst; intro w hst)); try simp only [pz, pn, sz, sc])
  refine bp_cct rfl rfl (la hst ta44) (la hst ta44) (by rfl) ⟨?_, hst.keeps⟩
  rfl

theorem signed_Root (n : Nat) (hn : n < M) : Gives Tryz.prog 223 #[.agg #[], W n] (rootV n) := by
  intro w0
  have hst := St.start [] w0
  have h := srtroot_Root n hn
  rw [rootV_eq] at h ⊢
  generalize rootQ n = x at *
  generalize rootM n = y at *
  generalize rootE n = e at *
  go_enter Tryz.func223, Tryz.ntmps223
  go_wp2_with ((first | (refine kf gf224 hst (h) rfl rfl rfl rfl ?_; clear hst; intro w hst) | (refine kb 2 hst rfl rfl ?_; clear hst; intro b2 w hb2 hst) | (refine kb 3 hst rfl rfl ?_; clear hst; intro b3 w hb3 hst) | (refine ka 4 hst tz44 rfl rfl ?_; clear hst; intro b4 w hb4 hst) | (refine ka 5 hst tz44 rfl rfl ?_; clear hst; intro b5 w hb5 hst) | (refine kl hst ta44 rfl ?_) | (refine kt hst ta44 rfl rfl ?_; clear hst; intro w hst)); try simp only [pz, pn, sz, sc])
  refine bp_cct rfl rfl (la hst ta44) (la hst ta44) (by rfl) ⟨?_, hst.keeps⟩
  rfl

theorem byNewton_Root (c1 be br : Nat) (c : Array Value) (hc : RomOk c) (hne : be ≠ br) (n : Nat) (hn : n < M) (w0 : World) (he : w0.heap[be]? = some (.cells (ptrC br) 206)) (hr : w0.heap[br]? = some (.cells c 121)) :
    GivesT Tryz.prog 263 #[.agg #[.pointer (some ⟨c1, 0, none⟩), .pointer (some ⟨be, 0, none⟩)], W n] (rootV n) [(br, .cells c 121)] [(br, .cells (romTo n c) 121)] w0 := by
  have hst := St.eng hne he hr
  have hlt := lt_of_some he
  have hltr := lt_of_some hr
  have h := fun (w : World) (q : w.heap[be]? = some (.cells (ptrC br) 206)) (h' : w.heap[br]? = some (.cells c 121)) => nroot_Root be br c hc hne n hn w q h'
  rw [rootV_eq] at h ⊢
  clear hc he hr
  generalize rootQ n = x at *
  generalize rootM n = y at *
  generalize rootE n = e at *
  generalize romTo n c = cf at *
  generalize ptrC br = pc at *
  go_enter Tryz.func263, Tryz.ntmps263
  go_wp2_with ((first | (refine kT gf242 hst (fun w hst => h w (hst.own _ _ (by repeat (first | exact List.Mem.head _ | refine List.Mem.tail _ ?_))) (hst.own _ _ (by repeat (first | exact List.Mem.head _ | refine List.Mem.tail _ ?_)))) rfl rfl rfl rfl ?_; clear hst; intro w hst) | (refine kb 2 hst rfl rfl ?_; clear hst; intro b2 w hb2 hst) | (refine kb 3 hst rfl rfl ?_; clear hst; intro b3 w hb3 hst) | (refine ka 4 hst tz44 rfl rfl ?_; clear hst; intro b4 w hb4 hst) | (refine ka 5 hst tz44 rfl rfl ?_; clear hst; intro b5 w hb5 hst) | (refine kc hst tc173 rfl ?_) | (refine kl hst ta44 rfl ?_) | (refine kt hst ta44 rfl rfl ?_; clear hst; intro w hst)); try simp only [pz, pn, sz, sc])
  refine bp_cct rfl rfl (la hst ta44) (la hst ta44) (by rfl) ⟨?_, hst.keeps, own_one (hst.own _ _ (by simp))⟩
  rfl

theorem byGold_Root (c1 be br : Nat) (c : Array Value) (hc : RomOk c) (hne : be ≠ br) (n : Nat) (hn : n < M) (w0 : World) (he : w0.heap[be]? = some (.cells (ptrC br) 214)) (hr : w0.heap[br]? = some (.cells c 121)) :
    GivesT Tryz.prog 271 #[.agg #[.pointer (some ⟨c1, 0, none⟩), .pointer (some ⟨be, 0, none⟩)], W n] (rootV n) [(br, .cells c 121)] [(br, .cells (romTo n c) 121)] w0 := by
  have hst := St.eng hne he hr
  have hlt := lt_of_some he
  have hltr := lt_of_some hr
  have h := fun (w : World) (q : w.heap[be]? = some (.cells (ptrC br) 214)) (h' : w.heap[br]? = some (.cells c 121)) => groot_Root be br c hc hne n hn w q h'
  rw [rootV_eq] at h ⊢
  clear hc he hr
  generalize rootQ n = x at *
  generalize rootM n = y at *
  generalize rootE n = e at *
  generalize romTo n c = cf at *
  generalize ptrC br = pc at *
  go_enter Tryz.func271, Tryz.ntmps271
  go_wp2_with ((first | (refine kT gf266 hst (fun w hst => h w (hst.own _ _ (by repeat (first | exact List.Mem.head _ | refine List.Mem.tail _ ?_))) (hst.own _ _ (by repeat (first | exact List.Mem.head _ | refine List.Mem.tail _ ?_)))) rfl rfl rfl rfl ?_; clear hst; intro w hst) | (refine kb 2 hst rfl rfl ?_; clear hst; intro b2 w hb2 hst) | (refine kb 3 hst rfl rfl ?_; clear hst; intro b3 w hb3 hst) | (refine ka 4 hst tz44 rfl rfl ?_; clear hst; intro b4 w hb4 hst) | (refine ka 5 hst tz44 rfl rfl ?_; clear hst; intro b5 w hb5 hst) | (refine kc hst tc179 rfl ?_) | (refine kl hst ta44 rfl ?_) | (refine kt hst ta44 rfl rfl ?_; clear hst; intro w hst)); try simp only [pz, pn, sz, sc])
  refine bp_cct rfl rfl (la hst ta44) (la hst ta44) (by rfl) ⟨?_, hst.keeps, own_one (hst.own _ _ (by simp))⟩
  rfl

theorem meth_Root (k c1 c2 c3 c4 n : Nat) (h1 : 1 ≤ k) (h2 : k ≤ 4) : ∃ f x, GoF Tryz.prog f ∧ (∀ w, (callMethod (engA k c1 c2 c3 c4) "Root" #[W n]).run Tryz.prog w = .ok (.enter f #[x, W n]) w) ∧
    ((k = 1 ∧ f = 217 ∧ x = .agg #[]) ∨ (k = 2 ∧ f = 223 ∧ x = .agg #[]) ∨ (k = 3 ∧ f = 263 ∧ x = .agg #[.pointer (some ⟨c1, 0, none⟩), .pointer (some ⟨c2, 0, none⟩)]) ∨ (k = 4 ∧ f = 271 ∧ x = .agg #[.pointer (some ⟨c3, 0, none⟩), .pointer (some ⟨c4, 0, none⟩)])) := by
  obtain rfl | rfl | rfl | rfl : k = 1 ∨ k = 2 ∨ k = 3 ∨ k = 4 := by omega
  · exact ⟨_, _, gf217, fun w => by unfold engA eA1; kernel_rfl, .inl ⟨rfl, rfl, rfl⟩⟩
  · exact ⟨_, _, gf223, fun w => by unfold engA eA2; kernel_rfl, .inr (.inl ⟨rfl, rfl, rfl⟩)⟩
  · exact ⟨_, _, gf263, fun w => by unfold engA eA3; kernel_rfl, .inr (.inr (.inl ⟨rfl, rfl, rfl⟩))⟩
  · exact ⟨_, _, gf271, fun w => by unfold engA eA4; kernel_rfl, .inr (.inr (.inr ⟨rfl, rfl, rfl⟩))⟩

end Go.Proofs.YtefpoconpeggpaaGreatDoor.Rd

namespace Go.Proofs.YtefpoconpeggpaaGreatDoor.Rd
open Go Go.RowKit
set_option linter.unusedVariables false
set_option linter.unusedSimpArgs false
set_option maxRecDepth 100000

/-- One more. -/
def bump (k : Nat) (q : Nat → Int) : Nat → Int := fun i => if i = k then q i + 1 else q i
theorem engR_cnt (d m : Int) (br c1 c2 c3 c4 : Nat) (q : Nat → Int) (k : Nat) (h2 : k ≤ 4) : (engR d m br c1 c2 c3 c4 (q 0) (q 1) (q 2) (q 3) (q 4))[9 + k]? = some (.int .i64 (q k)) := by
  obtain rfl | rfl | rfl | rfl | rfl : k = 0 ∨ k = 1 ∨ k = 2 ∨ k = 3 ∨ k = 4 := by omega
  all_goals rfl
theorem engR_bump (d m : Int) (br c1 c2 c3 c4 : Nat) (q : Nat → Int) (k : Nat) (h2 : k ≤ 4) : (engR d m br c1 c2 c3 c4 (q 0) (q 1) (q 2) (q 3) (q 4)).setIfInBounds (9 + k) (.int .i64 (q k + 1)) = engR d m br c1 c2 c3 c4 (bump k q 0) (bump k q 1) (bump k q 2) (bump k q 3) (bump k q 4) := by
  obtain rfl | rfl | rfl | rfl | rfl : k = 0 ∨ k = 1 ∨ k = 2 ∨ k = 3 ∨ k = 4 := by omega
  all_goals rfl

def keysE (bs br c1 c2 c3 c4 : Nat) : List Nat := [bs, br, c1, c2, c3, c4]
theorem EngL_keys (bs br : Nat) (c : Array Value) (c1 c2 c3 c4 : Nat) (q : Nat → Int) : (EngL bs br c c1 c2 c3 c4 q).map Prod.fst = keysE bs br c1 c2 c3 c4 := rfl
theorem keys_of {bs br : Nat} {c : Array Value} {c1 c2 c3 c4 : Nat} {q : Nat → Int} {A : List Nat} {s : Nat} (h : ∀ x ∈ EngL bs br c c1 c2 c3 c4 q, x.1 ∈ A ∨ s ≤ x.1) : ∀ y ∈ keysE bs br c1 c2 c3 c4, y ∈ A ∨ s ≤ y := fun y hy => by
  rw [← EngL_keys bs br c c1 c2 c3 c4 q] at hy
  obtain ⟨x, hx, rfl⟩ := List.mem_map.1 hy
  exact h x hx
theorem of_keys {bs br : Nat} {c : Array Value} {c1 c2 c3 c4 : Nat} {q : Nat → Int} {A : List Nat} {s : Nat} (h : ∀ y ∈ keysE bs br c1 c2 c3 c4, y ∈ A ∨ s ≤ y) : ∀ x ∈ EngL bs br c c1 c2 c3 c4 q, x.1 ∈ A ∨ s ≤ x.1 := fun x hx =>
  h x.1 (by rw [← EngL_keys bs br c c1 c2 c3 c4 q]; exact List.mem_map.2 ⟨x, hx, rfl⟩)

set_option maxHeartbeats 4000000 in
theorem engine_ask (bs br : Nat) (c c' : Array Value) (q : Nat → Int) (L : List (Nat × Obj)) (hS : SetSt bs br c q L) (k : Nat) (h1 : 1 ≤ k) (h2 : k ≤ 4) (hq1 : 0 ≤ q k) (hq2 : q k ≤ 1000) (g : FuncId) (hg : GoF Tryz.prog g) (cap : Array Value) (a b : Nat) (e : Int) (w0 : World) (hL : Owns w0 L)
    (ht : ∀ c1 c2 c3 c4 w, Keeps [bs, br] w0 w → (∀ y ∈ keysE bs br c1 c2 c3 c4, y ∈ L.map Prod.fst ∨ w0.heap.size ≤ y) → Owns w (EngL bs br c c1 c2 c3 c4 (bump k q)) → GivesT Tryz.prog g ([engA k c1 c2 c3 c4] ++ cap.toList).toArray (.tuple #[W a, W b, .int .i64 e]) [(br, .cells c 121)] [(br, .cells c' 121)] w) :
    GivesZ Tryz.prog 88 #[.pointer (some ⟨bs, 0, none⟩), .int .i64 k, .func (.func g) #[] cap] [bs, br] L (fun L' v => v = .tuple #[W a, W b, .int .i64 e] ∧ ∃ c1 c2 c3 c4, L' = EngL bs br c' c1 c2 c3 c4 (bump k q)) w0 := by
  refine ⟨fun x hx => by simp only [List.mem_cons, List.not_mem_nil, or_false] at hx; rcases hx with rfl | rfl; exact hS.bs.1; exact hS.bs.2, ?_⟩
  have hst := St.ofOwns [bs, br] hL
  have hof := fun (w : World) (ho : Owns w L) => engine_Of bs br c q L hS k h1 h2 w ho
  have hadd := fun c1 c2 c3 c4 (w : World) (h : w.heap[bs]? = some (.cells (engR 0 1 br c1 c2 c3 c4 (q 0) (q 1) (q 2) (q 3) (q 4)) 89)) => int64_Add bs (9 + k) (q k) (by omega) (by omega) _ 89 (engR_cnt 0 1 br c1 c2 c3 c4 q k h2) w h
  simp only [engR_bump _ _ _ _ _ _ _ _ _ h2] at hadd
  have i1 : (0 : Int) ≤ (k : Int) := by omega
  have i2 : (k : Int) < 5 := by omega
  have ht' := Lib.hid ht
  clear hS hL h1 h2 hq1 hq2 ht
  go_enter Tryz.func88, Tryz.ntmps88
  go_wp2_with ((first | (refine kZ (fun L' => (b7, .cells (wc 8 0) 44) :: (b6, .cells (wc 8 0) 44) :: L') gf61 hst (fun w hst => hof w (hst.owns (L := L) (.there (.there .here)))) rfl rfl rfl rfl ?_; clear hst; intro v14 L' w hR hnew hst; obtain ⟨c1, c2, c3, c4, rfl, rfl⟩ := hR; replace hnew := keys_of hnew; unfold EngL at hst) | (refine kT gf109 hst (fun w hst => hadd c1 c2 c3 c4 w (hst.own _ _ (by repeat (first | exact List.Mem.head _ | refine List.Mem.tail _ ?_)))) rfl rfl rfl rfl ?_; clear hst; intro w hst) | (refine kT hg hst (fun w hst => ht'.out c1 c2 c3 c4 w hst.keeps hnew (hst.owns (L := L) (L' := EngL bs br c c1 c2 c3 c4 (bump k q)) (.there (.there .here)))) rfl rfl rfl rfl ?_; clear hst; intro w hst) | (refine ka 6 hst tz44 rfl rfl ?_; clear hst; intro b6 w hb6 hst) | (refine ka 7 hst tz44 rfl rfl ?_; clear hst; intro b7 w hb7 hst) | (refine kt hst ta44 rfl rfl ?_; clear hst; intro w hst)); try simp only [pz, pn, sz, sc])
  refine bp_cct rfl rfl (la hst ta44) (la hst ta44) (by rfl) (PostZ.of (L' := EngL bs br c' c1 c2 c3 c4 (bump k q)) hst ⟨rfl, c1, c2, c3, c4, rfl⟩ (of_keys hnew) (.there (.there .here)))

/-- The rom behind a root by an engine. -/
def romK (k n : Nat) (c : Array Value) : Array Value := if k < 3 then c else romTo n c
theorem romK_ok {k n : Nat} {c : Array Value} (h : RomOk c) : RomOk (romK k n c) := by unfold romK; split; exact h; exact romTo_ok h

theorem eng_root (bs br : Nat) (c : Array Value) (hc : RomOk c) (c1 c2 c3 c4 : Nat) (q : Nat → Int) (k n : Nat) (h1 : 1 ≤ k) (h2 : k ≤ 4) (hn : n < M) : ∃ f x, (∀ w, (callMethod (engA k c1 c2 c3 c4) "Root" #[W n]).run Tryz.prog w = .ok (.enter f #[x, W n]) w) ∧
    ∀ w, Owns w (EngL bs br c c1 c2 c3 c4 q) → GivesT Tryz.prog f #[x, W n] (rootV n) [(br, .cells c 121)] [(br, .cells (romK k n c) 121)] w := by
  obtain ⟨f, x, _, hm, hk⟩ := meth_Root k c1 c2 c3 c4 n h1 h2
  refine ⟨f, x, hm, fun w hL => ?_⟩
  have hbr := hL.2 br _ (List.Mem.tail _ (List.Mem.head _))
  have hc2 := hL.2 c2 _ (List.Mem.tail _ (List.Mem.tail _ (List.Mem.tail _ (List.Mem.head _))))
  have hc4 := hL.2 c4 _ (List.Mem.tail _ (List.Mem.tail _ (List.Mem.tail _ (List.Mem.tail _ (List.Mem.tail _ (List.Mem.head _))))))
  have hnd := hL.1
  simp only [EngL, List.map_cons, List.map_nil, List.nodup_cons, List.mem_cons, List.not_mem_nil, or_false, not_or] at hnd
  unfold romK
  rcases hk with ⟨rfl, rfl, rfl⟩ | ⟨rfl, rfl, rfl⟩ | ⟨rfl, rfl, rfl⟩ | ⟨rfl, rfl, rfl⟩
  · exact Gives.toT (restoring_Root n hn) _ (own_one hbr)
  · exact Gives.toT (signed_Root n hn) _ (own_one hbr)
  · exact byNewton_Root c1 c2 br c hc (fun e => by omega) n hn w hc2 hbr
  · exact byGold_Root c3 c4 br c hc (fun e => by omega) n hn w hc4 hbr

set_option maxHeartbeats 1000000 in
theorem engine_Root_1 (bs br : Nat) (c : Array Value) (hc : RomOk c) (c1 c2 c3 c4 : Nat) (q : Nat → Int) (k n : Nat) (h1 : 1 ≤ k) (h2 : k ≤ 4) (hn : n < M) (b5 : Nat) (hb5 : b5 ∉ keysE bs br c1 c2 c3 c4) (E5 : TypeId) (w0 : World) (h5 : w0.heap[b5]? = some (.cells (wc 8 n) E5)) (hL : Owns w0 (EngL bs br c c1 c2 c3 c4 q)) :
    GivesT Tryz.prog 89 #[engA k c1 c2 c3 c4, .pointer (some ⟨b5, 0, none⟩)] (.tuple #[W (rootQ n), W (rootM n), .int .i64 (rootE n)]) [(br, .cells c 121)] [(br, .cells (romK k n c) 121)] w0 := by
  have hst := (St.ofOwns [br] hL).add h5 (by rw [EngL_keys]; exact hb5)
  obtain ⟨f, x, hm, hr⟩ := eng_root bs br c hc c1 c2 c3 c4 q k n h1 h2 hn
  rw [rootV_eq] at hr
  have hr' := Lib.hid hr
  clear hr hL hc h5 h1 h2 hn hb5
  generalize engA k c1 c2 c3 c4 = A at *
  generalize rootQ n = x1 at *
  generalize rootM n = x2 at *
  generalize rootE n = x3 at *
  generalize romK k n c = cf at *
  unfold EngL at hst
  go_enter Tryz.func89, Tryz.ntmps89
  go_wp2_with ((first | (refine kTI hst (fun w hst => hr'.out w (hst.owns (L := []) (L' := EngL bs br c c1 c2 c3 c4 q) (X := [_, _, _]) (.there (.there (.there .here))))) hm rfl rfl rfl rfl ?_; clear hst; intro w hst) | (refine ka 3 hst tz44 rfl rfl ?_; clear hst; intro b3 w hb3 hst) | (refine ka 4 hst tz44 rfl rfl ?_; clear hst; intro b4 w hb4 hst) | (refine kl hst ta44 rfl ?_) | (refine kt hst ta44 rfl rfl ?_; clear hst; intro w hst)); try simp only [pz, pn, sz, sc])
  refine bp_cct rfl rfl (la hst ta44) (la hst ta44) (by rfl) ⟨?_, hst.keeps, own_one (hst.own _ _ (by simp))⟩
  rfl

set_option maxHeartbeats 1000000 in
theorem engine_Root (bs br : Nat) (c : Array Value) (hc : RomOk c) (q : Nat → Int) (L : List (Nat × Obj)) (hS : SetSt bs br c q L) (k : Nat) (h1 : 1 ≤ k) (h2 : k ≤ 4) (hq1 : 0 ≤ q k) (hq2 : q k ≤ 1000) (n : Nat) (hn : n < M) (w0 : World) (hL : Owns w0 L) :
    GivesZ Tryz.prog 59 #[.pointer (some ⟨bs, 0, none⟩), .int .i64 k, W n] [bs, br] L (fun L' v => v = .tuple #[W (rootQ n), W (rootM n), .int .i64 (rootE n)] ∧ ∃ c1 c2 c3 c4, L' = EngL bs br (romK k n c) c1 c2 c3 c4 (bump k q)) w0 := by
  refine ⟨fun x hx => by simp only [List.mem_cons, List.not_mem_nil, or_false] at hx; rcases hx with rfl | rfl; exact hS.bs.1; exact hS.bs.2, ?_⟩
  have hst := St.ofOwns [bs, br] hL
  have hbs := hS.bs
  have hask := fun (b5 : Nat) (w : World) (h5 : w.heap[b5]? = some (.cells (wc 8 n) 44)) (hb5 : b5 ∉ L.map Prod.fst) (ho : Owns w L) =>
    engine_ask bs br c (romK k n c) q L hS k h1 h2 hq1 hq2 89 gf89 #[.pointer (some ⟨b5, 0, none⟩)] (rootQ n) (rootM n) (rootE n) w ho
      (fun c1 c2 c3 c4 w' kp hk ho' => engine_Root_1 bs br c hc c1 c2 c3 c4 (bump k q) k n h1 h2 hn b5 (fun hb => by
          rcases hk b5 hb with h | h
          · exact hb5 h
          · have := lt_of_some h5; omega) 44 w' (by
          rw [kp.block b5 (lt_of_some h5) (fun hb => by simp only [List.mem_cons, List.not_mem_nil, or_false] at hb; rcases hb with rfl | rfl; exact hb5 hbs.1; exact hb5 hbs.2)]
          exact h5) ho')
  clear hS hL h1 h2 hq1 hq2 hc hn hbs
  generalize rootQ n = x1 at *
  generalize rootM n = x2 at *
  generalize rootE n = x3 at *
  generalize romK k n c = cf at *
  go_enter Tryz.func59, Tryz.ntmps59
  go_wp2_with ((first | (refine kZ (fun L' => (b7, .cells (wc 8 0) 44) :: (b6, .cells (wc 8 0) 44) :: (b5, .cells (wc 8 n) 44) :: L') gf88 hst (fun w hst => hask b5 w (hst.own _ _ (by repeat (first | exact List.Mem.head _ | refine List.Mem.tail _ ?_))) (fun hb => by have hnd := hst.nodup; simp only [List.map_cons, List.nodup_cons] at hnd; exact hnd.2.2.1 hb) (hst.owns (L := L) (.there (.there (.there .here))))) rfl rfl rfl rfl ?_; clear hst; intro v12 L' w hR hnew hst; obtain ⟨rfl, hR⟩ := hR) | (refine kb 5 hst rfl rfl ?_; clear hst; intro b5 w hb5 hst) | (refine ka 6 hst tz44 rfl rfl ?_; clear hst; intro b6 w hb6 hst) | (refine ka 7 hst tz44 rfl rfl ?_; clear hst; intro b7 w hb7 hst) | (refine kt hst ta44 rfl rfl ?_; clear hst; intro w hst)); try simp only [pz, pn, sz, sc])
  exact bp_cct rfl rfl (la hst ta44) (la hst ta44) (by rfl) (PostZ.of hst ⟨rfl, hR⟩ hnew (.there (.there (.there .here))))

end Go.Proofs.YtefpoconpeggpaaGreatDoor.Rd

namespace Go.Proofs.YtefpoconpeggpaaGreatDoor.Rd
open Go Go.RowKit
set_option linter.unusedVariables false
set_option linter.unusedSimpArgs false
set_option maxRecDepth 100000

end Go.Proofs.YtefpoconpeggpaaGreatDoor.Rd

namespace Go.Proofs.YtefpoconpeggpaaGreatDoor.Rd
open Go Go.RowKit
set_option linter.unusedVariables false
set_option linter.unusedSimpArgs false
set_option maxRecDepth 100000

theorem bits_and_one (z : Int) : bits .and .i64 z 1 = z % 2 := by
  show IntKind.i64.wrap ((BitVec.ofInt 64 z &&& BitVec.ofInt 64 1).toNat : Int) = _
  have h1 : (BitVec.ofInt 64 1).toNat = 1 := rfl
  rw [BitVec.toNat_and, h1, Nat.and_one_is_mod, BitVec.toNat_ofInt, IntKind.wrap_i64]
  omega

set_option maxHeartbeats 1000000 in
theorem root_even (ng : Bool) (e : Int) (n by' b2 : Nat) (x : Int) (he1 : -1000000 ≤ e) (he2 : e ≤ 1000000) (hn : n < M) (hby : by' ≤ 400) (hlt : n * 2 ^ b2 < M) (hb : b2 = by' ∨ b2 = by' + 1) (hx : e - (b2 : Int) = 2 * x) :
    Gives Tryz.prog 46 #[.agg (nbC ng e n), .int .i64 by'] (.tuple #[W (n * 2 ^ b2), .int .i64 x]) := by
  intro w0
  have hst := St.start [] w0
  have hand : bits .and .i64 (e - (by' : Int)) 1 = (b2 : Int) - (by' : Int) := by rw [bits_and_one]; omega
  have hshl := wide_Shl n (b2 : Nat) hn
  rw [clampN_nat _ (by omega), Nat.mod_eq_of_lt hlt] at hshl
  have E1 : (by' : Int) + ((b2 : Int) - (by' : Int)) = (b2 : Int) := by omega
  have hq : (e - (b2 : Int)).tdiv 2 = x := by rw [hx]; exact Int.mul_tdiv_cancel_left x (by omega)
  have W0 : IntKind.i64.wrap (e - (by' : Int)) = e - (by' : Int) := by rw [IntKind.wrap_i64]; omega
  have W1 : IntKind.i64.wrap (e - (b2 : Int)) = e - (b2 : Int) := by rw [IntKind.wrap_i64]; omega
  have W2 : IntKind.i64.wrap x = x := by rw [IntKind.wrap_i64]; omega
  have x1 : -1000000 ≤ x := by omega
  have x2 : x ≤ 1000000 := by omega
  have hb2 : (b2 : Int) ≤ 401 := by omega
  have hby2 : (by' : Int) ≤ 400 := by omega
  unfold nbC
  have y1 : (#[Value.bool ng, .int .i64 e] ++ wc 8 n).size = 10 := by simp
  have y2 : OneC (#[Value.bool ng, .int .i64 e] ++ wc 8 n) := nbC_one ng e n
  clear hx hb hlt hn
  generalize n * 2 ^ b2 = r at *
  go_enter Tryz.func46, Tryz.ntmps46
  go_wp2_with ((first | (refine kb 2 hst rfl rfl ?_; clear hst; intro b2 w hb2 hst) | (refine ka 4 hst tz44 rfl rfl ?_; clear hst; intro b4 w hb4 hst) | (refine kc hst tc3 rfl ?_)); try simp only [pz, pn, sz, sc])
  refine wp_region_T 9  hst (by kernel_rfl) ?_; clear hst; intro w hst; (try simp only [List.length_cons, List.length_nil, Nat.reduceAdd, Array.replicate_succ, Array.replicate_zero, List.push_toArray, List.nil_append, List.cons_append])
  refine r0 0 ?_; simp only [pz, pn, sz, sc, W1, hq, W2]
  refine r0 2 ?_; simp only [pz, pn, sz, sc, W1, hq, W2]
  refine r0 4 ?_; simp only [pz, pn, sz, sc, W1, hq, W2]
  refine r0 6 ?_; simp only [pz, pn, sz, sc, W1, hq, W2]
  refine rl 1 rfl ?_ (by first | exact ylA ta44 | exact ylM ta44); simp only [pz, pn, sz, sc, W1, hq, W2]
  refine r2 3 5 ?_ ?_
  (refine kf gf48 hst (hshl) rfl rfl rfl rfl ?_; clear hst; intro w hst); (try simp only [pz, pn, sz, sc, W1, hq, W2]); refine re ?_
  refine r2 5 9 ?_ ?_
  (refine kc hst tc3 rfl ?_); (try simp only [pz, pn, sz, sc, W1, hq, W2]); refine re ?_
  refine r0 7 ?_; simp only [pz, pn, sz, sc, W1, hq, W2]
  refine r0 8 ?_; simp only [pz, pn, sz, sc, W1, hq, W2]
  refine r1 9 ?_; (refine kt hst ta44 rfl rfl ?_; clear hst; intro w hst); (try simp only [pz, pn, sz, sc, W1, hq, W2]); refine re ?_
  refine r0 10 ?_; simp only [pz, pn, sz, sc, W1, hq, W2]
  refine rd_ ?_
  rotate_left 1
  (refine kt hst ta44 rfl rfl ?_; clear hst; intro w hst); (try simp only [pz, pn, sz, sc, W1, hq, W2]); refine re ?_
  refine r1 5 ?_; (refine kc hst tc3 rfl ?_); (try simp only [pz, pn, sz, sc, W1, hq, W2]); refine re ?_
  refine r0 7 ?_; simp only [pz, pn, sz, sc, W1, hq, W2]
  refine r0 8 ?_; simp only [pz, pn, sz, sc, W1, hq, W2]
  refine r0 10 ?_; simp only [pz, pn, sz, sc, W1, hq, W2]
  refine rd_ ?_
  rotate_right 1
  rotate_left 2
  (refine kc hst tc3 rfl ?_); (try simp only [pz, pn, sz, sc, W1, hq, W2]); refine re ?_
  refine r0 7 ?_; simp only [pz, pn, sz, sc, W1, hq, W2]
  refine r0 8 ?_; simp only [pz, pn, sz, sc, W1, hq, W2]
  refine r1 3 ?_; (refine kf gf48 hst (hshl) rfl rfl rfl rfl ?_; clear hst; intro w hst); (try simp only [pz, pn, sz, sc, W1, hq, W2]); refine re ?_
  refine r1 9 ?_; (refine kt hst ta44 rfl rfl ?_; clear hst; intro w hst); (try simp only [pz, pn, sz, sc, W1, hq, W2]); refine re ?_
  refine r0 10 ?_; simp only [pz, pn, sz, sc, W1, hq, W2]
  refine rd_ ?_
  rotate_right 2
  all_goals
    go_wp2_with fail
    refine bp_ct rfl rfl (la hst ta44) (by rfl) ⟨?_, hst.keeps⟩
    rfl

set_option maxHeartbeats 2000000 in
theorem root_above2 (f : Nat) (h1 : 1 ≤ f) (h4 : f ≤ 4) (m : Nat) (hm : m < 2 ^ fB f) (hfin : finB f m = true) (h0 : wSig f m ≠ 0) (hng : wNeg f m = false) (g : FuncId) (hg : GoF Tryz.prog g) (b7 b8 : Nat) (hne : b8 ≠ b7) (o7 o7' o8 o8' : Obj) (w0 : World) (hF : FmtIn w0) (hk7 : b7 ≠ 0) (hk8 : b8 ≠ 0) (q7 : w0.heap[b7]? = some o7) (q8 : w0.heap[b8]? = some o8)
    (hT : ∀ w, w.heap[b7]? = some o7 → w.heap[b8]? = some o8 → GivesT Tryz.prog g #[.int .i64 (fP f : Nat), .agg (nbC false (wExp f m - (fP f - bl (wSig f m) : Nat)) (wSig f m * 2 ^ (fP f - bl (wSig f m)))), .pointer (some ⟨b7, 0, none⟩), .pointer (some ⟨b8, 0, none⟩)] (.tuple #[]) [(b7, o7), (b8, o8)] [(b7, o7'), (b8, o8')] w) :
    GivesT Tryz.prog 42 #[.int .i64 f, Wd m, .func (.func g) #[] #[.pointer (some ⟨b7, 0, none⟩), .pointer (some ⟨b8, 0, none⟩)]] (.bool true) [(b7, o7), (b8, o8)] [(b7, o7'), (b8, o8')] w0 := by
  have hst : St w0 [b7, b8] [(b7, o7), (b8, o8)] w0 := ((St.start [b7, b8] w0).add q8 (by simp)).add q7 (by simp; exact fun e => hne e.symm)
  have hk := Lib.hid (fun w (k : Keeps [b7, b8] w0 w) => hF.keep k (by simp only [List.mem_cons, List.not_mem_nil, or_false, not_or]; exact ⟨fun e => hk7 e.symm, fun e => hk8 e.symm⟩))
  have hun := fun w h => unpack_Unpack f h1 h4 m hm hfin h0 w h
  rw [hng] at hun
  have hof := fun w h => format_Of f h1 h4 w h
  have l7 := lt_of_some q7
  have l8 := lt_of_some q8
  have y1 := nbC_size false (wExp f m - (fP f - bl (wSig f m) : Nat)) (wSig f m * 2 ^ (fP f - bl (wSig f m)))
  have y2 := nbC_one false (wExp f m - (fP f - bl (wSig f m) : Nat)) (wSig f m * 2 ^ (fP f - bl (wSig f m)))
  have y0 := nbC_0 false (wExp f m - (fP f - bl (wSig f m) : Nat)) (wSig f m * 2 ^ (fP f - bl (wSig f m)))
  have z1 := fmC_size f
  have z2 := fmC_one f
  have g1 : (fmC f)[0 + 1]? = some (.int .i64 (fP f : Nat)) := rfl
  clear hF hm hfin h0 hng q7 q8 hk7 hk8
  generalize nbC false (wExp f m - (fP f - bl (wSig f m) : Nat)) (wSig f m * 2 ^ (fP f - bl (wSig f m))) = cn at *
  generalize fmC f = cs at *
  generalize fP f = p at *
  go_enter Tryz.func42, Tryz.ntmps42
  go_wp2_with ((first | (refine kg gf69 hst (fun w hst => hun w (hk.out w hst.keeps)) rfl rfl rfl rfl ?_; clear hst; intro w hst) | (refine kg gf70 hst (fun w hst => hof w (hk.out w hst.keeps)) rfl rfl rfl rfl ?_; clear hst; intro w hst) | (refine kT hg hst (fun w hst => hT w (hst.own _ _ (by repeat (first | exact List.Mem.head _ | refine List.Mem.tail _ ?_))) (hst.own _ _ (by repeat (first | exact List.Mem.head _ | refine List.Mem.tail _ ?_)))) rfl rfl rfl rfl ?_; clear hst; intro w hst) | (refine wl_guard (by rfl) ?_) | (refine kb 4 hst rfl rfl ?_; clear hst; intro b4 w hb4 hst) | (refine kl hst ta24 rfl ?_) | (refine ka 7 hst tz46 rfl rfl ?_; clear hst; intro b7 w hb7 hst) | (refine kt hst ta46 rfl rfl ?_; clear hst; intro w hst) | (refine kc hst tc4 rfl ?_) | (refine ka 9 hst tz128 rfl rfl ?_; clear hst; intro b9 w hb9 hst) | (refine kt hst ta128 rfl rfl ?_; clear hst; intro w hst) | (refine kc hst tc3 rfl ?_) | (refine kl hst ta46 rfl ?_)); try simp only [pz, pn, sz, sc])
  exact bp_t rfl rfl (by rfl) (GivesT.of hst rfl (by simp))

end Go.Proofs.YtefpoconpeggpaaGreatDoor.Rd

namespace Go.Proofs.YtefpoconpeggpaaGreatDoor.Rd
open Go Go.RowKit
set_option linter.unusedVariables false
set_option linter.unusedSimpArgs false
set_option maxRecDepth 100000

/-- By how much a word's digits are shifted up; its significand and exponent then. -/
def uUp (f m : Nat) : Nat := fP f - bl (wSig f m)
def uSig (f m : Nat) : Nat := wSig f m * 2 ^ uUp f m
def uExp (f m : Nat) : Int := wExp f m - (uUp f m : Nat)
/-- By how much a radicand is shifted up; the radicand; its root's exponent. -/
def rB (f m : Nat) : Nat := if (uExp f m - ((fP f + 4 : Nat) : Int)) % 2 = 0 then fP f + 4 else fP f + 5
def rN (f m : Nat) : Nat := uSig f m * 2 ^ rB f m
def rX (f m : Nat) : Int := (uExp f m - (rB f m : Nat)) / 2
theorem rX_eq (f m : Nat) : uExp f m - (rB f m : Nat) = 2 * rX f m := by
  unfold rX rB
  split <;> omega
theorem rB_in (f m : Nat) : rB f m = fP f + 4 ∨ rB f m = fP f + 4 + 1 := by unfold rB; split <;> omega
theorem uSig_in (f m : Nat) (h0 : wSig f m ≠ 0) : 2 ^ (fP f - 1) ≤ uSig f m ∧ uSig f m < 2 ^ fP f := by
  have hlt := wSig_lt f m
  have hb : bl (wSig f m) ≤ fP f := bl_le.2 hlt
  have hp := bl_pos h0
  have e : bl (uSig f m) = fP f := by unfold uSig; rw [bl_mul_pow _ _ h0]; unfold uUp; omega
  have hu : uSig f m ≠ 0 := fun h => by rw [h, bl_zero] at e; omega
  have a := bl_lo hu
  have b := (bl_spec (uSig f m)).1
  rw [e] at a b
  exact ⟨a, b⟩
theorem uExp_in (f m : Nat) : -200000 ≤ uExp f m ∧ uExp f m ≤ 200000 := by
  have := wExp_in f m
  have := fP_in f
  unfold uExp uUp
  omega
theorem rN_M (f m : Nat) (h0 : wSig f m ≠ 0) : rN f m < M := by
  have h := (uSig_in f m h0).2
  have hP := fP_in f
  have hb := rB_in f m
  have a := pow_lt_of (fP f) (k := rB f m) h
  exact Nat.lt_trans a (small_M2 _ (by omega))

theorem FmtIn.lt {w : World} (h : FmtIn w) : 0 < w.heap.size := by
  have hc := h 1 (.int .i64 0) rfl
  rcases Nat.lt_or_ge 0 w.heap.size with h' | h'
  · exact h'
  · simp [World.cell?, Array.getElem?_eq_none h'] at hc

set_option maxHeartbeats 1000000 in
theorem root_Parts_1 (f m : Nat) (h0 : wSig f m ≠ 0) (b7 b8 : Nat) (hne : b8 ≠ b7) (w0 : World) (q7 : w0.heap[b7]? = some (.cells (wc 8 0) 44)) (q8 : w0.heap[b8]? = some (.cells #[.int .i64 0] 3)) :
    GivesT Tryz.prog 56 #[.int .i64 (fP f : Nat), .agg (nbC false (uExp f m) (uSig f m)), .pointer (some ⟨b7, 0, none⟩), .pointer (some ⟨b8, 0, none⟩)] (.tuple #[]) [(b7, .cells (wc 8 0) 44), (b8, .cells #[.int .i64 0] 3)] [(b7, .cells (wc 8 (rN f m)) 44), (b8, .cells #[.int .i64 (rX f m)] 3)] w0 := by
  have hst : St w0 [b7, b8] [(b7, .cells (wc 8 0) 44), (b8, .cells #[.int .i64 0] 3)] w0 := ((St.start [b7, b8] w0).add q8 (by simp)).add q7 (by simp; exact fun e => hne e.symm)
  have l7 := lt_of_some q7
  have l8 := lt_of_some q8
  have hP := fP_in f
  have hE := uExp_in f m
  have hs := (uSig_in f m h0).2
  have hev := root_even false (uExp f m) (uSig f m) (fP f + 4) (rB f m) (rX f m) (by omega) (by omega) (Nat.lt_trans hs (small_M2 _ (by omega))) (by omega) (rN_M f m h0) (rB_in f m) (rX_eq f m)
  rw [show uSig f m * 2 ^ rB f m = rN f m from rfl, Int.natCast_add, show ((4 : Nat) : Int) = 4 from rfl] at hev
  have y1 := nbC_size false (uExp f m) (uSig f m)
  have y2 := nbC_one false (uExp f m) (uSig f m)
  clear q7 q8 h0 hs hE
  generalize nbC false (uExp f m) (uSig f m) = cn at *
  generalize rN f m = n at *
  generalize rX f m = x at *
  generalize fP f = p at *
  go_enter Tryz.func56, Tryz.ntmps56
  go_wp2_with ((first | (refine kf gf46 hst (hev) rfl rfl rfl rfl ?_; clear hst; intro w hst) | (refine kb 5 hst rfl rfl ?_; clear hst; intro b5 w hb5 hst) | (refine kl hst ta46 rfl ?_) | (refine kt hst ta44 rfl rfl ?_; clear hst; intro w hst) | (refine ks hst tc3 rfl rfl ?_; clear hst; intro w hst)); try simp only [pz, pn, sz, sc])
  exact bp_0 rfl rfl (GivesT.of hst rfl (by simp))

set_option maxHeartbeats 2000000 in
theorem root_Parts (f : Nat) (h1 : 1 ≤ f) (h4 : f ≤ 4) (m : Nat) (hm : m < 2 ^ fB f) (hfin : finB f m = true) (h0 : wSig f m ≠ 0) (hng : wNeg f m = false) (w0 : World) (hF : FmtIn w0) :
    GivesAt Tryz.prog 23 #[.int .i64 f, Wd m] (.tuple #[W (rN f m), .int .i64 (rX f m), .bool true]) w0 := by
  have hst := St.start [] w0
  have hk := Lib.hid (fun w (k : Keeps [] w0 w) => hF.keep k (by simp))
  have hlt := hF.lt
  have hab := fun b7 b8 (hne : b8 ≠ b7) w (h : FmtIn w) k7 k8 q7 q8 => root_above2 f h1 h4 m hm hfin h0 hng 56 gf56 b7 b8 hne (.cells (wc 8 0) 44) (.cells (wc 8 (rN f m)) 44) (.cells #[.int .i64 0] 3) (.cells #[.int .i64 (rX f m)] 3) w h k7 k8 q7 q8
    (fun w' a b => root_Parts_1 f m h0 b7 b8 hne w' a b)
  clear hF hm hfin h0 hng
  generalize rN f m = n at *
  generalize rX f m = x at *
  go_enter Tryz.func23, Tryz.ntmps23
  go_wp2_with ((first | (refine kT gf42 hst (fun w hst => hab b7 b8 (by have q := hst.nodup; simp only [List.map_cons, List.map_nil, List.nodup_cons, List.mem_cons, List.not_mem_nil, or_false, not_or] at q; omega) w (hk.out w hst.keeps) (by omega) (by omega) (hst.own _ _ (by repeat (first | exact List.Mem.head _ | refine List.Mem.tail _ ?_))) (hst.own _ _ (by repeat (first | exact List.Mem.head _ | refine List.Mem.tail _ ?_)))) rfl rfl rfl rfl ?_; clear hst; intro w hst) | (refine kb 3 hst rfl rfl ?_; clear hst; intro b3 w hb3 hst) | (refine ka 4 hst tz44 rfl rfl ?_; clear hst; intro b4 w hb4 hst) | (refine ka 7 hst tz44 rfl rfl ?_; clear hst; intro b7 w hb7 hst) | (refine ka 8 hst tz3 rfl rfl ?_; clear hst; intro b8 w hb8 hst) | (refine ks hst tc3 rfl rfl ?_; clear hst; intro w hst) | (refine kl hst ta24 rfl ?_)); try simp only [pz, pn, sz, sc])
  refine wp_region_TV 6 [(b8, .cells #[.int .i64 x] 3), (b7, .cells (wc 8 n) 44)] hst (by kernel_rfl) ?_; clear hst; intro w hst; (try simp only [List.length_cons, List.length_nil, Nat.reduceAdd, Array.replicate_succ, Array.replicate_zero, List.push_toArray, List.nil_append, List.cons_append])
  refine r0 2 ?_; simp only [pz, pn, sz, sc]
  refine rl 0 rfl ?_ (by first | exact ylA ta44 | exact ylM ta44); simp only [pz, pn, sz, sc]
  refine rl 1 rfl ?_ (ylC tc3); simp only [pz, pn, sz, sc]
  refine r1 3 ?_; (refine kt hst ta44 rfl rfl ?_; clear hst; intro w hst); (try simp only [pz, pn, sz, sc]); refine re ?_
  refine r0 4 ?_; simp only [pz, pn, sz, sc]
  refine r0 5 ?_; simp only [pz, pn, sz, sc]
  refine rd_ ?_
  go_wp2_with fail
  refine bp_ctt rfl rfl (la hst ta44) (by rfl) (by rfl) ⟨?_, hst.keeps⟩
  rfl

end Go.Proofs.YtefpoconpeggpaaGreatDoor.Rd

namespace Go.Proofs.YtefpoconpeggpaaGreatDoor.Rd
open Go Go.RowKit
set_option linter.unusedVariables false
set_option linter.unusedSimpArgs false
set_option maxRecDepth 100000

theorem GivesZ.weak {P : Program} {f : FuncId} {args : Array Value} {S' : List Nat} {L : List (Nat × Obj)} {R R' : List (Nat × Obj) → Value → Prop} {w : World} (h : GivesZ P f args S' L R w) (hR : ∀ L' v, R L' v → R' L' v) : GivesZ P f args S' L R' w :=
  ⟨h.1, h.2.mono fun e w' hh => by
    obtain ⟨v, h1, h2, L', h3, h4⟩ := hh
    exact ⟨v, h1, h2, L', hR _ _ h3, h4⟩⟩
theorem engine_RootT (bs br : Nat) (c : Array Value) (hc : RomOk c) (q : Nat → Int) (L : List (Nat × Obj)) (hS : SetSt bs br c q L) (k : Nat) (h1 : 1 ≤ k) (h2 : k ≤ 4) (hq1 : 0 ≤ q k) (hq2 : q k ≤ 1000) (n : Nat) (hn : n < M) (w0 : World) (hL : Owns w0 L) :
    GivesZ Tryz.prog 59 #[.pointer (some ⟨bs, 0, none⟩), .int .i64 k, W n] [bs, br] L (fun L' v => v = .tuple #[W (rootQ n), W (rootM n), .int .i64 (rootE n)] ∧ SetSt bs br (romK k n c) (bump k q) L') w0 :=
  (engine_Root bs br c hc q L hS k h1 h2 hq1 hq2 n hn w0 hL).weak fun L' v ⟨e, c1, c2, c3, c4, e2⟩ => ⟨e, .inr ⟨c1, c2, c3, c4, e2⟩⟩
theorem engine_OfT (bs br : Nat) (c : Array Value) (q : Nat → Int) (L : List (Nat × Obj)) (hS : SetSt bs br c q L) (k : Nat) (h1 : 1 ≤ k) (h2 : k ≤ 4) (w0 : World) (hL : Owns w0 L) :
    GivesZ Tryz.prog 61 #[.pointer (some ⟨bs, 0, none⟩), .int .i64 k] [bs] L (fun L' v => ∃ A, v = .tuple #[A, .bool true] ∧ SetSt bs br c q L') w0 :=
  (engine_Of bs br c q L hS k h1 h2 w0 hL).weak fun L' v ⟨c1, c2, c3, c4, e, e2⟩ => ⟨_, e, .inr ⟨c1, c2, c3, c4, e2⟩⟩

set_option maxHeartbeats 1000000 in
theorem root_may (bs br : Nat) (c : Array Value) (q : Nat → Int) (L : List (Nat × Obj)) (hS : SetSt bs br c q L) (k : Nat) (h1 : 1 ≤ k) (h2 : k ≤ 4) (m : Nat) (m1 : 1 ≤ m) (m5 : m ≤ 5) (w0 : World) (hL : Owns w0 L) :
    GivesZ Tryz.prog 29 #[.pointer (some ⟨bs, 0, none⟩), .int .i64 k, .int .i64 m, .bool true] [bs] L (fun L' v => v = .int .i64 0 ∧ SetSt bs br c q L') w0 := by
  refine ⟨fun x hx => by rw [List.mem_singleton.1 hx]; exact hS.bs.1, ?_⟩
  have hst := St.ofOwns [bs] hL
  have hof := fun (w : World) (hst : St w0 [bs] L w) => engine_OfT bs br c q L hS k h1 h2 w (hst.owns (L := L) .here)
  have his := mode_Is_yes m (by omega) (by omega)
  clear hS hL h1 h2 m1 m5
  go_enter Tryz.func29, Tryz.ntmps29
  go_wp2_with ((first | (refine kZ (fun L' => L') gf61 hst (fun w hst => hof w hst) rfl rfl rfl rfl ?_; clear hst; intro v14 L' w hR hnew hst; obtain ⟨A, rfl, hS'⟩ := hR) | (refine kf gf62 hst (his) rfl rfl rfl rfl ?_; clear hst; intro w hst)); try simp only [pz, pn, sz, sc])
  exact bp_t rfl rfl (by rfl) (PostZ.of hst ⟨rfl, hS'⟩ hnew)

set_option maxHeartbeats 2000000 in
theorem root_rounded (bs br : Nat) (hbs : bs ≠ 0) (hbr : br ≠ 0) (c : Array Value) (hc : RomOk c) (q : Nat → Int) (L : List (Nat × Obj)) (hS : SetSt bs br c q L) (k : Nat) (h1 : 1 ≤ k) (h2 : k ≤ 4) (hq1 : 0 ≤ q k) (hq2 : q k ≤ 1000)
    (f : Nat) (f1 : 1 ≤ f) (f4 : f ≤ 4) (m : Nat) (m1 : 1 ≤ m) (m5 : m ≤ 5) (n : Nat) (hn : n < 2 ^ 256) (x : Int) (hx1 : -1000000 ≤ x) (hx2 : x ≤ 1000000) (r : Nat) (hr : isqrt n = r) (hb5 : bl r ≤ 511) (hb : fP f < bl r) (more : Bool) (hmore : decide (n - r * r = 0) = !more) (tp : Int)
    (htp : tp = x + (bl r - fP f : Nat) + bl (cutN r (bl r - fP f) more m false) - 1) (ht1 : 1 - (fE f : Int) ≤ tp) (ht2 : tp ≤ (fE f : Int)) (res : Nat) (fl : Int)
    (hres : res = encW f false (tp - (1 - (fE f : Int))).toNat (cutN r (bl r - fP f) more m false * 2 ^ fP f / 2 ^ bl (cutN r (bl r - fP f) more m false))) (hfl : fl = if decide (restN r (bl r - fP f) more ≠ 0) then 16 else 0) (w0 : World) (hF : FmtIn w0) (hL : Owns w0 L) :
    GivesZ Tryz.prog 30 #[.pointer (some ⟨bs, 0, none⟩), .int .i64 k, .int .i64 f, .int .i64 m, W n, .int .i64 x] [bs, br] L (fun L' v => v = .tuple #[Wd res, .int .i64 fl, .int .i64 0] ∧ SetSt bs br (romK k n c) (bump k q) L') w0 := by
  refine ⟨fun y hy => by simp only [List.mem_cons, List.not_mem_nil, or_false] at hy; rcases hy with rfl | rfl; exact hS.bs.1; exact hS.bs.2, ?_⟩
  have hst := St.ofOwns [bs, br] hL
  have hk := Lib.hid (fun w (k : Keeps [bs, br] w0 w) => hF.keep k (by simp only [List.mem_cons, List.not_mem_nil, or_false, not_or]; exact ⟨fun e => hbs e.symm, fun e => hbr e.symm⟩))
  have hroot := fun (w : World) (ho : Owns w L) => engine_RootT bs br c hc q L hS k h1 h2 hq1 hq2 n (small_M (by omega)) w ho
  rw [show rootQ n = r by unfold rootQ; rw [if_pos hn]; exact hr, show rootM n = n - r * r by unfold rootM; rw [if_pos hn, hr], show rootE n = 0 from if_pos hn] at hroot
  have hrd := fun w h => pack_Round_in f f1 f4 m m1 m5 false x r hx1 hx2 hb5 hb more tp htp ht1 ht2 w h
  rw [← hres, ← hfl] at hrd
  unfold nbC at hrd
  have y2 : OneC (#[Value.bool false, .int .i64 x] ++ wc 8 r) := nbC_one false x r
  have hM := M_pos
  have hrM : n - r * r < M := Nat.lt_of_le_of_lt (Nat.sub_le _ _) (small_M (by omega))
  clear hS hL hF hc h1 h2 hq1 hq2 htp ht1 ht2 hres hfl hr hb hb5 hn hbs hbr m1 m5 f1 f4
  generalize n - r * r = rm at *
  generalize romK k n c = c' at *
  generalize bump k q = q' at *
  go_enter Tryz.func30, Tryz.ntmps30
  go_wp2_with ((first | (refine kZ (o := ⟨some 22, _, _, _, _, _⟩) (fun L' => (b12, .cells (wc 2 0) 24) :: (b10, .cells (wc 8 n) 44) :: L') gf59 hst (fun w hst => hroot w (hst.owns (L := L) (.there (.there .here)))) rfl rfl rfl rfl ?_; clear hst; intro v22 L' w hR hnew hst; obtain ⟨rfl, hS'⟩ := hR) | (refine kb 10 hst rfl rfl ?_; clear hst; intro b10 w hb10 hst) | (refine ka 12 hst tz24 rfl rfl ?_; clear hst; intro b12 w hb12 hst) | (refine kl hst ta44 rfl ?_) | (refine ka 15 hst tz44 rfl rfl ?_; clear hst; intro b15 w hb15 hst) | (refine ka 16 hst tz44 rfl rfl ?_; clear hst; intro b16 w hb16 hst) | (refine kt hst ta44 rfl rfl ?_; clear hst; intro w hst)); try simp only [pz, pn, sz, sc])
  refine wp_region_T 12  hst (by kernel_rfl) ?_; clear hst; intro w hst; (try simp only [List.length_cons, List.length_nil, Nat.reduceAdd, Array.replicate_succ, Array.replicate_zero, List.push_toArray, List.nil_append, List.cons_append])
  refine r0 0 ?_; simp only [pz, pn, sz, sc, hmore, Bool.not_not]
  refine r0 1 ?_; simp only [pz, pn, sz, sc, hmore, Bool.not_not]
  refine r0 2 ?_; simp only [pz, pn, sz, sc, hmore, Bool.not_not]
  refine r0 6 ?_; simp only [pz, pn, sz, sc, hmore, Bool.not_not]
  refine rl 3 rfl ?_ (by first | exact ylA ta44 | exact ylM ta44); simp only [pz, pn, sz, sc, hmore, Bool.not_not]
  refine r0 4 ?_ (hy := yB (tb46_12 _ _)); simp only [pz, pn, sz, sc, hmore, Bool.not_not]
  refine rl 5 rfl ?_ (by first | exact ylA ta44 | exact ylM ta44); simp only [pz, pn, sz, sc, hmore, Bool.not_not]
  refine r0 7 ?_ (hy := yN tr44 tc22); simp only [pz, pn, sz, sc, hmore, Bool.not_not]
  refine r1 8 ?_; (refine kg gf63 hst (fun w hst => hrd w (hk.out w hst.keeps)) rfl rfl rfl rfl ?_; clear hst; intro w hst); (try simp only [pz, pn, sz, sc, hmore, Bool.not_not]); refine re ?_
  refine r0 9 ?_; simp only [pz, pn, sz, sc, hmore, Bool.not_not]
  refine r0 10 ?_; simp only [pz, pn, sz, sc, hmore, Bool.not_not]
  refine r0 11 ?_; simp only [pz, pn, sz, sc, hmore, Bool.not_not]
  refine r1 12 ?_; (refine kt hst ta24 rfl rfl ?_; clear hst; intro w hst); (try simp only [pz, pn, sz, sc, hmore, Bool.not_not]); refine re ?_
  refine r0 13 ?_; simp only [pz, pn, sz, sc, hmore, Bool.not_not]
  refine r0 14 ?_; simp only [pz, pn, sz, sc, hmore, Bool.not_not]
  refine rd_ ?_
  all_goals
    go_wp2_with fail
    exact bp_ctt rfl rfl (la hst ta24) (by rfl) (by rfl) (PostZ.of hst ⟨rfl, hS'⟩ hnew)

end Go.Proofs.YtefpoconpeggpaaGreatDoor.Rd
