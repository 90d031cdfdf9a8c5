/- What engine.Name, the methods of a set that isn't there, and the law of names answer; the statement EngineNames. -/
import Derived.Test.YtggchelniblipaaGreatDoorJ22
import Derived.Test.YtggchelniblipaaGreatDoorJ03
import Derived.Laws.Strings
namespace Go.Proofs.YtggchelniblipaaGreatDoor.Rd
open Go Go.RowKit
set_option linter.unusedVariables false
set_option linter.unusedSimpArgs false
set_option maxRecDepth 100000

/-- What an engine's Divide answers, through the interface. -/
def DivM (bs br : Nat) (c c' : Array Value) (c1 c2 c3 c4 k n d x y : Nat) (e : Int) : Prop := ∃ f z, (∀ w, (callMethod (engA k c1 c2 c3 c4) "Divide" #[W n, W d]).run Tryz.prog w = .ok (.enter f #[z, W n, W d]) w) ∧
    ∀ w q, Owns w (EngL bs br c c1 c2 c3 c4 q) → GivesT Tryz.prog f #[z, W n, W d] (.tuple #[W x, W y, .int .i64 e]) [(br, .cells c 92)] [(br, .cells c' 92)] w

theorem div_gold (bs br : Nat) (c : Array Value) (hc : RomOk c) (c1 c2 c3 c4 n d : Nat) (hn : n < M) (hd : d < M) : DivM bs br c (romD n d c) c1 c2 c3 c4 4 n d (quoQ n d) (quoM n d) (mayE n d : Nat) := by
  refine ⟨194, .pointer (some ⟨c3, 0, none⟩), fun w => by unfold engA eA4; kernel_rfl, fun w q hL => ?_⟩
  have hbr := hL.2 br _ (List.Mem.tail _ (List.Mem.head _))
  have hc3 := hL.2 c3 _ (List.Mem.tail _ (List.Mem.tail _ (List.Mem.tail _ (List.Mem.tail _ (List.Mem.head _)))))
  have hnd := hL.1
  simp only [EngL, List.map_cons, List.map_nil, List.nodup_cons, List.mem_cons, List.not_mem_nil, or_false, not_or] at hnd
  exact gold_Divide c3 br c hc (fun e => by omega) n d hn hd w hc3 hbr

set_option maxHeartbeats 1000000 in
theorem engine_Divide_1 (bs br : Nat) (c c' : Array Value) (c1 c2 c3 c4 : Nat) (q : Nat → Int) (k n d x1 x2 : Nat) (x3 : Int) (hD : DivM bs br c c' c1 c2 c3 c4 k n d x1 x2 x3) (b5 b6 : Nat) (h65 : b6 ≠ b5) (hb5 : b5 ∉ keysE bs br c1 c2 c3 c4) (hb6 : b6 ∉ keysE bs br c1 c2 c3 c4) (E5 E6 : TypeId) (w0 : World) (h5 : w0.heap[b5]? = some (.cells (wc 8 n) E5)) (h6 : w0.heap[b6]? = some (.cells (wc 8 d) E6)) (hL : Owns w0 (EngL bs br c c1 c2 c3 c4 q)) :
    GivesT Tryz.prog 16 #[engA k c1 c2 c3 c4, .pointer (some ⟨b5, 0, none⟩), .pointer (some ⟨b6, 0, none⟩)] (.tuple #[W x1, W x2, .int .i64 x3]) [(br, .cells c 92)] [(br, .cells c' 92)] w0 := by
  have hst := ((St.ofOwns [br] hL).add h5 (by rw [EngL_keys]; exact hb5)).add h6 (by
    rw [List.map_cons, EngL_keys]
    intro h
    rcases List.mem_cons.1 h with h | h
    · exact h65 h
    · exact hb6 h)
  obtain ⟨f, z, hm, hr⟩ := hD
  have hr' := Lib.hid hr
  clear hr hL h5 h6 hb5 hb6
  generalize engA k c1 c2 c3 c4 = A at *
  unfold EngL at hst
  go_enter Tryz.func16, Tryz.ntmps16
  go_wp2_with ((first | (refine kTI hst (fun w hst => hr'.out w q (hst.owns (L := []) (L' := EngL bs br c c1 c2 c3 c4 q) (X := [_, _, _, _]) (.there (.there (.there (.there .here)))))) hm rfl rfl rfl rfl ?_; clear hst; intro w hst) | (refine ka 4 hst tz24 rfl rfl ?_; clear hst; intro b4 w hb4 hst) | (refine ka 5 hst tz24 rfl rfl ?_; clear hst; intro b5 w hb5 hst) | (refine kl hst ta24 rfl ?_) | (refine klm hst ta24 rfl ?_) | (refine kt hst ta24 rfl rfl ?_; clear hst; intro w hst) | (refine ktm hst ta24 rfl rfl ?_; clear hst; intro w hst)); try simp only [pz, pn, sz, sc])
  refine bp_cct rfl rfl (la hst ta24) (la hst ta24) (by rfl) ⟨?_, hst.keeps, own_one (hst.own _ _ (by simp))⟩
  rfl

set_option maxHeartbeats 1000000 in
theorem engine_Divide (bs br : Nat) (c c' : Array Value) (q : Nat → Int) (L : List (Nat × Obj)) (hS : SetSt bs br c q L) (k : Nat) (h1 : 1 ≤ k) (h2 : k ≤ 4) (hq1 : 0 ≤ q k) (hq2 : q k ≤ 1000) (n d x1 x2 : Nat) (x3 : Int) (hD : ∀ c1 c2 c3 c4, DivM bs br c c' c1 c2 c3 c4 k n d x1 x2 x3) (w0 : World) (hL : Owns w0 L) :
    GivesZ Tryz.prog 7 #[.pointer (some ⟨bs, 0, none⟩), .int .i64 k, W n, W d] [bs, br] L (fun L' v => v = .tuple #[W x1, W x2, .int .i64 x3] ∧ ∃ c1 c2 c3 c4, L' = EngL bs br c' c1 c2 c3 c4 (bump k q)) w0 := by
  refine ⟨fun x hx => by simp only [List.mem_cons, List.not_mem_nil, or_false] at hx; rcases hx with rfl | rfl; exact hS.bs.1; exact hS.bs.2, ?_⟩
  have hst := St.ofOwns [bs, br] hL
  have hbs := hS.bs
  have hask := fun (b6 b7 : Nat) (h76 : b7 ≠ b6) (w : World) (h6 : w.heap[b6]? = some (.cells (wc 8 n) 24)) (h7 : w.heap[b7]? = some (.cells (wc 8 d) 24)) (hb6 : b6 ∉ L.map Prod.fst) (hb7 : b7 ∉ L.map Prod.fst) (ho : Owns w L) =>
    engine_ask bs br c c' q L hS k h1 h2 hq1 hq2 16 gf16 #[.pointer (some ⟨b6, 0, none⟩), .pointer (some ⟨b7, 0, none⟩)] x1 x2 x3 w ho
      (fun c1 c2 c3 c4 w' kp hk ho' => engine_Divide_1 bs br c c' c1 c2 c3 c4 (bump k q) k n d x1 x2 x3 (hD c1 c2 c3 c4) b6 b7 h76
        (fun hb => by
          rcases hk b6 hb with h | h
          · exact hb6 h
          · have := lt_of_some h6; omega)
        (fun hb => by
          rcases hk b7 hb with h | h
          · exact hb7 h
          · have := lt_of_some h7; omega) 24 24 w'
        (by
          rw [kp.block b6 (lt_of_some h6) (fun hb => by simp only [List.mem_cons, List.not_mem_nil, or_false] at hb; rcases hb with rfl | rfl; exact hb6 hbs.1; exact hb6 hbs.2)]
          exact h6)
        (by
          rw [kp.block b7 (lt_of_some h7) (fun hb => by simp only [List.mem_cons, List.not_mem_nil, or_false] at hb; rcases hb with rfl | rfl; exact hb7 hbs.1; exact hb7 hbs.2)]
          exact h7) ho')
  clear hS hL h1 h2 hq1 hq2 hD hbs
  go_enter Tryz.func7, Tryz.ntmps7
  go_wp2_with ((first | (refine kZ (fun L' => (b9, .cells (wc 8 0) 24) :: (b8, .cells (wc 8 0) 24) :: (b7, .cells (wc 8 d) 24) :: (b6, .cells (wc 8 n) 24) :: L') gf15 hst (fun w hst => hask b6 b7 (by have hnd := hst.nodup; simp only [List.map_cons, List.nodup_cons, List.mem_cons, not_or] at hnd; exact hnd.2.2.1.1) w (hst.own _ _ (by repeat (first | exact List.Mem.head _ | refine List.Mem.tail _ ?_))) (hst.own _ _ (by repeat (first | exact List.Mem.head _ | refine List.Mem.tail _ ?_))) (fun hb => by have hnd := hst.nodup; simp only [List.map_cons, List.nodup_cons] at hnd; exact hnd.2.2.2.1 hb) (fun hb => by have hnd := hst.nodup; simp only [List.map_cons, List.nodup_cons] at hnd; exact hnd.2.2.1 (List.mem_cons_of_mem _ hb)) (hst.owns (L := L) (.there (.there (.there (.there .here)))))) rfl rfl rfl rfl ?_; clear hst; intro v14 L' w hR hnew hst; obtain ⟨rfl, hR⟩ := hR) | (refine kb 6 hst rfl rfl ?_; clear hst; intro b6 w hb6 hst) | (refine kb 7 hst rfl rfl ?_; clear hst; intro b7 w hb7 hst) | (refine ka 8 hst tz24 rfl rfl ?_; clear hst; intro b8 w hb8 hst) | (refine ka 9 hst tz24 rfl rfl ?_; clear hst; intro b9 w hb9 hst) | (refine kt hst ta24 rfl rfl ?_; clear hst; intro w hst) | (refine ktm hst ta24 rfl rfl ?_; clear hst; intro w hst)); try simp only [pz, pn, sz, sc])
  exact bp_cct rfl rfl (la hst ta24) (la hst ta24) (by rfl) (PostZ.of hst ⟨rfl, hR⟩ hnew (.there (.there (.there (.there .here)))))

theorem law_is_yes (k : Int) (h1 : 1 ≤ k) (h2 : k ≤ 4) : Gives Tryz.prog 4 #[.int .i64 k] (.bool true) := by
  intro w0
  have hst := St.start [] w0
  go_enter Tryz.func4, Tryz.ntmps4
  go_wp2_with fail
  refine bp_t rfl rfl (by rfl) ⟨?_, hst.keeps⟩
  rfl

theorem law_is_no (k : Int) (h : k < 1 ∨ 4 < k) : Gives Tryz.prog 4 #[.int .i64 k] (.bool false) := by
  intro w0
  have hst := St.start [] w0
  rcases h with h | h
  · have q1 : ¬ 1 ≤ k := by omega
    clear h
    go_enter Tryz.func4, Tryz.ntmps4
    go_wp2_with fail
    refine bp_t rfl rfl (by rfl) ⟨?_, hst.keeps⟩
    rfl
  · have q1 : 1 ≤ k := by omega
    have q2 : ¬ k ≤ 4 := by omega
    clear h
    go_enter Tryz.func4, Tryz.ntmps4
    go_wp2_with fail
    refine bp_t rfl rfl (by rfl) ⟨?_, hst.keeps⟩
    rfl

theorem build_100 (w : World) : (Instr.build 24 (List.toArray [(0, .int .u64 100)])).run Tryz.prog w = .ok (W 100) w := by kernel_rfl
theorem build_7 (w : World) : (Instr.build 24 (List.toArray [(0, .int .u64 7)])).run Tryz.prog w = .ok (W 7) w := by kernel_rfl
theorem build_14 (w : World) : (Instr.build 24 (List.toArray [(0, .int .u64 14)])).run Tryz.prog w = .ok (W 14) w := by kernel_rfl
theorem build_2 (w : World) : (Instr.build 24 (List.toArray [(0, .int .u64 2)])).run Tryz.prog w = .ok (W 2) w := by kernel_rfl
theorem quo_100 : quoQ 100 7 = 14 ∧ quoM 100 7 = 2 ∧ mayE 100 7 = 0 := by decide

set_option maxHeartbeats 4000000 in
theorem law_awake : Gives Tryz.prog 12 #[] (.bool true) := by
  intro w0
  have hst := St.start [] w0
  have hnew := fun w => engine_New w
  have b100 := build_100
  have b7' := build_7
  have b14 := build_14
  have b2' := build_2
  have hdiv := fun bs br L (hS : SetNew bs br L) (w : World) (ho : Owns w L) => engine_Divide bs br romN (romD 100 7 romN) (fun _ => 0) L (.inl ⟨hS, rfl, rfl⟩) 4 (by omega) (by omega) (by decide) (by decide) 100 7 _ _ _ (fun c1 c2 c3 c4 => div_gold bs br romN romN_ok c1 c2 c3 c4 100 7 (small_M (by decide)) (small_M (by decide))) w ho
  rw [quo_100.1, quo_100.2.1, quo_100.2.2] at hdiv
  have hcnt := fun bs br c1 c2 c3 c4 w h => engine_Count bs br 0 1 c1 c2 c3 c4 (bump 4 (fun _ => 0)) 4 (by omega) (by omega) w h
  rw [show ((4 : Nat) : Int) = 4 from rfl] at hdiv hcnt
  rw [show bump 4 (fun _ => 0) 4 = 1 from rfl] at hcnt
  generalize romD 100 7 romN = c' at *
  have m14 : 14 < M := small_M (by decide)
  have m2 : 2 < M := small_M (by decide)
  have e14 : decide (14 = 14) = true := rfl
  have e2 : decide (2 = 2) = true := rfl
  go_enter Tryz.func12, Tryz.ntmps12
  go_wp2_with ((first | (refine kN (o := ⟨some 5, _, _, _, _, _⟩) gf20 hst (fun w hst => hnew w) rfl rfl rfl rfl ?_; clear hst; intro v5 L w hn5 hR5 hst; obtain ⟨bs, br, hsr, rfl, hS⟩ := hR5; (try simp only [List.cons_append, List.nil_append, List.append_nil, List.append_assoc] at hst); have hbs : w0.heap.size ≤ bs := hn5.1 (bs, _) (by rw [hS]; exact List.Mem.head _); have hbr : w0.heap.size ≤ br := hn5.1 (br, _) (by rw [hS]; exact List.Mem.tail _ (List.Mem.head _))) | (refine kZ (fun L' => L') gf7 hst (fun w hst => hdiv bs br L hS w (hst.owns (L := L) .here)) rfl rfl rfl rfl ?_; clear hst; intro v12 L' w hR hnew2 hst; obtain ⟨rfl, c1, c2, c3, c4, rfl⟩ := hR; unfold EngL at hst) | (refine kg gf10 hst (fun w hst => hcnt bs br c1 c2 c3 c4 w (hst.own _ _ (by repeat (first | exact List.Mem.head _ | refine List.Mem.tail _ ?_)))) rfl rfl rfl rfl ?_; clear hst; intro w hst) | (refine kB b100 rfl ?_) | (refine kB b7' rfl ?_) | (refine kB b14 rfl ?_) | (refine kB b2' rfl ?_) | (refine wl_guard (by rfl) ?_) | (refine ka 2 hst tz24 rfl rfl ?_; clear hst; intro b2 w hb2 hst) | (refine ka 3 hst tz24 rfl rfl ?_; clear hst; intro b3 w hb3 hst) | (refine kt hst ta24 rfl rfl ?_; clear hst; intro w hst) | (refine ktm hst ta24 rfl rfl ?_; clear hst; intro w hst) | (refine kl hst ta24 rfl ?_) | (refine klm hst ta24 rfl ?_) | (refine ke tr24 tc22 rfl ?_)); try simp only [pz, pn, sz, sc])
  refine bp_t rfl rfl (by rfl) ⟨?_, hst.keeps⟩
  rfl

end Go.Proofs.YtggchelniblipaaGreatDoor.Rd

namespace Go.Proofs.YtggchelniblipaaGreatDoor.Rd
open Go Go.RowKit
set_option linter.unusedVariables false
set_option linter.unusedSimpArgs false
set_option maxRecDepth 100000

section
variable {P : Program} {ops : Array Oper} {rest : List Oper} {Q : Exit → Act → World → Prop} {a : Act} {w w' w0 : World} {S : List Nat} {L : List (Nat × Obj)}
theorem run_loadCellV {T : TypeId} {b i : Nat} {v : Value} (hT : CellT P T) (hc : w.cell? ⟨b, i, none⟩ = some v) : (Instr.loadAt T (.pointer (some ⟨b, i, none⟩))).run P w = .ok v w := by
  obtain ⟨d, hu, hd, _⟩ := hT
  simp [Instr.loadAt, Instr.sureAddr, loadVar, Sem.run_bind, run_isAgg_no d hu hd w, load, Sem.run, hc]
theorem Keeps.cellV (k : Keeps [] w w') {b i : Nat} {v : Value} (h : w.cell? ⟨b, i, none⟩ = some v) : w'.cell? ⟨b, i, none⟩ = some v := by
  have hb : b < w.heap.size := by
    rcases Nat.lt_or_ge b w.heap.size with h' | h'
    · exact h'
    · simp [World.cell?, Array.getElem?_eq_none h'] at h
  have e := k.block b hb (by simp)
  unfold World.cell? at *
  simp only at *
  rw [e]; exact h
/-- A load of one cell that the world is known to hold. -/
theorem kcv {o : Oper} {T : TypeId} {x : Operand} {b i : Nat} {v : Value} (hst : St w0 S L w) (hT : CellT P T) (hc : ∀ w, St w0 S L w → w.cell? ⟨b, i, none⟩ = some v) (ho : o.op = .load T x) (h : wpList P ops Q rest (a.put o.dst v) w)
    (hx : a.eval x = .pointer (some ⟨b, i, none⟩) := by rfl) (hg : o.guard = none := by rfl) : wpList P ops Q (o :: rest) a w := by
  refine wpList_plain hg fun K hK => ?_
  unfold Oper.wp execOp
  simp only [ho, hx, Sem.run_bind, run_loadCellV hT (hc w hst), Sem.run_pure, Result.andThen_ok]
  exact hK _ _ h
end

theorem str_ne {a b : ByteArray} (h : ¬ a = b) : (a.toList == b.toList) = false := by
  rw [beq_eq_false_iff_ne]
  intro e
  rw [ByteArray.toList_eq, ByteArray.toList_eq] at e
  exact h (ByteArray.ext (Array.toList_inj.mp e))

/-- The engines' names. -/
def nm (i : Nat) : ByteArray := if i = 1 then ⟨#[114, 101, 115, 116, 111, 114, 105, 110, 103]⟩ else if i = 2 then ⟨#[115, 114, 116]⟩ else if i = 3 then ⟨#[110, 101, 119, 116, 111, 110]⟩ else if i = 4 then ⟨#[103, 111, 108, 100]⟩ else ⟨#[]⟩
def nmSz (i : Nat) : Nat := if i = 1 then 9 else if i = 2 then 3 else if i = 3 then 6 else if i = 4 then 4 else 0
theorem nm_size (i : Nat) : (nm i).size = nmSz i := by unfold nm nmSz; split <;> (try split) <;> (try split) <;> (try split) <;> rfl
theorem nm_inj {i j : Nat} (h1 : 1 ≤ i) (h2 : i ≤ 4) (h3 : 1 ≤ j) (h4 : j ≤ 4) (h : nm i = nm j) : i = j := by
  have e : nmSz i = nmSz j := by rw [← nm_size, ← nm_size, h]
  have hi : i = 1 ∨ i = 2 ∨ i = 3 ∨ i = 4 := by omega
  have hj : j = 1 ∨ j = 2 ∨ j = 3 ∨ j = 4 := by omega
  rcases hi with rfl | rfl | rfl | rfl <;> rcases hj with rfl | rfl | rfl | rfl <;> first | rfl | (exfalso; revert e; decide)
def NamesIn (w : World) : Prop := ∀ i, i < 5 → w.cell? ⟨0, i, none⟩ = some (.string (nm i))
/-- m is the number of the name T, or 0. -/
def NameOf (T : ByteArray) (m : Nat) : Prop := (1 ≤ m ∧ m ≤ 4 ∧ T = nm m) ∨ (m = 0 ∧ ∀ i, 1 ≤ i → i ≤ 4 → nm i ≠ T)
theorem nameOf_ex (T : ByteArray) : ∃ m, NameOf T m := by
  by_cases h : ∃ i, 1 ≤ i ∧ i ≤ 4 ∧ T = nm i
  · obtain ⟨i, h1, h2, h3⟩ := h
    exact ⟨i, .inl ⟨h1, h2, h3⟩⟩
  · exact ⟨0, .inr ⟨rfl, fun i h1 h2 e => h ⟨i, h1, h2, e.symm⟩⟩⟩
theorem NameOf.at {T : ByteArray} {m : Nat} (h : NameOf T m) (i : Nat) (h1 : 1 ≤ i) (h2 : i ≤ 4) : (nm i = T ↔ i = m) := by
  rcases h with ⟨h3, h4, rfl⟩ | ⟨rfl, h3⟩
  · exact ⟨fun e => nm_inj h1 h2 h3 h4 e, fun e => by rw [e]⟩
  · exact ⟨fun e => absurd e (h3 i h1 h2), fun e => by omega⟩
theorem NameOf.le {T : ByteArray} {m : Nat} (h : NameOf T m) : m ≤ 4 := by
  rcases h with ⟨_, h4, _⟩ | ⟨rfl, _⟩ <;> omega

set_option maxHeartbeats 1000000 in
theorem engine_ByName (T : ByteArray) (m : Nat) (hm : NameOf T m) (bo : Bool) (hbo : bo = decide (0 < m)) (w0 : World) (hN : NamesIn w0) : GivesAt Tryz.prog 5 #[.string T] (.tuple #[.int .i64 m, .bool bo]) w0 := by
  have hst := St.start [] w0
  have hat := Lib.hid (fun i h1 h2 => hm.at i h1 h2)
  have hle := hm.le
  have hN' := Lib.hid hN
  have hb' := Lib.hid hbo
  clear hm hN hbo
  go_enter Tryz.func5, Tryz.ntmps5
  go_wp2_with ((first | (refine kc hst tc9 rfl ?_)); try simp only [pz, pn, sz, sc])
  go_loopw [4] (fun v wr => ∃ k : Nat, 1 ≤ k ∧ k ≤ 5 ∧ v = .int .i64 k ∧ (m = 0 ∨ k ≤ m) ∧ St w0 [] [] wr) (fun v _ => 5 - (intOf v).toNat)
  case atStart => exact ⟨1, by omega, by omega, rfl, by omega, hst⟩
  case round =>
    clear hst
    obtain ⟨k, k1, k5, rfl, hkm, hst⟩ := hrel
    by_cases hlt : k < 5
    · have i0 : (0 : Int) ≤ (k : Int) := by omega
      have i5 : (k : Int) < 5 := by omega
      have hc := hN'.out k hlt
      have hc' := Lib.hid hc
      have ha := hat.out k k1 (by omega)
      clear hc
      by_cases he : k = m
      · subst he
        have hT := ha.2 rfl
        subst hT
        clear ha hat hkm
        generalize nm k = T at *
        go_wp2_with ((first | (refine kcv hst tc9 (fun w hst => hst.keeps.cellV hc'.out) rfl ?_) | (refine kc hst tc9 rfl ?_)); try simp only [pz, pn, sz, sc])
        refine bp_tt rfl rfl (by rfl) (by rfl) ⟨?_, hst.keeps⟩
        rw [hb'.out, decide_eq_true (show 0 < k from k1)]; rfl
      · have hne : ¬ nm k = T := fun e => he (ha.1 e)
        have hb : ((nm k).toList == T.toList) = false := str_ne hne
        clear ha hat
        generalize nm k = T' at *
        go_wp2_with ((first | (refine kcv hst tc9 (fun w hst => hst.keeps.cellV hc'.out) rfl ?_) | (refine kc hst tc9 rfl ?_)); try simp only [pz, pn, sz, sc])
        refine ⟨⟨k + 1, by omega, by omega, by go_num, by omega, hst⟩, ?_⟩
        (simp [intOf]; try omega)
    · obtain rfl : k = 5 := by omega
      obtain rfl : m = 0 := by omega
      have i5 : ¬ ((5 : Nat) : Int) < 5 := by omega
      go_wp2_with ((first | (refine kc hst tc9 rfl ?_)); try simp only [pz, pn, sz, sc])
      refine bp_tt rfl rfl (by rfl) (by rfl) ⟨?_, hst.keeps⟩
      rw [hb'.out]; rfl

end Go.Proofs.YtggchelniblipaaGreatDoor.Rd

namespace Go.Proofs.YtggchelniblipaaGreatDoor.Rd
open Go Go.RowKit
set_option linter.unusedVariables false
set_option linter.unusedSimpArgs false
set_option maxRecDepth 100000

theorem engine_Name_yes (k : Nat) (h1 : 1 ≤ k) (h2 : k ≤ 4) (w0 : World) (hN : NamesIn w0) : GivesAt Tryz.prog 9 #[.int .i64 k] (.string (nm k)) w0 := by
  have hst := St.start [] w0
  have his := engine_is_yes k (by omega) (by omega)
  have hc := Lib.hid (hN k (by omega))
  have i0 : (0 : Int) ≤ (k : Int) := by omega
  have i5 : (k : Int) < 5 := by omega
  clear hN h1 h2
  generalize nm k = T at *
  go_enter Tryz.func9, Tryz.ntmps9
  go_wp2_with ((first | (refine kf gf13 hst (his) rfl rfl rfl rfl ?_; clear hst; intro w hst) | (refine kcv hst tc9 (fun w hst => hst.keeps.cellV hc.out) rfl ?_) | (refine kc hst tc9 rfl ?_)); try simp only [pz, pn, sz, sc])
  refine bp_t rfl rfl (by rfl) ⟨?_, hst.keeps⟩
  rfl

theorem engine_Name_no (k : Int) (h : k < 1 ∨ 4 < k) : Gives Tryz.prog 9 #[.int .i64 k] (.string ⟨#[]⟩) := by
  intro w0
  have hst := St.start [] w0
  have his := engine_is_no k h
  clear h
  go_enter Tryz.func9, Tryz.ntmps9
  go_wp2_with ((first | (refine kf gf13 hst (his) rfl rfl rfl rfl ?_; clear hst; intro w hst) | (refine kc hst tc9 rfl ?_)); try simp only [pz, pn, sz, sc])
  refine bp_t rfl rfl (by rfl) ⟨?_, hst.keeps⟩
  rfl

theorem nil_Of (k : Int) : Gives Tryz.prog 6 #[.pointer none, .int .i64 k] (.tuple #[.nilIface, .bool false]) := by
  intro w0
  have hst := St.start [] w0
  go_enter Tryz.func6, Tryz.ntmps6
  go_wp2_with ((first | (refine wl_guard (by rfl) ?_) | (refine kc hst tc31 rfl ?_)); try simp only [pz, pn, sz, sc])
  refine bp_tt rfl rfl (by rfl) (by rfl) ⟨?_, hst.keeps⟩
  rfl

theorem nil_ask (k : Int) (f : Value) : Gives Tryz.prog 15 #[.pointer none, .int .i64 k, f] (.tuple #[W 0, W 0, .int .i64 6]) := by
  intro w0
  have hst := St.start [] w0
  have hof := nil_Of k
  go_enter Tryz.func15, Tryz.ntmps15
  go_wp2_with ((first | (refine kf gf6 hst (hof) rfl rfl rfl rfl ?_; clear hst; intro w hst) | (refine ka 6 hst tz24 rfl rfl ?_; clear hst; intro b6 w hb6 hst) | (refine ka 7 hst tz24 rfl rfl ?_; clear hst; intro b7 w hb7 hst) | (refine kt hst ta24 rfl rfl ?_; clear hst; intro w hst) | (refine ktm hst ta24 rfl rfl ?_; clear hst; intro w hst)); try simp only [pz, pn, sz, sc])
  refine bp_cct rfl rfl (la hst ta24) (la hst ta24) (by rfl) ⟨?_, hst.keeps⟩
  rw [W_zero]; rfl

theorem nil_Root (k : Int) (n : Nat) : Gives Tryz.prog 8 #[.pointer none, .int .i64 k, W n] (.tuple #[W 0, W 0, .int .i64 6]) := by
  intro w0
  have hst := St.start [] w0
  have has := fun f => nil_ask k f
  go_enter Tryz.func8, Tryz.ntmps8
  go_wp2_with ((first | (refine kf gf15 hst (has _) rfl rfl rfl rfl ?_; clear hst; intro w hst) | (refine kb 5 hst rfl rfl ?_; clear hst; intro b5 w hb5 hst) | (refine ka 6 hst tz24 rfl rfl ?_; clear hst; intro b6 w hb6 hst) | (refine ka 7 hst tz24 rfl rfl ?_; clear hst; intro b7 w hb7 hst) | (refine kt hst ta24 rfl rfl ?_; clear hst; intro w hst) | (refine ktm hst ta24 rfl rfl ?_; clear hst; intro w hst)); try simp only [pz, pn, sz, sc])
  refine bp_cct rfl rfl (la hst ta24) (la hst ta24) (by rfl) ⟨?_, hst.keeps⟩
  rfl

theorem nil_Divide (k : Int) (n d : Nat) : Gives Tryz.prog 7 #[.pointer none, .int .i64 k, W n, W d] (.tuple #[W 0, W 0, .int .i64 6]) := by
  intro w0
  have hst := St.start [] w0
  have has := fun f => nil_ask k f
  go_enter Tryz.func7, Tryz.ntmps7
  go_wp2_with ((first | (refine kf gf15 hst (has _) rfl rfl rfl rfl ?_; clear hst; intro w hst) | (refine kb 6 hst rfl rfl ?_; clear hst; intro b6 w hb6 hst) | (refine kb 7 hst rfl rfl ?_; clear hst; intro b7 w hb7 hst) | (refine ka 8 hst tz24 rfl rfl ?_; clear hst; intro b8 w hb8 hst) | (refine ka 9 hst tz24 rfl rfl ?_; clear hst; intro b9 w hb9 hst) | (refine kt hst ta24 rfl rfl ?_; clear hst; intro w hst) | (refine ktm hst ta24 rfl rfl ?_; clear hst; intro w hst)); try simp only [pz, pn, sz, sc])
  refine bp_cct rfl rfl (la hst ta24) (la hst ta24) (by rfl) ⟨?_, hst.keeps⟩
  rfl

theorem nil_Count (k : Int) : Gives Tryz.prog 10 #[.pointer none, .int .i64 k] (.int .i64 0) := by
  intro w0
  have hst := St.start [] w0
  go_enter Tryz.func10, Tryz.ntmps10
  go_wp2_with ((first | (refine wl_guard (by rfl) ?_)); try simp only [pz, pn, sz, sc])
  refine bp_t rfl rfl (by rfl) ⟨?_, hst.keeps⟩
  rfl

theorem nil_Made : Gives Tryz.prog 11 #[.pointer none] (.int .i64 0) := by
  intro w0
  have hst := St.start [] w0
  go_enter Tryz.func11, Tryz.ntmps11
  go_wp2_with ((first | (refine kc hst tc56 rfl ?_)); try simp only [pz, pn, sz, sc])
  refine bp_t rfl rfl (by rfl) ⟨?_, hst.keeps⟩
  rfl

def nmC : Array Value := #[.string (nm 1), .string (nm 2), .string (nm 3), .string (nm 4)]
theorem nmC_get (j : Nat) (h : j < 4) : nmC[j]? = some (.string (nm (j + 1))) := by
  obtain rfl | rfl | rfl | rfl : j = 0 ∨ j = 1 ∨ j = 2 ∨ j = 3 := by omega
  all_goals rfl
def wantN (m j : Nat) : Nat := if m ≤ j then m else 0

theorem names_slice : Tryz.prog.builtSlice 9 4 [(0, .string ⟨#[114, 101, 115, 116, 111, 114, 105, 110, 103]⟩), (1, .string ⟨#[115, 114, 116]⟩), (2, .string ⟨#[110, 101, 119, 116, 111, 110]⟩), (3, .string ⟨#[103, 111, 108, 100]⟩)] = some nmC := by kernel_rfl

set_option maxHeartbeats 8000000 in
theorem law_EngineNames (k : Int) (T : ByteArray) (n : Nat) (w0 : World) (hN : NamesIn w0) : GivesAt Tryz.prog 3 #[.int .i64 k, .string T, W n] (.bool true) w0 := by
  have hst := St.start [] w0
  have haw := law_awake
  obtain ⟨m, hm⟩ := nameOf_ex T
  have hat := Lib.hid (fun i h1 h2 => hm.at i h1 h2)
  have hle := hm.le
  have hget := Lib.hid nmC_get
  have hsl := names_slice
  have hN' := Lib.hid hN
  have hnk : ∀ w, Keeps [] w0 w → NamesIn w := fun w kp i hi => kp.cellV (hN i hi)
  have hnk' := Lib.hid hnk
  obtain ⟨bo, hbo⟩ : ∃ bo, bo = decide (0 < m) := ⟨_, rfl⟩
  have hby := fun w h => engine_ByName T m hm bo hbo w h
  have n1 := nil_Of k
  have n2 := nil_Divide k n n
  have n3 := nil_Root k n
  have n4 := nil_Count k
  have n5 := nil_Made
  have hbo' := Lib.hid hbo
  clear hm hN hnk hbo
  have hsz : nmC.size = 4 := rfl
  have hkk := Lib.hid (show (∃ j : Nat, k = (j : Int) + 1 ∧ j < 4) ∨ (k < 1 ∨ 4 < k) by
    by_cases h : 1 ≤ k ∧ k ≤ 4
    · exact .inl ⟨(k - 1).toNat, by omega, by omega⟩
    · exact .inr (by omega))
  generalize nmC = cs at *
  rcases hkk.out with ⟨j, hkj, hj4⟩ | hno
  · have his := law_is_yes k (by omega) (by omega)
    have hnm := fun w h => engine_Name_yes (j + 1) (by omega) (by omega) w h
    rw [show ((j + 1 : Nat) : Int) = k by omega] at hnm
    have hj := hget.out j hj4
    have j0 : (0 : Int) ≤ (j : Int) := by omega
    have j4 : (j : Int) < 4 := by omega
    have hk1 : k - 1 = (j : Int) := by omega
    have k1 : 1 ≤ k := by omega
    have k4 : k ≤ 4 := by omega
    clear hkk hkj
    generalize nm (j + 1) = nk at *
    go_enter Tryz.func3, Tryz.ntmps3
    go_wp2_with ((first | (refine kS 22 hst (show SliceT _ 25 9 by unfold SliceT; kernel_rfl) hsl rfl rfl ?_; clear hst; intro b22 w hb22 hst) | (refine kf gf4 hst (his) rfl rfl rfl rfl ?_; clear hst; intro w hst) | (refine kg gf5 hst (fun w hst => hby w (hnk'.out w hst.keeps)) rfl rfl rfl rfl ?_; clear hst; intro w hst) | (refine wl_guard (by rfl) ?_) | (refine kb 5 hst rfl rfl ?_; clear hst; intro b5 w hb5 hst) | (refine kc hst tc9 rfl ?_) | (refine kl hst ta24 rfl ?_) | (refine klm hst ta24 rfl ?_) | (refine ka 16 hst tz24 rfl rfl ?_; clear hst; intro b16 w hb16 hst) | (refine ka 17 hst tz24 rfl rfl ?_; clear hst; intro b17 w hb17 hst) | (refine kt hst ta24 rfl rfl ?_; clear hst; intro w hst) | (refine ktm hst ta24 rfl rfl ?_; clear hst; intro w hst) | (refine ka 19 hst tz24 rfl rfl ?_; clear hst; intro b19 w hb19 hst) | (refine ka 20 hst tz24 rfl rfl ?_; clear hst; intro b20 w hb20 hst)); try simp only [pz, pn, sz, sc])
    go_loopw [11, 12] (fun vw vj wr => ∃ jj : Nat, jj ≤ 4 ∧ vj = .int .i64 jj ∧ vw = .int .i64 (wantN m jj : Nat) ∧ St w0 [] [(b22, .cells cs 9), (b5, .cells (wc 8 n) 24)] wr) (fun _ vj _ => 4 - (intOf vj).toNat)
    case atStart => exact ⟨0, by omega, rfl, by rw [show wantN m 0 = 0 by unfold wantN; split <;> omega]; rfl, hst⟩
    case round =>
      clear hst
      obtain ⟨jj, hjj, rfl, rfl, hst⟩ := hrel
      by_cases hlt : jj < 4
      · have q0 : (0 : Int) ≤ (jj : Int) := by omega
        have q4 : (jj : Int) < 4 := by omega
        have hgj := hget.out jj hlt
        have ha := hat.out (jj + 1) (by omega) (by omega)
        by_cases he : jj + 1 = m
        · have hE : ((nm (jj + 1)).toList == T.toList) = true := by rw [ha.2 he]; exact beq_self_eq_true _
          have hwn := Lib.hid (show wantN m (jj + 1) = jj + 1 by unfold wantN; rw [if_pos (by omega)]; exact he.symm)
          clear ha
          generalize nm (jj + 1) = nj at *
          generalize wantN m jj = wv at *
          go_wp2_with ((first | (refine wl_guard (by rfl) ?_) | (refine kb 5 hst rfl rfl ?_; clear hst; intro b5 w hb5 hst) | (refine kc hst tc9 rfl ?_) | (refine kl hst ta24 rfl ?_) | (refine klm hst ta24 rfl ?_) | (refine ka 16 hst tz24 rfl rfl ?_; clear hst; intro b16 w hb16 hst) | (refine ka 17 hst tz24 rfl rfl ?_; clear hst; intro b17 w hb17 hst) | (refine kt hst ta24 rfl rfl ?_; clear hst; intro w hst) | (refine ktm hst ta24 rfl rfl ?_; clear hst; intro w hst) | (refine ka 19 hst tz24 rfl rfl ?_; clear hst; intro b19 w hb19 hst) | (refine ka 20 hst tz24 rfl rfl ?_; clear hst; intro b20 w hb20 hst)); try simp only [pz, pn, sz, sc])
          refine ⟨⟨jj + 1, by omega, by go_num, by rw [hwn.out]; go_num, hst⟩, ?_⟩
          (simp [intOf]; try omega)
        · have hE : ((nm (jj + 1)).toList == T.toList) = false := str_ne (fun e => he (ha.1 e))
          have hwn := Lib.hid (show wantN m (jj + 1) = wantN m jj by unfold wantN; split <;> split <;> omega)
          clear ha
          generalize nm (jj + 1) = nj at *
          generalize wantN m jj = wv at *
          go_wp2_with ((first | (refine wl_guard (by rfl) ?_) | (refine kb 5 hst rfl rfl ?_; clear hst; intro b5 w hb5 hst) | (refine kc hst tc9 rfl ?_) | (refine kl hst ta24 rfl ?_) | (refine klm hst ta24 rfl ?_) | (refine ka 16 hst tz24 rfl rfl ?_; clear hst; intro b16 w hb16 hst) | (refine ka 17 hst tz24 rfl rfl ?_; clear hst; intro b17 w hb17 hst) | (refine kt hst ta24 rfl rfl ?_; clear hst; intro w hst) | (refine ktm hst ta24 rfl rfl ?_; clear hst; intro w hst) | (refine ka 19 hst tz24 rfl rfl ?_; clear hst; intro b19 w hb19 hst) | (refine ka 20 hst tz24 rfl rfl ?_; clear hst; intro b20 w hb20 hst)); try simp only [pz, pn, sz, sc])
          refine ⟨⟨jj + 1, by omega, by go_num, by rw [hwn.out], hst⟩, ?_⟩
          (simp [intOf]; try omega)
      · obtain rfl : jj = 4 := by omega
        have q4 : ¬ ((4 : Nat) : Int) < 4 := by omega
        rw [show wantN m 4 = m by unfold wantN; rw [if_pos hle]]
        by_cases h0 : m = 0
        · subst h0
          obtain rfl : bo = false := by rw [hbo'.out]; rfl
          go_wp2_with ((first | (refine kf gf6 hst (n1) rfl rfl rfl rfl ?_; clear hst; intro w hst) | (refine kf gf7 hst (n2) rfl rfl rfl rfl ?_; clear hst; intro w hst) | (refine kf gf8 hst (n3) rfl rfl rfl rfl ?_; clear hst; intro w hst) | (refine kf gf10 hst (n4) rfl rfl rfl rfl ?_; clear hst; intro w hst) | (refine kf gf11 hst (n5) rfl rfl rfl rfl ?_; clear hst; intro w hst) | (refine kf gf12 hst (haw) rfl rfl rfl rfl ?_; clear hst; intro w hst) | (refine kg gf9 hst (fun w hst => hnm w (hnk'.out w hst.keeps)) rfl rfl rfl rfl ?_; clear hst; intro w hst) | (refine wl_guard (by rfl) ?_) | (refine kb 5 hst rfl rfl ?_; clear hst; intro b5 w hb5 hst) | (refine kc hst tc9 rfl ?_) | (refine kl hst ta24 rfl ?_) | (refine klm hst ta24 rfl ?_) | (refine ka 16 hst tz24 rfl rfl ?_; clear hst; intro b16 w hb16 hst) | (refine ka 17 hst tz24 rfl rfl ?_; clear hst; intro b17 w hb17 hst) | (refine kt hst ta24 rfl rfl ?_; clear hst; intro w hst) | (refine ktm hst ta24 rfl rfl ?_; clear hst; intro w hst) | (refine ka 19 hst tz24 rfl rfl ?_; clear hst; intro b19 w hb19 hst) | (refine ka 20 hst tz24 rfl rfl ?_; clear hst; intro b20 w hb20 hst)); try simp only [pz, pn, sz, sc])
          refine bp_t rfl rfl (by rfl) ⟨?_, hst.keeps⟩
          rfl
        · obtain rfl : bo = true := by rw [hbo'.out]; exact decide_eq_true (by omega)
          have p0 : (0 : Int) < (m : Int) := by omega
          go_wp2_with ((first | (refine kf gf6 hst (n1) rfl rfl rfl rfl ?_; clear hst; intro w hst) | (refine kf gf7 hst (n2) rfl rfl rfl rfl ?_; clear hst; intro w hst) | (refine kf gf8 hst (n3) rfl rfl rfl rfl ?_; clear hst; intro w hst) | (refine kf gf10 hst (n4) rfl rfl rfl rfl ?_; clear hst; intro w hst) | (refine kf gf11 hst (n5) rfl rfl rfl rfl ?_; clear hst; intro w hst) | (refine kf gf12 hst (haw) rfl rfl rfl rfl ?_; clear hst; intro w hst) | (refine kg gf9 hst (fun w hst => hnm w (hnk'.out w hst.keeps)) rfl rfl rfl rfl ?_; clear hst; intro w hst) | (refine wl_guard (by rfl) ?_) | (refine kb 5 hst rfl rfl ?_; clear hst; intro b5 w hb5 hst) | (refine kc hst tc9 rfl ?_) | (refine kl hst ta24 rfl ?_) | (refine klm hst ta24 rfl ?_) | (refine ka 16 hst tz24 rfl rfl ?_; clear hst; intro b16 w hb16 hst) | (refine ka 17 hst tz24 rfl rfl ?_; clear hst; intro b17 w hb17 hst) | (refine kt hst ta24 rfl rfl ?_; clear hst; intro w hst) | (refine ktm hst ta24 rfl rfl ?_; clear hst; intro w hst) | (refine ka 19 hst tz24 rfl rfl ?_; clear hst; intro b19 w hb19 hst) | (refine ka 20 hst tz24 rfl rfl ?_; clear hst; intro b20 w hb20 hst)); try simp only [pz, pn, sz, sc])
          refine bp_t rfl rfl (by rfl) ⟨?_, hst.keeps⟩
          rfl
  · have his := law_is_no k hno
    have hnm := engine_Name_no k hno
    clear hkk hno
    go_enter Tryz.func3, Tryz.ntmps3
    go_wp2_with ((first | (refine kS 22 hst (show SliceT _ 25 9 by unfold SliceT; kernel_rfl) hsl rfl rfl ?_; clear hst; intro b22 w hb22 hst) | (refine kf gf4 hst (his) rfl rfl rfl rfl ?_; clear hst; intro w hst) | (refine kg gf5 hst (fun w hst => hby w (hnk'.out w hst.keeps)) rfl rfl rfl rfl ?_; clear hst; intro w hst) | (refine wl_guard (by rfl) ?_) | (refine kb 5 hst rfl rfl ?_; clear hst; intro b5 w hb5 hst) | (refine kc hst tc9 rfl ?_) | (refine kl hst ta24 rfl ?_) | (refine klm hst ta24 rfl ?_) | (refine ka 16 hst tz24 rfl rfl ?_; clear hst; intro b16 w hb16 hst) | (refine ka 17 hst tz24 rfl rfl ?_; clear hst; intro b17 w hb17 hst) | (refine kt hst ta24 rfl rfl ?_; clear hst; intro w hst) | (refine ktm hst ta24 rfl rfl ?_; clear hst; intro w hst) | (refine ka 19 hst tz24 rfl rfl ?_; clear hst; intro b19 w hb19 hst) | (refine ka 20 hst tz24 rfl rfl ?_; clear hst; intro b20 w hb20 hst)); try simp only [pz, pn, sz, sc])
    go_loopw [11, 12] (fun vw vj wr => ∃ jj : Nat, jj ≤ 4 ∧ vj = .int .i64 jj ∧ vw = .int .i64 (wantN m jj : Nat) ∧ St w0 [] [(b22, .cells cs 9), (b5, .cells (wc 8 n) 24)] wr) (fun _ vj _ => 4 - (intOf vj).toNat)
    case atStart => exact ⟨0, by omega, rfl, by rw [show wantN m 0 = 0 by unfold wantN; split <;> omega]; rfl, hst⟩
    case round =>
      clear hst
      obtain ⟨jj, hjj, rfl, rfl, hst⟩ := hrel
      by_cases hlt : jj < 4
      · have q0 : (0 : Int) ≤ (jj : Int) := by omega
        have q4 : (jj : Int) < 4 := by omega
        have hgj := hget.out jj hlt
        have ha := hat.out (jj + 1) (by omega) (by omega)
        by_cases he : jj + 1 = m
        · have hE : ((nm (jj + 1)).toList == T.toList) = true := by rw [ha.2 he]; exact beq_self_eq_true _
          have hwn := Lib.hid (show wantN m (jj + 1) = jj + 1 by unfold wantN; rw [if_pos (by omega)]; exact he.symm)
          clear ha
          generalize nm (jj + 1) = nj at *
          generalize wantN m jj = wv at *
          go_wp2_with ((first | (refine wl_guard (by rfl) ?_) | (refine kb 5 hst rfl rfl ?_; clear hst; intro b5 w hb5 hst) | (refine kc hst tc9 rfl ?_) | (refine kl hst ta24 rfl ?_) | (refine klm hst ta24 rfl ?_) | (refine ka 16 hst tz24 rfl rfl ?_; clear hst; intro b16 w hb16 hst) | (refine ka 17 hst tz24 rfl rfl ?_; clear hst; intro b17 w hb17 hst) | (refine kt hst ta24 rfl rfl ?_; clear hst; intro w hst) | (refine ktm hst ta24 rfl rfl ?_; clear hst; intro w hst) | (refine ka 19 hst tz24 rfl rfl ?_; clear hst; intro b19 w hb19 hst) | (refine ka 20 hst tz24 rfl rfl ?_; clear hst; intro b20 w hb20 hst)); try simp only [pz, pn, sz, sc])
          refine ⟨⟨jj + 1, by omega, by go_num, by rw [hwn.out]; go_num, hst⟩, ?_⟩
          (simp [intOf]; try omega)
        · have hE : ((nm (jj + 1)).toList == T.toList) = false := str_ne (fun e => he (ha.1 e))
          have hwn := Lib.hid (show wantN m (jj + 1) = wantN m jj by unfold wantN; split <;> split <;> omega)
          clear ha
          generalize nm (jj + 1) = nj at *
          generalize wantN m jj = wv at *
          go_wp2_with ((first | (refine wl_guard (by rfl) ?_) | (refine kb 5 hst rfl rfl ?_; clear hst; intro b5 w hb5 hst) | (refine kc hst tc9 rfl ?_) | (refine kl hst ta24 rfl ?_) | (refine klm hst ta24 rfl ?_) | (refine ka 16 hst tz24 rfl rfl ?_; clear hst; intro b16 w hb16 hst) | (refine ka 17 hst tz24 rfl rfl ?_; clear hst; intro b17 w hb17 hst) | (refine kt hst ta24 rfl rfl ?_; clear hst; intro w hst) | (refine ktm hst ta24 rfl rfl ?_; clear hst; intro w hst) | (refine ka 19 hst tz24 rfl rfl ?_; clear hst; intro b19 w hb19 hst) | (refine ka 20 hst tz24 rfl rfl ?_; clear hst; intro b20 w hb20 hst)); try simp only [pz, pn, sz, sc])
          refine ⟨⟨jj + 1, by omega, by go_num, by rw [hwn.out], hst⟩, ?_⟩
          (simp [intOf]; try omega)
      · obtain rfl : jj = 4 := by omega
        have q4 : ¬ ((4 : Nat) : Int) < 4 := by omega
        rw [show wantN m 4 = m by unfold wantN; rw [if_pos hle]]
        by_cases h0 : m = 0
        · subst h0
          obtain rfl : bo = false := by rw [hbo'.out]; rfl
          go_wp2_with ((first | (refine kf gf6 hst (n1) rfl rfl rfl rfl ?_; clear hst; intro w hst) | (refine kf gf7 hst (n2) rfl rfl rfl rfl ?_; clear hst; intro w hst) | (refine kf gf8 hst (n3) rfl rfl rfl rfl ?_; clear hst; intro w hst) | (refine kf gf10 hst (n4) rfl rfl rfl rfl ?_; clear hst; intro w hst) | (refine kf gf11 hst (n5) rfl rfl rfl rfl ?_; clear hst; intro w hst) | (refine kf gf12 hst (haw) rfl rfl rfl rfl ?_; clear hst; intro w hst) | (refine kf gf9 hst (hnm) rfl rfl rfl rfl ?_; clear hst; intro w hst) | (refine wl_guard (by rfl) ?_) | (refine kb 5 hst rfl rfl ?_; clear hst; intro b5 w hb5 hst) | (refine kc hst tc9 rfl ?_) | (refine kl hst ta24 rfl ?_) | (refine klm hst ta24 rfl ?_) | (refine ka 16 hst tz24 rfl rfl ?_; clear hst; intro b16 w hb16 hst) | (refine ka 17 hst tz24 rfl rfl ?_; clear hst; intro b17 w hb17 hst) | (refine kt hst ta24 rfl rfl ?_; clear hst; intro w hst) | (refine ktm hst ta24 rfl rfl ?_; clear hst; intro w hst) | (refine ka 19 hst tz24 rfl rfl ?_; clear hst; intro b19 w hb19 hst) | (refine ka 20 hst tz24 rfl rfl ?_; clear hst; intro b20 w hb20 hst)); try simp only [pz, pn, sz, sc])
          refine bp_t rfl rfl (by rfl) ⟨?_, hst.keeps⟩
          rfl
        · obtain rfl : bo = true := by rw [hbo'.out]; exact decide_eq_true (by omega)
          have p0 : (0 : Int) < (m : Int) := by omega
          go_wp2_with ((first | (refine kf gf6 hst (n1) rfl rfl rfl rfl ?_; clear hst; intro w hst) | (refine kf gf7 hst (n2) rfl rfl rfl rfl ?_; clear hst; intro w hst) | (refine kf gf8 hst (n3) rfl rfl rfl rfl ?_; clear hst; intro w hst) | (refine kf gf10 hst (n4) rfl rfl rfl rfl ?_; clear hst; intro w hst) | (refine kf gf11 hst (n5) rfl rfl rfl rfl ?_; clear hst; intro w hst) | (refine kf gf12 hst (haw) rfl rfl rfl rfl ?_; clear hst; intro w hst) | (refine kf gf9 hst (hnm) rfl rfl rfl rfl ?_; clear hst; intro w hst) | (refine wl_guard (by rfl) ?_) | (refine kb 5 hst rfl rfl ?_; clear hst; intro b5 w hb5 hst) | (refine kc hst tc9 rfl ?_) | (refine kl hst ta24 rfl ?_) | (refine klm hst ta24 rfl ?_) | (refine ka 16 hst tz24 rfl rfl ?_; clear hst; intro b16 w hb16 hst) | (refine ka 17 hst tz24 rfl rfl ?_; clear hst; intro b17 w hb17 hst) | (refine kt hst ta24 rfl rfl ?_; clear hst; intro w hst) | (refine ktm hst ta24 rfl rfl ?_; clear hst; intro w hst) | (refine ka 19 hst tz24 rfl rfl ?_; clear hst; intro b19 w hb19 hst) | (refine ka 20 hst tz24 rfl rfl ?_; clear hst; intro b20 w hb20 hst)); try simp only [pz, pn, sz, sc])
          refine bp_t rfl rfl (by rfl) ⟨?_, hst.keeps⟩
          rfl

end Go.Proofs.YtggchelniblipaaGreatDoor.Rd
