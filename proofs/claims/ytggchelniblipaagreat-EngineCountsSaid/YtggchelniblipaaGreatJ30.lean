/- The law of counts; the statement EngineCounts. -/
import Derived.Test.YtggchelniblipaaGreatJ29
namespace Go.Proofs.YtggchelniblipaaGreat.Rd
open Go Go.RowKit
set_option linter.unusedVariables false
set_option linter.unusedSimpArgs false
set_option maxRecDepth 100000

/-- What an engine's Divide answers, through the interface, in worlds of Z. -/
def DivZ (Z : World → Prop) (bs br : Nat) (c c' : Array Value) (c1 c2 c3 c4 k n d x y : Nat) (e : Int) : Prop := ∃ f z, (∀ w, (callMethod (engA k c1 c2 c3 c4) "Divide" #[W n, W d]).run Tryz.prog w = .ok (.enter f #[z, W n, W d]) w) ∧
    ∀ w q, Z w → Owns w (EngL bs br c c1 c2 c3 c4 q) → GivesT Tryz.prog f #[z, W n, W d] (.tuple #[W x, W y, .int .i64 e]) [(br, .cells c 69)] [(br, .cells c' 69)] w
theorem DivM.z {bs br : Nat} {c c' : Array Value} {c1 c2 c3 c4 k n d x y : Nat} {e : Int} (Z : World → Prop) (h : DivM bs br c c' c1 c2 c3 c4 k n d x y e) : DivZ Z bs br c c' c1 c2 c3 c4 k n d x y e := by
  obtain ⟨f, z, h1, h2⟩ := h
  exact ⟨f, z, h1, fun w q _ hL => h2 w q hL⟩

set_option maxHeartbeats 1000000 in
theorem engine_DivideZ_1 (bs br : Nat) (c c' : Array Value) (c1 c2 c3 c4 : Nat) (q : Nat → Int) (k n d x1 x2 : Nat) (x3 : Int) (Z : World → Prop) (hcl : ∀ w w', Z w → Keeps [bs, br] w w' → Z w') (hD : DivZ Z bs br c c' c1 c2 c3 c4 k n d x1 x2 x3) (b5 b6 : Nat) (h65 : b6 ≠ b5) (hb5 : b5 ∉ keysE bs br c1 c2 c3 c4) (hb6 : b6 ∉ keysE bs br c1 c2 c3 c4) (E5 E6 : TypeId) (w0 : World) (h5 : w0.heap[b5]? = some (.cells (wc 8 n) E5)) (h6 : w0.heap[b6]? = some (.cells (wc 8 d) E6)) (hZ : Z w0) (hL : Owns w0 (EngL bs br c c1 c2 c3 c4 q)) :
    GivesT Tryz.prog 14 #[engA k c1 c2 c3 c4, .pointer (some ⟨b5, 0, none⟩), .pointer (some ⟨b6, 0, none⟩)] (.tuple #[W x1, W x2, .int .i64 x3]) [(br, .cells c 69)] [(br, .cells c' 69)] w0 := by
  have hst := ((St.ofOwns [br] hL).add h5 (by rw [EngL_keys]; exact hb5)).add h6 (by
    rw [List.map_cons, EngL_keys]
    intro h
    rcases List.mem_cons.1 h with h | h
    · exact h65 h
    · exact hb6 h)
  obtain ⟨f, z, hm, hr⟩ := hD
  have hr' := Lib.hid hr
  have hZ' := Lib.hid (fun w (k : Keeps [br] w0 w) => hcl _ _ hZ (k.mono (fun b hb _ => List.Mem.tail _ hb)))
  clear hr hL h5 h6 hb5 hb6 hZ hcl
  generalize engA k c1 c2 c3 c4 = A at *
  unfold EngL at hst
  go_enter Tryz.func14, Tryz.ntmps14
  go_wp2_with ((first | (refine kTI hst (fun w hst => hr'.out w q (hZ'.out w hst.keeps) (hst.owns (L := []) (L' := EngL bs br c c1 c2 c3 c4 q) (X := [_, _, _, _]) (.there (.there (.there (.there .here)))))) hm rfl rfl rfl rfl ?_; clear hst; intro w hst) | (refine ka 4 hst tz25 rfl rfl ?_; clear hst; intro b4 w hb4 hst) | (refine ka 5 hst tz25 rfl rfl ?_; clear hst; intro b5 w hb5 hst) | (refine kl hst ta25 rfl ?_) | (refine klm hst ta25 rfl ?_) | (refine kt hst ta25 rfl rfl ?_; clear hst; intro w hst) | (refine ktm hst ta25 rfl rfl ?_; clear hst; intro w hst)); try simp only [pz, pn, sz, sc])
  refine bp_cct rfl rfl (la hst ta25) (la hst ta25) (by rfl) ⟨?_, hst.keeps, own_one (hst.own _ _ (by simp))⟩
  rfl

set_option maxHeartbeats 1000000 in
theorem engine_DivideZ (bs br : Nat) (c c' : Array Value) (q : Nat → Int) (L : List (Nat × Obj)) (hS : SetSt bs br c q L) (k : Nat) (h1 : 1 ≤ k) (h2 : k ≤ 4) (hq1 : 0 ≤ q k) (hq2 : q k ≤ 1000) (n d x1 x2 : Nat) (x3 : Int) (Z : World → Prop) (hcl : ∀ w w', Z w → Keeps [bs, br] w w' → Z w') (hD : ∀ c1 c2 c3 c4, DivZ Z bs br c c' c1 c2 c3 c4 k n d x1 x2 x3) (w0 : World) (hZ : Z w0) (hL : Owns w0 L) :
    GivesZ Tryz.prog 7 #[.pointer (some ⟨bs, 0, none⟩), .int .i64 k, W n, W d] [bs, br] L (fun L' v => v = .tuple #[W x1, W x2, .int .i64 x3] ∧ ∃ c1 c2 c3 c4, L' = EngL bs br c' c1 c2 c3 c4 (bump k q)) w0 := by
  refine ⟨fun x hx => by simp only [List.mem_cons, List.not_mem_nil, or_false] at hx; rcases hx with rfl | rfl; exact hS.bs.1; exact hS.bs.2, ?_⟩
  have hst := St.ofOwns [bs, br] hL
  have hbs := hS.bs
  have hask := fun (b6 b7 : Nat) (h76 : b7 ≠ b6) (w : World) (h6 : w.heap[b6]? = some (.cells (wc 8 n) 25)) (h7 : w.heap[b7]? = some (.cells (wc 8 d) 25)) (hb6 : b6 ∉ L.map Prod.fst) (hb7 : b7 ∉ L.map Prod.fst) (ho : Owns w L) (hz : Z w) =>
    engine_ask bs br c c' q L hS k h1 h2 hq1 hq2 14 gf14 #[.pointer (some ⟨b6, 0, none⟩), .pointer (some ⟨b7, 0, none⟩)] x1 x2 x3 w ho
      (fun c1 c2 c3 c4 w' kp hk ho' => engine_DivideZ_1 bs br c c' c1 c2 c3 c4 (bump k q) k n d x1 x2 x3 Z hcl (hD c1 c2 c3 c4) b6 b7 h76
        (fun hb => by
          rcases hk b6 hb with h | h
          · exact hb6 h
          · have := lt_of_some h6; omega)
        (fun hb => by
          rcases hk b7 hb with h | h
          · exact hb7 h
          · have := lt_of_some h7; omega) 25 25 w'
        (by
          rw [kp.block b6 (lt_of_some h6) (fun hb => by simp only [List.mem_cons, List.not_mem_nil, or_false] at hb; rcases hb with rfl | rfl; exact hb6 hbs.1; exact hb6 hbs.2)]
          exact h6)
        (by
          rw [kp.block b7 (lt_of_some h7) (fun hb => by simp only [List.mem_cons, List.not_mem_nil, or_false] at hb; rcases hb with rfl | rfl; exact hb7 hbs.1; exact hb7 hbs.2)]
          exact h7) (hcl _ _ hz kp) ho')
  have hZ' := Lib.hid (fun w (k : Keeps [bs, br] w0 w) => hcl _ _ hZ k)
  clear hS hL h1 h2 hq1 hq2 hD hbs hZ hcl
  go_enter Tryz.func7, Tryz.ntmps7
  go_wp2_with ((first | (refine kZ (fun L' => (b9, .cells (wc 8 0) 25) :: (b8, .cells (wc 8 0) 25) :: (b7, .cells (wc 8 d) 25) :: (b6, .cells (wc 8 n) 25) :: L') gf13 hst (fun w hst => hask b6 b7 (by have hnd := hst.nodup; simp only [List.map_cons, List.nodup_cons, List.mem_cons, not_or] at hnd; exact hnd.2.2.1.1) w (hst.own _ _ (by repeat (first | exact List.Mem.head _ | refine List.Mem.tail _ ?_))) (hst.own _ _ (by repeat (first | exact List.Mem.head _ | refine List.Mem.tail _ ?_))) (fun hb => by have hnd := hst.nodup; simp only [List.map_cons, List.nodup_cons] at hnd; exact hnd.2.2.2.1 hb) (fun hb => by have hnd := hst.nodup; simp only [List.map_cons, List.nodup_cons] at hnd; exact hnd.2.2.1 (List.mem_cons_of_mem _ hb)) (hst.owns (L := L) (.there (.there (.there (.there .here))))) (hZ'.out w hst.keeps)) rfl rfl rfl rfl ?_; clear hst; intro v14 L' w hR hnew hst; obtain ⟨rfl, hR⟩ := hR) | (refine kb 6 hst rfl rfl ?_; clear hst; intro b6 w hb6 hst) | (refine kb 7 hst rfl rfl ?_; clear hst; intro b7 w hb7 hst) | (refine ka 8 hst tz25 rfl rfl ?_; clear hst; intro b8 w hb8 hst) | (refine ka 9 hst tz25 rfl rfl ?_; clear hst; intro b9 w hb9 hst) | (refine kt hst ta25 rfl rfl ?_; clear hst; intro w hst) | (refine ktm hst ta25 rfl rfl ?_; clear hst; intro w hst)); try simp only [pz, pn, sz, sc])
  exact bp_cct rfl rfl (la hst ta25) (la hst ta25) (by rfl) (PostZ.of hst ⟨rfl, hR⟩ hnew (.there (.there (.there (.there .here)))))

theorem engine_Divide_no (bs : Nat) (k : Int) (h : k < 1 ∨ 4 < k) (n d : Nat) : Gives Tryz.prog 7 #[.pointer (some ⟨bs, 0, none⟩), .int .i64 k, W n, W d] (.tuple #[W 0, W 0, .int .i64 7]) := by
  intro w0
  have hst := St.start [] w0
  have has := fun f => engine_ask_no bs k h f
  clear h
  go_enter Tryz.func7, Tryz.ntmps7
  go_wp2_with ((first | (refine kf gf13 hst (has _) rfl rfl rfl rfl ?_; clear hst; intro w hst) | (refine kb 6 hst rfl rfl ?_; clear hst; intro b6 w hb6 hst) | (refine kb 7 hst rfl rfl ?_; clear hst; intro b7 w hb7 hst) | (refine ka 8 hst tz25 rfl rfl ?_; clear hst; intro b8 w hb8 hst) | (refine ka 9 hst tz25 rfl rfl ?_; clear hst; intro b9 w hb9 hst) | (refine kt hst ta25 rfl rfl ?_; clear hst; intro w hst) | (refine ktm hst ta25 rfl rfl ?_; clear hst; intro w hst)); try simp only [pz, pn, sz, sc])
  refine bp_cct rfl rfl (la hst ta25) (la hst ta25) (by rfl) ⟨?_, hst.keeps⟩
  rfl

theorem engine_Count_no (bs : Nat) (k : Int) (h : k < 1 ∨ 4 < k) : Gives Tryz.prog 10 #[.pointer (some ⟨bs, 0, none⟩), .int .i64 k] (.int .i64 0) := by
  intro w0
  have hst := St.start [] w0
  have his := engine_is_no k h
  clear h
  go_enter Tryz.func10, Tryz.ntmps10
  go_wp2_with ((first | (refine kf gf16 hst (his) rfl rfl rfl rfl ?_; clear hst; intro w hst) | (refine wl_guard (by rfl) ?_)); try simp only [pz, pn, sz, sc])
  refine bp_t rfl rfl (by rfl) ⟨?_, hst.keeps⟩
  rfl

theorem engine_CountC (bs : Nat) (cs : Array Value) (x : Int) (k : Nat) (h1 : 1 ≤ k) (h2 : k ≤ 4) (hc : cs[9 + k]? = some (.int .i64 x)) (w0 : World) (hb : w0.heap[bs]? = some (.cells cs 60)) :
    GivesAt Tryz.prog 10 #[.pointer (some ⟨bs, 0, none⟩), .int .i64 k] (.int .i64 x) w0 := by
  have hst := (St.start [] w0).add hb (by simp)
  have his := engine_is_yes k (by omega) (by omega)
  have hld := fun w (h : w.heap[bs]? = some (.cells cs 60)) => int64_Load bs (9 + k) x _ 60 (0, 0) hc w h
  have i1 : (0 : Int) ≤ (k : Int) := by omega
  have i2 : (k : Int) < 5 := by omega
  clear hb h1 h2 hc
  go_enter Tryz.func10, Tryz.ntmps10
  go_wp2_with ((first | (refine kf gf16 hst (his) rfl rfl rfl rfl ?_; clear hst; intro w hst) | (refine kg gf17 hst (fun w hst => hld w (hst.own _ _ (by repeat (first | exact List.Mem.head _ | refine List.Mem.tail _ ?_)))) rfl rfl rfl rfl ?_; clear hst; intro w hst) | (refine wl_guard (by rfl) ?_)); try simp only [pz, pn, sz, sc])
  refine bp_t rfl rfl (by rfl) ⟨?_, hst.keeps⟩
  rfl

theorem engine_CountS (bs br : Nat) (c : Array Value) (q : Nat → Int) (L : List (Nat × Obj)) (hS : SetSt bs br c q L) (k : Nat) (h1 : 1 ≤ k) (h2 : k ≤ 4) (w0 : World) (hL : Owns w0 L) :
    GivesAt Tryz.prog 10 #[.pointer (some ⟨bs, 0, none⟩), .int .i64 k] (.int .i64 (q k)) w0 := by
  rcases hS with ⟨rfl, rfl, rfl⟩ | ⟨c1, c2, c3, c4, rfl⟩
  · exact engine_CountC bs _ 0 k h1 h2 (by
      obtain rfl | rfl | rfl | rfl : k = 1 ∨ k = 2 ∨ k = 3 ∨ k = 4 := by omega
      all_goals rfl) w0 (hL.2 bs _ (List.Mem.head _))
  · exact engine_CountC bs _ (q k) k h1 h2 (engR_cnt 0 1 br c1 c2 c3 c4 q k h2) w0 (hL.2 bs _ (List.Mem.head _))

/-- How often a rom's tables were made. -/
def madeC (c : Array Value) : Int := match c[(3 : Nat)]? with | some (Value.int _ z) => z | _ => 0
theorem madeC_C (dn lk mk : Int) (R' T : Nat) : madeC (romC dn lk mk R' T) = mk := by unfold madeC; rw [(romC_get dn lk mk R' T).2.2]
theorem madeC_N : madeC romN = 0 := madeC_C 0 0 0 0 0
theorem madeC_F : madeC romF = 1 := madeC_C 1 0 1 romR romT
theorem madeC_of {c : Array Value} (h : RomOk c) : (c = romC 0 0 0 0 0 ∧ madeC c = 0) ∨ (c = romC 1 0 1 romR romT ∧ madeC c = 1) := by
  rcases h with rfl | rfl
  · exact .inl ⟨rfl, madeC_N⟩
  · exact .inr ⟨rfl, madeC_F⟩

theorem engine_MadeS (bs br : Nat) (c : Array Value) (hc : RomOk c) (q : Nat → Int) (L : List (Nat × Obj)) (hS : SetSt bs br c q L) (w0 : World) (hL : Owns w0 L) :
    GivesAt Tryz.prog 6 #[.pointer (some ⟨bs, 0, none⟩)] (.int .i64 (madeC c)) w0 := by
  have hne : bs ≠ br := by
    have hn := hL.1
    rcases hS with ⟨rfl, rfl, rfl⟩ | ⟨c1, c2, c3, c4, rfl⟩
    · simpa using hn
    · simp only [EngL, List.map_cons, List.nodup_cons, List.mem_cons, not_or] at hn
      exact hn.1.1
  have hset : ∃ cs, w0.heap[bs]? = some (.cells cs 60) ∧ cs[3]? = some (.pointer (some ⟨br, 0, none⟩)) ∧ w0.heap[br]? = some (.cells c 69) := by
    rcases hS with ⟨rfl, rfl, rfl⟩ | ⟨c1, c2, c3, c4, rfl⟩
    · exact ⟨_, hL.2 bs _ (List.Mem.head _), rfl, hL.2 br _ (List.Mem.tail _ (List.Mem.head _))⟩
    · exact ⟨_, hL.2 bs _ (List.Mem.head _), rfl, hL.2 br _ (List.Mem.tail _ (List.Mem.head _))⟩
  obtain ⟨cs, h1, h2, h3⟩ := hset
  rcases madeC_of hc with ⟨rfl, e⟩ | ⟨rfl, e⟩
  · rw [e]; exact engine_Made bs br cs h2 0 0 0 0 0 hne w0 h1 h3
  · rw [e]; exact engine_Made bs br cs h2 1 0 1 romR romT hne w0 h1 h3

end Go.Proofs.YtggchelniblipaaGreat.Rd

namespace Go.Proofs.YtggchelniblipaaGreat.Rd
open Go Go.RowKit
set_option linter.unusedVariables false
set_option linter.unusedSimpArgs false
set_option maxRecDepth 100000

section
variable {P : Program} {ops : Array Oper} {rest : List Oper} {Q : Exit → Act → World → Prop} {a : Act} {w w' w0 : World} {S : List Nat} {L : List (Nat × Obj)}
theorem run_loadCellW {T : TypeId} {b i : Nat} {v : Value} (hT : CellT P T) (hc : w.cell? ⟨b, i, none⟩ = some v) : (Instr.loadAt T (.pointer (some ⟨b, i, none⟩))).run P w = .ok v w := by
  obtain ⟨d, hu, hd, _⟩ := hT
  simp [Instr.loadAt, Instr.sureAddr, loadVar, Sem.run_bind, run_isAgg_no d hu hd w, load, Sem.run, hc]
theorem Keeps.cell (k : Keeps [] w w') {b i : Nat} {v : Value} (h : w.cell? ⟨b, i, none⟩ = some v) : w'.cell? ⟨b, i, none⟩ = some v := by
  have hb : b < w.heap.size := by
    rcases Nat.lt_or_ge b w.heap.size with h' | h'
    · exact h'
    · simp [World.cell?, Array.getElem?_eq_none h'] at h
  have e := k.block b hb (by simp)
  unfold World.cell? at *
  simp only at *
  rw [e]; exact h
/-- A load of one cell that the world is known to hold. -/
theorem kcw {o : Oper} {T : TypeId} {x : Operand} {b i : Nat} {v : Value} (hst : St w0 S L w) (hT : CellT P T) (hc : ∀ w, St w0 S L w → w.cell? ⟨b, i, none⟩ = some v) (ho : o.op = .load T x) (h : wpList P ops Q rest (a.put o.dst v) w)
    (hx : a.eval x = .pointer (some ⟨b, i, none⟩) := by rfl) (hg : o.guard = none := by rfl) : wpList P ops Q (o :: rest) a w := by
  refine wpList_plain hg fun K hK => ?_
  unfold Oper.wp execOp
  simp only [ho, hx, Sem.run_bind, run_loadCellW hT (hc w hst), Sem.run_pure, Result.andThen_ok]
  exact hK _ _ h
theorem run_opLoadW {o : Oper} {T : TypeId} {x : Operand} {b i : Nat} {v : Value} (hk : Keeps [] w0 w) (hT : CellT P T) (ho : o.op = .load T x) (hx : a.eval x = .pointer (some ⟨b, i, none⟩)) (hc : w0.cell? ⟨b, i, none⟩ = some v) :
    (execOp a.eval o).run P w = .ok (.value v) w := by
  unfold execOp
  simp only [ho, hx, Sem.run_bind, run_loadCellW hT (hk.cell hc), Sem.run_pure, Result.andThen_ok]
end

theorem GivesZ.mono {P : Program} {f : FuncId} {args : Array Value} {S' : List Nat} {L : List (Nat × Obj)} {R R' : List (Nat × Obj) → Value → Prop} {w : World} (h : GivesZ P f args S' L R w) (hR : ∀ L' v, R L' v → R' L' v) : GivesZ P f args S' L R' w :=
  ⟨h.1, h.2.mono fun e w' hh => by
    obtain ⟨v, h1, h2, L', h3, h4⟩ := hh
    exact ⟨v, h1, h2, L', hR _ _ h3, h4⟩⟩

/-- The rom behind a quotient by an engine. -/
def romV (k n d : Nat) (c : Array Value) : Array Value := if k < 3 then c else romD n d c
theorem romV_ok {k n d : Nat} {c : Array Value} (h : RomOk c) : RomOk (romV k n d c) := by unfold romV; split; exact h; exact romD_ok h

/-- The table's variable, in a world. -/
def TabIn (tc : Array Value) (w : World) : Prop := w.heap[0]? = some (.cells tc 212)
theorem TabIn.keep {tc : Array Value} {S : List Nat} (hS : 0 ∉ S) (w w' : World) (h : TabIn tc w) (k : Keeps S w w') : TabIn tc w' := by
  unfold TabIn at *
  rw [k.block _ (lt_of_some h) hS]; exact h

theorem div_signed (tc : Array Value) (htc : TabOk tc) (bs br : Nat) (c : Array Value) (c1 c2 c3 c4 n d : Nat) (hn : n < M) (hd : d < M) : DivZ (TabIn tc) bs br c c c1 c2 c3 c4 2 n d (srtQ tc n d) (srtR tc n d) (mayE n d : Nat) := by
  refine ⟨111, .agg #[], fun w => by unfold engA eA2; kernel_rfl, fun w q hz hL => ?_⟩
  have hb := own_one (hL.2 br _ (List.Mem.tail _ (List.Mem.head _)))
  refine (signed_Divide tc htc n d hn hd w hz).mono fun e w' hh => ?_
  obtain ⟨h1, k⟩ := hh
  exact ⟨h1, k.mono (by simp), fun b o hm => by rw [k.block b (lt_of_some (hb b o hm)) (by simp)]; exact hb b o hm⟩

/-- What the set's Divide answers, whichever engine is asked. -/
theorem engine_DivideAll (tc : Array Value) (htc : TabOk tc) (bs br : Nat) (hs : bs ≠ 0) (hr : br ≠ 0) (c : Array Value) (hc : RomOk c) (q : Nat → Int) (L : List (Nat × Obj)) (hS : SetSt bs br c q L) (k : Nat) (h1 : 1 ≤ k) (h2 : k ≤ 4) (hq1 : 0 ≤ q k) (hq2 : q k ≤ 1000) (n d : Nat) (hn : n < M) (hd : d < M) :
    ∃ x1 x2, ∀ w0, TabIn tc w0 → Owns w0 L → GivesZ Tryz.prog 7 #[.pointer (some ⟨bs, 0, none⟩), .int .i64 k, W n, W d] [bs, br] L (fun L' v => v = .tuple #[W x1, W x2, .int .i64 (mayE n d : Nat)] ∧ SetSt bs br (romV k n d c) (bump k q) L') w0 := by
  have hcl : ∀ w w', TabIn tc w → Keeps [bs, br] w w' → TabIn tc w' := fun w w' h k => TabIn.keep (by simp only [List.mem_cons, List.not_mem_nil, or_false, not_or]; exact ⟨fun e => hs e.symm, fun e => hr e.symm⟩) w w' h k
  have key : ∀ x1 x2, (∀ c1 c2 c3 c4, DivZ (TabIn tc) bs br c (romV k n d c) c1 c2 c3 c4 k n d x1 x2 (mayE n d : Nat)) → ∃ x1 x2, ∀ w0, TabIn tc w0 → Owns w0 L → GivesZ Tryz.prog 7 #[.pointer (some ⟨bs, 0, none⟩), .int .i64 k, W n, W d] [bs, br] L (fun L' v => v = .tuple #[W x1, W x2, .int .i64 (mayE n d : Nat)] ∧ SetSt bs br (romV k n d c) (bump k q) L') w0 := fun x1 x2 hD =>
    ⟨x1, x2, fun w0 hz hL => (engine_DivideZ bs br c (romV k n d c) q L hS k h1 h2 hq1 hq2 n d x1 x2 _ (TabIn tc) hcl hD w0 hz hL).mono fun L' v ⟨e, c1, c2, c3, c4, e2⟩ => ⟨e, .inr ⟨c1, c2, c3, c4, e2⟩⟩⟩
  obtain rfl | rfl | rfl | rfl : k = 1 ∨ k = 2 ∨ k = 3 ∨ k = 4 := by omega
  · exact key _ _ fun c1 c2 c3 c4 => (div_restoring bs br c c1 c2 c3 c4 n d hn hd).z _
  · exact key _ _ fun c1 c2 c3 c4 => div_signed tc htc bs br c c1 c2 c3 c4 n d hn hd
  · exact key _ _ fun c1 c2 c3 c4 => (div_newton bs br c hc c1 c2 c3 c4 n d hn hd).z _
  · exact key _ _ fun c1 c2 c3 c4 => (div_gold bs br c hc c1 c2 c3 c4 n d hn hd).z _

theorem engine_RootS (bs br : Nat) (c : Array Value) (hc : RomOk c) (q : Nat → Int) (L : List (Nat × Obj)) (hS : SetSt bs br c q L) (k : Nat) (h1 : 1 ≤ k) (h2 : k ≤ 4) (hq1 : 0 ≤ q k) (hq2 : q k ≤ 1000) (n : Nat) (hn : n < M) (w0 : World) (hL : Owns w0 L) :
    GivesZ Tryz.prog 8 #[.pointer (some ⟨bs, 0, none⟩), .int .i64 k, W n] [bs, br] L (fun L' v => v = .tuple #[W (rootQ n), W (rootM n), .int .i64 (rootE n)] ∧ SetSt bs br (romK k n c) (bump k q) L') w0 :=
  (engine_Root bs br c hc q L hS k h1 h2 hq1 hq2 n hn w0 hL).mono fun L' v ⟨e, c1, c2, c3, c4, e2⟩ => ⟨e, .inr ⟨c1, c2, c3, c4, e2⟩⟩

/-- The cells of the law's counts. -/
def cntC (q : Nat → Int) : Array Value := #[.int .i64 (q 0), .int .i64 (q 1), .int .i64 (q 2), .int .i64 (q 3), .int .i64 (q 4)]
theorem cntC_get (q : Nat → Int) (k : Nat) (h : k ≤ 4) : (cntC q)[k]? = some (.int .i64 (q k)) := by
  obtain rfl | rfl | rfl | rfl | rfl : k = 0 ∨ k = 1 ∨ k = 2 ∨ k = 3 ∨ k = 4 := by omega
  all_goals rfl
theorem cntC_set (q : Nat → Int) (k : Nat) (h : k ≤ 4) : (cntC q).setIfInBounds k (.int .i64 (q k + 1)) = cntC (bump k q) := by
  obtain rfl | rfl | rfl | rfl | rfl : k = 0 ∨ k = 1 ∨ k = 2 ∨ k = 3 ∨ k = 4 := by omega
  all_goals rfl

/-- What the loop keeps: the rom, the counts, the set's blocks, whether one guessed. -/
structure CntI (bs br k : Nat) (g : Int) (c : Array Value) (q : Nat → Int) (L : List (Nat × Obj)) : Prop where
  gs : (g = 0 ∨ g = 1) ∧ g ≤ madeC c ∧ madeC c ≤ 1
  ok : RomOk c
  q0 : q 0 = 0
  qs : ∀ i, 0 ≤ q i ∧ q i ≤ k
  made : q 3 + q 4 = 0 → madeC c = 0
  set : SetSt bs br c q L

theorem CntI.start (bs br : Nat) (L : List (Nat × Obj)) (h : SetNew bs br L) : CntI bs br 0 0 romN (fun _ => 0) L where
  gs := ⟨.inl rfl, by rw [madeC_N]; omega, by rw [madeC_N]; omega⟩
  ok := romN_ok
  q0 := rfl
  qs := fun i => ⟨Int.le_refl _, Int.le_refl _⟩
  made := fun _ => madeC_N
  set := .inl ⟨h, rfl, rfl⟩
theorem madeC_in {c : Array Value} (h : RomOk c) : 0 ≤ madeC c ∧ madeC c ≤ 1 := by rcases madeC_of h with ⟨_, e⟩ | ⟨_, e⟩ <;> omega
/-- A round in which no engine is asked. -/
theorem CntI.no {bs br k : Nat} {g : Int} {c : Array Value} {q : Nat → Int} {L : List (Nat × Obj)} (h : CntI bs br k g c q L) : CntI bs br (k + 1) g c q L where
  gs := h.gs
  ok := h.ok
  q0 := h.q0
  qs := fun i => ⟨(h.qs i).1, by have := (h.qs i).2; omega⟩
  made := h.made
  set := h.set
/-- A round in which engine j is asked: the rom is as it was, or full. -/
theorem CntI.yes {bs br k : Nat} {g g' : Int} {c c' : Array Value} {q : Nat → Int} {L L' : List (Nat × Obj)} (h : CntI bs br k g c q L) (j : Nat) (h1 : 1 ≤ j) (h2 : j ≤ 4) (hS : SetSt bs br c' (bump j q) L')
    (hc : c' = c ∨ (c' = romF ∧ 3 ≤ j)) (hg : g' = g ∨ (g' = 1 ∧ c' = romF)) : CntI bs br (k + 1) g' c' (bump j q) L' where
  gs := by
    obtain ⟨a1, a2, a3⟩ := h.gs
    rcases hc with rfl | ⟨rfl, _⟩
    · rcases hg with rfl | ⟨rfl, rfl⟩
      · exact h.gs
      · rw [madeC_F]; omega
    · rw [madeC_F]
      rcases hg with rfl | ⟨rfl, _⟩ <;> omega
  ok := by
    rcases hc with rfl | ⟨rfl, _⟩
    · exact h.ok
    · exact romF_ok
  q0 := by unfold bump; rw [if_neg (by omega)]; exact h.q0
  qs := fun i => by
    have := h.qs i
    unfold bump
    split <;> omega
  made := fun hm => by
    have q3 := h.qs 3
    have q4 := h.qs 4
    unfold bump at hm
    rcases hc with rfl | ⟨_, h3⟩
    · refine h.made ?_
      split at hm <;> split at hm <;> omega
    · exfalso
      split at hm <;> split at hm <;> omega
  set := hS

end Go.Proofs.YtggchelniblipaaGreat.Rd
