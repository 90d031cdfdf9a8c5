/- What root.rounded answers, in range or not; root.Hypot. -/
import Derived.Test.YtefpoconpeggpaaGreatDoorL31
namespace Go.Proofs.YtefpoconpeggpaaGreatDoor.Rd
open Go Go.RowKit
set_option linter.unusedVariables false
set_option linter.unusedSimpArgs false
set_option maxRecDepth 100000

set_option maxHeartbeats 2000000 in
theorem root_roundedA (bs br : Nat) (hbs : bs ≠ 0) (hbr : br ≠ 0) (c : Array Value) (hc : RomOk c) (q : Nat → Int) (L : List (Nat × Obj)) (hS : SetSt bs br c q L) (k : Nat) (h1 : 1 ≤ k) (h2 : k ≤ 4) (hq1 : 0 ≤ q k) (hq2 : q k ≤ 1000)
    (f : Nat) (f1 : 1 ≤ f) (f4 : f ≤ 4) (m : Nat) (m1 : 1 ≤ m) (m5 : m ≤ 5) (n : Nat) (hn : n < 2 ^ 256) (x : Int) (hx1 : -1000000 ≤ x) (hx2 : x ≤ 1000000) (r : Nat) (hr : isqrt n = r) (hr0 : r ≠ 0) (hb5 : bl r ≤ 511) (hb : fP f < bl r) (more : Bool) (hmore : decide (n - r * r = 0) = !more) (res fl : Nat)
    (hres : rndP f m false x r more = (res, fl)) (w0 : World) (hF : FmtIn w0) (hL : Owns w0 L) :
    GivesZ Tryz.prog 30 #[.pointer (some ⟨bs, 0, none⟩), .int .i64 k, .int .i64 f, .int .i64 m, W n, .int .i64 x] [bs, br] L (fun L' v => v = .tuple #[Wd res, .int .i64 fl, .int .i64 0] ∧ SetSt bs br (romK k n c) (bump k q) L') w0 := by
  refine ⟨fun y hy => by simp only [List.mem_cons, List.not_mem_nil, or_false] at hy; rcases hy with rfl | rfl; exact hS.bs.1; exact hS.bs.2, ?_⟩
  have hst := St.ofOwns [bs, br] hL
  have hk := Lib.hid (fun w (k : Keeps [bs, br] w0 w) => hF.keep k (by simp only [List.mem_cons, List.not_mem_nil, or_false, not_or]; exact ⟨fun e => hbs e.symm, fun e => hbr e.symm⟩))
  have hroot := fun (w : World) (ho : Owns w L) => engine_RootT bs br c hc q L hS k h1 h2 hq1 hq2 n (small_M (by omega)) w ho
  rw [show rootQ n = r by unfold rootQ; rw [if_pos hn]; exact hr, show rootM n = n - r * r by unfold rootM; rw [if_pos hn, hr], show rootE n = 0 from if_pos hn] at hroot
  have hrd := fun w h => pack_Round_all f f1 f4 m m1 m5 false x r hx1 hx2 hb5 hr0 more (fun _ => hb) w h
  rw [hres] at hrd
  dsimp only at hrd
  unfold nbC at hrd
  have y2 : OneC (#[Value.bool false, .int .i64 x] ++ wc 8 r) := nbC_one false x r
  have hM := M_pos
  have hrM : n - r * r < M := Nat.lt_of_le_of_lt (Nat.sub_le _ _) (small_M (by omega))
  clear hS hL hF hc h1 h2 hq1 hq2 hres hr hr0 hb hb5 hn hbs hbr m1 m5 f1 f4
  generalize n - r * r = rm at *
  generalize romK k n c = c' at *
  generalize bump k q = q' at *
  go_enter Tryz.func30, Tryz.ntmps30
  go_wp2_with ((first | (refine kZ (o := ⟨some 22, _, _, _, _, _⟩) (fun L' => (b12, .cells (wc 2 0) 24) :: (b10, .cells (wc 8 n) 44) :: L') gf59 hst (fun w hst => hroot w (hst.owns (L := L) (.there (.there .here)))) rfl rfl rfl rfl ?_; clear hst; intro v22 L' w hR hnew hst; obtain ⟨rfl, hS'⟩ := hR) | (refine kb 10 hst rfl rfl ?_; clear hst; intro b10 w hb10 hst) | (refine ka 12 hst tz24 rfl rfl ?_; clear hst; intro b12 w hb12 hst) | (refine kl hst ta44 rfl ?_) | (refine ka 15 hst tz44 rfl rfl ?_; clear hst; intro b15 w hb15 hst) | (refine ka 16 hst tz44 rfl rfl ?_; clear hst; intro b16 w hb16 hst) | (refine kt hst ta44 rfl rfl ?_; clear hst; intro w hst)); try simp only [pz, pn, sz, sc])
  refine wp_region_T 12  hst (by kernel_rfl) ?_; clear hst; intro w hst; (try simp only [List.length_cons, List.length_nil, Nat.reduceAdd, Array.replicate_succ, Array.replicate_zero, List.push_toArray, List.nil_append, List.cons_append])
  refine r0 0 ?_; simp only [pz, pn, sz, sc, hmore, Bool.not_not]
  refine r0 1 ?_; simp only [pz, pn, sz, sc, hmore, Bool.not_not]
  refine r0 2 ?_; simp only [pz, pn, sz, sc, hmore, Bool.not_not]
  refine r0 6 ?_; simp only [pz, pn, sz, sc, hmore, Bool.not_not]
  refine rl 3 rfl ?_ (by first | exact ylA ta44 | exact ylM ta44); simp only [pz, pn, sz, sc, hmore, Bool.not_not]
  refine r0 4 ?_ (hy := yB (tb46_12 _ _)); simp only [pz, pn, sz, sc, hmore, Bool.not_not]
  refine rl 5 rfl ?_ (by first | exact ylA ta44 | exact ylM ta44); simp only [pz, pn, sz, sc, hmore, Bool.not_not]
  refine r0 7 ?_ (hy := yN tr44 tc22); simp only [pz, pn, sz, sc, hmore, Bool.not_not]
  refine r1 8 ?_; (refine kg gf63 hst (fun w hst => hrd w (hk.out w hst.keeps)) rfl rfl rfl rfl ?_; clear hst; intro w hst); (try simp only [pz, pn, sz, sc, hmore, Bool.not_not]); refine re ?_
  refine r0 9 ?_; simp only [pz, pn, sz, sc, hmore, Bool.not_not]
  refine r0 10 ?_; simp only [pz, pn, sz, sc, hmore, Bool.not_not]
  refine r0 11 ?_; simp only [pz, pn, sz, sc, hmore, Bool.not_not]
  refine r1 12 ?_; (refine kt hst ta24 rfl rfl ?_; clear hst; intro w hst); (try simp only [pz, pn, sz, sc, hmore, Bool.not_not]); refine re ?_
  refine r0 13 ?_; simp only [pz, pn, sz, sc, hmore, Bool.not_not]
  refine r0 14 ?_; simp only [pz, pn, sz, sc, hmore, Bool.not_not]
  refine rd_ ?_
  all_goals
    go_wp2_with fail
    exact bp_ctt rfl rfl (la hst ta24) (by rfl) (by rfl) (PostZ.of hst ⟨rfl, hS'⟩ hnew)

/-- The same, of the nought that is laid at first. -/
def HAz (f : Int) (x y : Nat) (ok : Bool) (X : Array Value) : Prop := ∀ (b8 b11 b15 : Nat) (E8 E11 : TypeId) (w : World), b8 ≠ b15 → b11 ≠ b15 → b8 ≠ b11 → FmtIn w → b15 ≠ 0 →
  w.heap[b8]? = some (.cells #[.int .i64 f] E8) → w.heap[b11]? = some (.cells (wdc y) E11) → w.heap[b15]? = some (.cells #[Value.bool false, .int .i64 0, .int .u64 0, .int .u64 0, .int .u64 0, .int .u64 0, .int .u64 0, .int .u64 0, .int .u64 0, .int .u64 0] 46) →
  GivesT Tryz.prog 42 #[.int .i64 f, Wd x, .func (.func 43) #[] #[.pointer (some ⟨b8, 0, none⟩), .pointer (some ⟨b11, 0, none⟩), .pointer (some ⟨b15, 0, none⟩)]] (.bool ok) [(b15, .cells #[Value.bool false, .int .i64 0, .int .u64 0, .int .u64 0, .int .u64 0, .int .u64 0, .int .u64 0, .int .u64 0, .int .u64 0, .int .u64 0] 46)] [(b15, .cells X 46)] w
theorem HA.z {f : Int} {x y : Nat} {ok : Bool} {X : Array Value} (h : HA f x y ok X) : HAz f x y ok X := by
  unfold HAz
  rw [← nbC_zero]
  exact h

end Go.Proofs.YtefpoconpeggpaaGreatDoor.Rd
