/- What root.rounded answers, in range or not; root.Hypot. -/
import Derived.Test.YtefpoconpeggpaaGreatDoorJ35
namespace Go.Proofs.YtefpoconpeggpaaGreatDoor.Rd
open Go Go.RowKit
set_option linter.unusedVariables false
set_option linter.unusedSimpArgs false
set_option maxRecDepth 100000

set_option maxHeartbeats 2000000 in
theorem root_roundedA (bs br : Nat) (hbs : bs ≠ 0) (hbr : br ≠ 0) (c : Array Value) (hc : RomOk c) (q : Nat → Int) (L : List (Nat × Obj)) (hS : SetSt bs br c q L) (k : Nat) (h1 : 1 ≤ k) (h2 : k ≤ 4) (hq1 : 0 ≤ q k) (hq2 : q k ≤ 1000)
    (f : Nat) (f1 : 1 ≤ f) (f4 : f ≤ 4) (m : Nat) (m1 : 1 ≤ m) (m5 : m ≤ 5) (n : Nat) (hn : n < 2 ^ 256) (x : Int) (hx1 : -1000000 ≤ x) (hx2 : x ≤ 1000000) (r : Nat) (hr : isqrt n = r) (hr0 : r ≠ 0) (hb5 : bl r ≤ 511) (hb : fP f < bl r) (more : Bool) (hmore : decide (n - r * r = 0) = !more) (res fl : Nat)
    (hres : rndP f m false x r more = (res, fl)) (w0 : World) (hF : FmtIn w0) (hL : Owns w0 L) :
    GivesZ Tryz.prog 30 #[.pointer (some ⟨bs, 0, none⟩), .int .i64 k, .int .i64 f, .int .i64 m, W n, .int .i64 x] [bs, br] L (fun L' v => v = .tuple #[Wd res, .int .i64 fl, .int .i64 0] ∧ SetSt bs br (romK k n c) (bump k q) L') w0 := by
  refine ⟨fun y hy => by simp only [List.mem_cons, List.not_mem_nil, or_false] at hy; rcases hy with rfl | rfl; exact hS.bs.1; exact hS.bs.2, ?_⟩
  have hst := St.ofOwns [bs, br] hL
  have hk := Lib.hid (fun w (k : Keeps [bs, br] w0 w) => hF.keep k (by simp only [List.mem_cons, List.not_mem_nil, or_false, not_or]; exact ⟨fun e => hbs e.symm, fun e => hbr e.symm⟩))
  have hroot := fun (w : World) (ho : Owns w L) => engine_RootT bs br c hc q L hS k h1 h2 hq1 hq2 n (small_M (by omega)) w ho
  rw [show rootQ n = r by unfold rootQ; rw [if_pos hn]; exact hr, show rootM n = n - r * r by unfold rootM; rw [if_pos hn, hr], show rootE n = 0 from if_pos hn] at hroot
  have hrd := fun w h => pack_Round_all f f1 f4 m m1 m5 false x r hx1 hx2 hb5 hr0 more (fun _ => hb) w h
  rw [hres] at hrd
  dsimp only at hrd
  unfold nbC at hrd
  have y2 : OneC (#[Value.bool false, .int .i64 x] ++ wc 8 r) := nbC_one false x r
  have hM := M_pos
  have hrM : n - r * r < M := Nat.lt_of_le_of_lt (Nat.sub_le _ _) (small_M (by omega))
  clear hS hL hF hc h1 h2 hq1 hq2 hres hr hr0 hb hb5 hn hbs hbr m1 m5 f1 f4
  generalize n - r * r = rm at *
  generalize romK k n c = c' at *
  generalize bump k q = q' at *
  go_enter Tryz.func30, Tryz.ntmps30
  go_wp2_with ((first | (refine kZ (o := ⟨some 22, _, _, _, _, _⟩) (fun L' => (b12, .cells (wc 2 0) 24) :: (b10, .cells (wc 8 n) 44) :: L') gf59 hst (fun w hst => hroot w (hst.owns (L := L) (.there (.there .here)))) rfl rfl rfl rfl ?_; clear hst; intro v22 L' w hR hnew hst; obtain ⟨rfl, hS'⟩ := hR) | (refine kb 10 hst rfl rfl ?_; clear hst; intro b10 w hb10 hst) | (refine ka 12 hst tz24 rfl rfl ?_; clear hst; intro b12 w hb12 hst) | (refine kl hst ta44 rfl ?_) | (refine ka 15 hst tz44 rfl rfl ?_; clear hst; intro b15 w hb15 hst) | (refine ka 16 hst tz44 rfl rfl ?_; clear hst; intro b16 w hb16 hst) | (refine kt hst ta44 rfl rfl ?_; clear hst; intro w hst)); try simp only [pz, pn, sz, sc])
  refine wp_region_T 12  hst (by kernel_rfl) ?_; clear hst; intro w hst; (try simp only [List.length_cons, List.length_nil, Nat.reduceAdd, Array.replicate_succ, Array.replicate_zero, List.push_toArray, List.nil_append, List.cons_append])
  refine r0 0 ?_; simp only [pz, pn, sz, sc, hmore, Bool.not_not]
  refine r0 1 ?_; simp only [pz, pn, sz, sc, hmore, Bool.not_not]
  refine r0 2 ?_; simp only [pz, pn, sz, sc, hmore, Bool.not_not]
  refine r0 6 ?_; simp only [pz, pn, sz, sc, hmore, Bool.not_not]
  refine rl 3 rfl ?_ (by first | exact ylA ta44 | exact ylM ta44); simp only [pz, pn, sz, sc, hmore, Bool.not_not]
  refine r0 4 ?_ (hy := yB (tb46_12 _ _)); simp only [pz, pn, sz, sc, hmore, Bool.not_not]
  refine rl 5 rfl ?_ (by first | exact ylA ta44 | exact ylM ta44); simp only [pz, pn, sz, sc, hmore, Bool.not_not]
  refine r0 7 ?_ (hy := yN tr44 tc22); simp only [pz, pn, sz, sc, hmore, Bool.not_not]
  refine r1 8 ?_; (refine kg gf63 hst (fun w hst => hrd w (hk.out w hst.keeps)) rfl rfl rfl rfl ?_; clear hst; intro w hst); (try simp only [pz, pn, sz, sc, hmore, Bool.not_not]); refine re ?_
  refine r0 9 ?_; simp only [pz, pn, sz, sc, hmore, Bool.not_not]
  refine r0 10 ?_; simp only [pz, pn, sz, sc, hmore, Bool.not_not]
  refine r0 11 ?_; simp only [pz, pn, sz, sc, hmore, Bool.not_not]
  refine r1 12 ?_; (refine kt hst ta24 rfl rfl ?_; clear hst; intro w hst); (try simp only [pz, pn, sz, sc, hmore, Bool.not_not]); refine re ?_
  refine r0 13 ?_; simp only [pz, pn, sz, sc, hmore, Bool.not_not]
  refine r0 14 ?_; simp only [pz, pn, sz, sc, hmore, Bool.not_not]
  refine rd_ ?_
  all_goals
    go_wp2_with fail
    exact bp_ctt rfl rfl (la hst ta24) (by rfl) (by rfl) (PostZ.of hst ⟨rfl, hS'⟩ hnew)

/-- The same, of the nought that is laid at first. -/
def HAz (f : Int) (x y : Nat) (ok : Bool) (X : Array Value) : Prop := ∀ (b8 b11 b15 : Nat) (E8 E11 : TypeId) (w : World), b8 ≠ b15 → b11 ≠ b15 → b8 ≠ b11 → FmtIn w → b15 ≠ 0 →
  w.heap[b8]? = some (.cells #[.int .i64 f] E8) → w.heap[b11]? = some (.cells (wdc y) E11) → w.heap[b15]? = some (.cells #[Value.bool false, .int .i64 0, .int .u64 0, .int .u64 0, .int .u64 0, .int .u64 0, .int .u64 0, .int .u64 0, .int .u64 0, .int .u64 0] 46) →
  GivesT Tryz.prog 42 #[.int .i64 f, Wd x, .func (.func 43) #[] #[.pointer (some ⟨b8, 0, none⟩), .pointer (some ⟨b11, 0, none⟩), .pointer (some ⟨b15, 0, none⟩)]] (.bool ok) [(b15, .cells #[Value.bool false, .int .i64 0, .int .u64 0, .int .u64 0, .int .u64 0, .int .u64 0, .int .u64 0, .int .u64 0, .int .u64 0, .int .u64 0] 46)] [(b15, .cells X 46)] w
theorem HA.z {f : Int} {x y : Nat} {ok : Bool} {X : Array Value} (h : HA f x y ok X) : HAz f x y ok X := by
  unfold HAz
  rw [← nbC_zero]
  exact h

set_option maxHeartbeats 2000000 in
theorem root_Hypot_none (bs : Nat) (k : Int) (h : k < 1 ∨ 4 < k) (f m : Int) (x y : Nat) (ok : Bool) (ex : Int) (sg : Nat) (hsM : sg < M) (hA : HA f x y ok (nbC false ex sg)) (w0 : World) (hF : FmtIn w0) :
    GivesAt Tryz.prog 19 #[.pointer (some ⟨bs, 0, none⟩), .int .i64 k, .int .i64 f, .int .i64 m, Wd x, Wd y] (.tuple #[Wd 0, .int .i64 0, .int .i64 7]) w0 := by
  have hst := St.start [] w0
  have hk := Lib.hid (fun w (k : Keeps [] w0 w) => hF.keep k (by simp))
  have hkn := hF.lt
  have hab := Lib.hid hA.z
  have hmay := fun ok => root_may_none bs k h m ok
  have hpt : Part (nbC false ex sg) (wc 8 sg) (nbC false ex sg) (wc 8 sg) 2 := part1 2 _ _ _ rfl rfl
  have hM := M_pos
  have hW : Wd 0 = .agg #[.int .u64 0, .int .u64 0] := Wd_zero
  have hW' := Lib.hid hW
  clear hF hA h hW
  generalize nbC false ex sg = cX at *
  cases ok
  · have hmay0 := hmay false
    clear hmay
    go_enter Tryz.func19, Tryz.ntmps19
    go_wp2_with ((first | (refine kT gf42 hst (fun w hst => hab.out b8 b11 b15 _ _ w (by have q := hst.nodup; simp only [List.map_cons, List.map_nil, List.nodup_cons, List.mem_cons, List.not_mem_nil, or_false, not_or] at q; omega) (by have q := hst.nodup; simp only [List.map_cons, List.map_nil, List.nodup_cons, List.mem_cons, List.not_mem_nil, or_false, not_or] at q; omega) (by have q := hst.nodup; simp only [List.map_cons, List.map_nil, List.nodup_cons, List.mem_cons, List.not_mem_nil, or_false, not_or] at q; omega) (hk.out w hst.keeps) (by omega) (hst.own _ _ (by repeat (first | exact List.Mem.head _ | refine List.Mem.tail _ ?_))) (hst.own _ _ (by repeat (first | exact List.Mem.head _ | refine List.Mem.tail _ ?_))) (hst.own _ _ (by repeat (first | exact List.Mem.head _ | refine List.Mem.tail _ ?_)))) rfl rfl rfl rfl ?_; clear hst; intro w hst) | (refine kf gf29 hst (hmay0) rfl rfl rfl rfl ?_; clear hst; intro w hst) | (refine kb 8 hst rfl rfl ?_; clear hst; intro b8 w hb8 hst) | (refine kb 10 hst rfl rfl ?_; clear hst; intro b10 w hb10 hst) | (refine kb 11 hst rfl rfl ?_; clear hst; intro b11 w hb11 hst) | (refine ka 12 hst tz24 rfl rfl ?_; clear hst; intro b12 w hb12 hst) | (refine ka 15 hst tz46 rfl rfl ?_; clear hst; intro b15 w hb15 hst) | (refine kc hst tc3 rfl ?_) | (refine kl hst ta24 rfl ?_) | (refine kt hst ta24 rfl rfl ?_; clear hst; intro w hst)); try simp only [pz, pn, sz, sc])
    refine bp_ctt rfl rfl (la hst ta24) (by rfl) (by rfl) ⟨?_, hst.keeps⟩
    rw [hW'.out]; rfl
  · have hmay0 := hmay (!decide (sg = 0))
    clear hmay
    go_enter Tryz.func19, Tryz.ntmps19
    go_wp2_with ((first | (refine kT gf42 hst (fun w hst => hab.out b8 b11 b15 _ _ w (by have q := hst.nodup; simp only [List.map_cons, List.map_nil, List.nodup_cons, List.mem_cons, List.not_mem_nil, or_false, not_or] at q; omega) (by have q := hst.nodup; simp only [List.map_cons, List.map_nil, List.nodup_cons, List.mem_cons, List.not_mem_nil, or_false, not_or] at q; omega) (by have q := hst.nodup; simp only [List.map_cons, List.map_nil, List.nodup_cons, List.mem_cons, List.not_mem_nil, or_false, not_or] at q; omega) (hk.out w hst.keeps) (by omega) (hst.own _ _ (by repeat (first | exact List.Mem.head _ | refine List.Mem.tail _ ?_))) (hst.own _ _ (by repeat (first | exact List.Mem.head _ | refine List.Mem.tail _ ?_))) (hst.own _ _ (by repeat (first | exact List.Mem.head _ | refine List.Mem.tail _ ?_)))) rfl rfl rfl rfl ?_; clear hst; intro w hst) | (refine klm hst ta44 rfl ?_ (hc := hpt)) | (refine kf gf29 hst (hmay0) rfl rfl rfl rfl ?_; clear hst; intro w hst) | (refine wl_guard (by rfl) ?_) | (refine kb 8 hst rfl rfl ?_; clear hst; intro b8 w hb8 hst) | (refine kb 10 hst rfl rfl ?_; clear hst; intro b10 w hb10 hst) | (refine kb 11 hst rfl rfl ?_; clear hst; intro b11 w hb11 hst) | (refine ka 12 hst tz24 rfl rfl ?_; clear hst; intro b12 w hb12 hst) | (refine ka 15 hst tz46 rfl rfl ?_; clear hst; intro b15 w hb15 hst) | (refine kc hst tc3 rfl ?_) | (refine kl hst ta24 rfl ?_) | (refine kn tr44 tc22 rfl ?_) | (refine kt hst ta24 rfl rfl ?_; clear hst; intro w hst)); try simp only [pz, pn, sz, sc])
    refine bp_ctt rfl rfl (la hst ta24) (by rfl) (by rfl) ⟨?_, hst.keeps⟩
    rw [hW'.out]; rfl

set_option maxHeartbeats 4000000 in
theorem root_Hypot_arg (bs br : Nat) (hbs : bs ≠ 0) (c : Array Value) (q : Nat → Int) (L : List (Nat × Obj)) (hS : SetSt bs br c q L) (k : Nat) (h1 : 1 ≤ k) (h2 : k ≤ 4) (f m : Int) (x y : Nat) (ok : Bool) (ex : Int) (sg : Nat) (hsM : sg < M) (hA : HA f x y ok (nbC false ex sg)) (h : (m < 1 ∨ 5 < m) ∨ ok = false ∨ sg = 0) (w0 : World) (hF : FmtIn w0) (hL : Owns w0 L) :
    GivesZ Tryz.prog 19 #[.pointer (some ⟨bs, 0, none⟩), .int .i64 k, .int .i64 f, .int .i64 m, Wd x, Wd y] [bs] L (fun L' v => v = .tuple #[Wd 0, .int .i64 0, .int .i64 1] ∧ SetSt bs br c q L') w0 := by
  refine ⟨fun x hx => by rw [List.mem_singleton.1 hx]; exact hS.bs.1, ?_⟩
  have hst := St.ofOwns [bs] hL
  have hk := Lib.hid (fun w (k : Keeps [bs] w0 w) => hF.keep k (by simp only [List.mem_singleton]; exact fun e => hbs e.symm))
  have hkn := hF.lt
  have hab := Lib.hid hA.z
  have hmay0 := fun ok' (h' : (m < 1 ∨ 5 < m) ∨ ok' = false) (w : World) (ho : Owns w L) => root_may_arg bs br c q L hS k h1 h2 m ok' h' w ho
  have hpt : Part (nbC false ex sg) (wc 8 sg) (nbC false ex sg) (wc 8 sg) 2 := part1 2 _ _ _ rfl rfl
  have hM := M_pos
  have hW : Wd 0 = .agg #[.int .u64 0, .int .u64 0] := Wd_zero
  have hW' := Lib.hid hW
  clear hF hA hW hS hL h1 h2 hbs
  generalize nbC false ex sg = cX at *
  cases ok
  · have hmay := hmay0 false (.inr rfl)
    clear hmay0 h
    go_enter Tryz.func19, Tryz.ntmps19
    go_wp2_with ((first | (refine kT gf42 hst (fun w hst => hab.out b8 b11 b15 _ _ w (by have q := hst.nodup; simp only [List.map_cons, List.map_nil, List.nodup_cons, List.mem_cons, List.not_mem_nil, or_false, not_or] at q; omega) (by have q := hst.nodup; simp only [List.map_cons, List.map_nil, List.nodup_cons, List.mem_cons, List.not_mem_nil, or_false, not_or] at q; omega) (by have q := hst.nodup; simp only [List.map_cons, List.map_nil, List.nodup_cons, List.mem_cons, List.not_mem_nil, or_false, not_or] at q; omega) (hk.out w hst.keeps) (by omega) (hst.own _ _ (by repeat (first | exact List.Mem.head _ | refine List.Mem.tail _ ?_))) (hst.own _ _ (by repeat (first | exact List.Mem.head _ | refine List.Mem.tail _ ?_))) (hst.own _ _ (by repeat (first | exact List.Mem.head _ | refine List.Mem.tail _ ?_)))) rfl rfl rfl rfl ?_; clear hst; intro w hst) | (refine kZ (o := ⟨some 35, _, _, _, _, _⟩) (fun L' => (b15, .cells cX 46) :: (b12, .cells (wc 2 0) 24) :: (b11, .cells (wdc y) 24) :: (b10, .cells (wdc x) 24) :: (b8, .cells #[.int .i64 f] 3) :: L') gf29 hst (fun w hst => hmay w (hst.owns (L := L) (.there (.there (.there (.there (.there .here))))))) rfl rfl rfl rfl ?_; clear hst; intro v35 L1 w hR1 hnew1 hst; obtain ⟨rfl, hS1⟩ := hR1) | (refine kb 8 hst rfl rfl ?_; clear hst; intro b8 w hb8 hst) | (refine kb 10 hst rfl rfl ?_; clear hst; intro b10 w hb10 hst) | (refine kb 11 hst rfl rfl ?_; clear hst; intro b11 w hb11 hst) | (refine ka 12 hst tz24 rfl rfl ?_; clear hst; intro b12 w hb12 hst) | (refine ka 15 hst tz46 rfl rfl ?_; clear hst; intro b15 w hb15 hst) | (refine kc hst tc3 rfl ?_) | (refine kl hst ta24 rfl ?_) | (refine kt hst ta24 rfl rfl ?_; clear hst; intro w hst)); try simp only [pz, pn, sz, sc])
    exact bp_ctt rfl rfl (la hst ta24) (by rfl) (by rfl) (PostZ.of hst ⟨by rw [hW'.out]; rfl, hS1⟩ hnew1)
  · have hmay := hmay0 (!decide (sg = 0)) (by
      rcases h with h | h | h
      · exact .inl h
      · cases h
      · exact .inr (by simp [h]))
    clear hmay0 h
    go_enter Tryz.func19, Tryz.ntmps19
    go_wp2_with ((first | (refine kT gf42 hst (fun w hst => hab.out b8 b11 b15 _ _ w (by have q := hst.nodup; simp only [List.map_cons, List.map_nil, List.nodup_cons, List.mem_cons, List.not_mem_nil, or_false, not_or] at q; omega) (by have q := hst.nodup; simp only [List.map_cons, List.map_nil, List.nodup_cons, List.mem_cons, List.not_mem_nil, or_false, not_or] at q; omega) (by have q := hst.nodup; simp only [List.map_cons, List.map_nil, List.nodup_cons, List.mem_cons, List.not_mem_nil, or_false, not_or] at q; omega) (hk.out w hst.keeps) (by omega) (hst.own _ _ (by repeat (first | exact List.Mem.head _ | refine List.Mem.tail _ ?_))) (hst.own _ _ (by repeat (first | exact List.Mem.head _ | refine List.Mem.tail _ ?_))) (hst.own _ _ (by repeat (first | exact List.Mem.head _ | refine List.Mem.tail _ ?_)))) rfl rfl rfl rfl ?_; clear hst; intro w hst) | (refine klm hst ta44 rfl ?_ (hc := hpt)) | (refine kZ (o := ⟨some 35, _, _, _, _, _⟩) (fun L' => (b15, .cells cX 46) :: (b12, .cells (wc 2 0) 24) :: (b11, .cells (wdc y) 24) :: (b10, .cells (wdc x) 24) :: (b8, .cells #[.int .i64 f] 3) :: L') gf29 hst (fun w hst => hmay w (hst.owns (L := L) (.there (.there (.there (.there (.there .here))))))) rfl rfl rfl rfl ?_; clear hst; intro v35 L1 w hR1 hnew1 hst; obtain ⟨rfl, hS1⟩ := hR1) | (refine wl_guard (by rfl) ?_) | (refine kb 8 hst rfl rfl ?_; clear hst; intro b8 w hb8 hst) | (refine kb 10 hst rfl rfl ?_; clear hst; intro b10 w hb10 hst) | (refine kb 11 hst rfl rfl ?_; clear hst; intro b11 w hb11 hst) | (refine ka 12 hst tz24 rfl rfl ?_; clear hst; intro b12 w hb12 hst) | (refine ka 15 hst tz46 rfl rfl ?_; clear hst; intro b15 w hb15 hst) | (refine kc hst tc3 rfl ?_) | (refine kl hst ta24 rfl ?_) | (refine kn tr44 tc22 rfl ?_) | (refine kt hst ta24 rfl rfl ?_; clear hst; intro w hst)); try simp only [pz, pn, sz, sc])
    exact bp_ctt rfl rfl (la hst ta24) (by rfl) (by rfl) (PostZ.of hst ⟨by rw [hW'.out]; rfl, hS1⟩ hnew1)

end Go.Proofs.YtefpoconpeggpaaGreatDoor.Rd
