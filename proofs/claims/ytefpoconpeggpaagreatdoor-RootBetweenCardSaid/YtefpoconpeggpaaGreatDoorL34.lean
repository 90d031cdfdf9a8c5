/- RootBetween: the walk. -/
import Derived.Test.YtefpoconpeggpaaGreatDoorL33
import Derived.Deep.DeepCutAuto
namespace Go.Proofs.YtefpoconpeggpaaGreatDoor.Rd
open Go Go.RowKit
set_option linter.unusedVariables false
set_option linter.unusedSimpArgs false
set_option maxRecDepth 100000

/-- A set, asked n times at most of an engine. -/
def SetQ (bs br kn : Nat) (n : Int) (L : List (Nat × Obj)) : Prop := ∃ c q, RomOk c ∧ (0 ≤ q kn ∧ q kn ≤ n) ∧ SetSt bs br c q L
theorem set_new {bs br kn : Nat} {L : List (Nat × Obj)} (h : SetNew bs br L) : SetQ bs br kn 0 L := ⟨romN, fun _ => 0, romN_ok, ⟨Int.le_refl _, Int.le_refl _⟩, .inl ⟨h, rfl, rfl⟩⟩
/-- A root, asked of such a set. -/
def FinAt (kn : Nat) (f a : Nat) (mo : Int) (res fl : Nat) : Prop := ∀ bs br L (n : Int), n ≤ 900 → SetQ bs br kn n L → bs ≠ 0 → br ≠ 0 → ∀ w, FmtIn w → Owns w L →
  GivesZ Tryz.prog 7 #[.pointer (some ⟨bs, 0, none⟩), .int .i64 kn, .int .i64 f, .int .i64 mo, Wd a] [bs, br] L (fun L' v => v = .tuple #[Wd res, .int .i64 fl, .int .i64 0] ∧ SetQ bs br kn (n + 1) L') w
theorem finAt (kn : Nat) (k1 : 1 ≤ kn) (k4 : kn ≤ 4) (f : Nat) (f1 : 1 ≤ f) (f4 : f ≤ 4) (a : Nat) (hs : someB f a = true) (mo : Nat) (m1 : 1 ≤ mo) (m5 : mo ≤ 5) (res fl : Nat) (h : rootW f mo a = (res, fl)) : FinAt kn f a mo res fl := by
  obtain ⟨h1, h2, h3, h4⟩ := someB_spec hs
  intro bs br L n hn ⟨c, q, hc, hq, hS⟩ hbs hbr w hw hL
  have := root_Finite bs br hbs hbr c hc q L hS kn k1 k4 hq.1 (by omega) f f1 f4 mo m1 m5 a h1 h2 h3 h4 w hw hL
  rw [h] at this
  exact this.weak fun L' v hv => ⟨hv.1, _, _, romK_ok hc, ⟨by unfold bump; rw [if_pos rfl]; omega, by unfold bump; rw [if_pos rfl]; omega⟩, hv.2⟩

set_option maxHeartbeats 4000000 in
theorem law_RootBetween_no (k : Nat) (hk8 : k < 256) (f : Int) (a : Nat) (ha : a < M2) (w0 : World) (hF : FmtIn w0) (hs : sB f a = false) : GivesAt Tryz.prog 4 #[.int .u8 k, .int .i64 f, Wd a] (.bool true) w0 := by
  have hst := St.start [] w0
  have hk := Lib.hid (fun w (k : Keeps [] w0 w) => hF.keep k (by simp))
  have haw := fun w h => law25_awake w h
  have hsome := ref25_SomeI f a ha
  rw [hs] at hsome
  clear hF hs ha
  go_enter Tryz.func4, Tryz.ntmps4
  go_wp2_with ((first | (go_big_skip) | (refine kg gf9 hst (fun w hst => haw w (hk.out w hst.keeps)) rfl rfl rfl rfl ?_; clear hst; intro w hst) | (refine kf gf11 hst (hsome) rfl rfl rfl rfl ?_; clear hst; intro w hst) | (refine wl_guard (by rfl) ?_) | (refine kb 5 hst rfl rfl ?_; clear hst; intro b5 w hb5 hst) | (refine kl hst ta24 rfl ?_) | (refine ka 9 hst tz24 rfl rfl ?_; clear hst; intro b9 w hb9 hst) | (refine kt hst ta24 rfl rfl ?_; clear hst; intro w hst) | (refine ka 12 hst tz24 rfl rfl ?_; clear hst; intro b12 w hb12 hst) | (refine ka 15 hst tz24 rfl rfl ?_; clear hst; intro b15 w hb15 hst) | (refine ka 18 hst tz24 rfl rfl ?_; clear hst; intro b18 w hb18 hst) | (refine knS tf24 tc22 rfl ?_) | (refine ka 21 hst tz41 rfl rfl ?_; clear hst; intro b21 w hb21 hst) | (refine kt hst ta41 rfl rfl ?_; clear hst; intro w hst) | (refine ka 22 hst tz46 rfl rfl ?_; clear hst; intro b22 w hb22 hst) | (refine ka 23 hst tz46 rfl rfl ?_; clear hst; intro b23 w hb23 hst) | (refine kt hst ta46 rfl rfl ?_; clear hst; intro w hst) | (refine kl hst ta44 rfl ?_) | (refine klm hst ta44 rfl ?_) | (refine kc hst tc3 rfl ?_) | (refine kl hst ta41 rfl ?_) | (refine keS tf24 tc22 rfl ?_)); try simp only [pz, pn, sz, sc])
  refine bp_t rfl rfl (by rfl) ⟨?_, hst.keeps⟩
  rfl

set_option maxHeartbeats 16000000 in
theorem law_RootBetween_A (k : Nat) (hk8 : k < 256) (f : Nat) (f1 : 1 ≤ f) (f4 : f ≤ 4) (a : Nat) (ha : a < M2) (w0 : World) (hF : FmtIn w0) (hs : someB f a = true) (wd : Nat)
    (w5 : rootW f 5 a = (wd, 0)) (w4 : rootW f 4 a = (wd, 0)) (w1 : rootW f 1 a = (wd, 0)) (w2 : rootW f 2 a = (wd, 0)) (ll : wd < 2 ^ fB f) (cl : rootC f a (wSig f wd) (wExp f wd) = 0) :
    GivesAt Tryz.prog 4 #[.int .u8 k, .int .i64 f, Wd a] (.bool true) w0 := by
  have hst := St.start [] w0
  have hk := Lib.hid (fun w (k : Keeps [] w0 w) => hF.keep k (by simp))
  have hF' := Lib.hid hF
  have hnew := fun w => engine_New w
  have haw := fun w h => law25_awake w h
  have hsome := ref25_Some f f1 f4 a ha
  rw [hs] at hsome
  obtain ⟨b1', b2', b3', b4'⟩ := someB_spec hs
  obtain ⟨kn, hkn⟩ : ∃ kn : Nat, kn = 1 + k % 4 := ⟨_, rfl⟩
  have k1 : 1 ≤ kn := by omega
  have k4 : kn ≤ 4 := by omega
  have h5 := Lib.hid (finAt kn k1 k4 f f1 f4 a hs 5 (by omega) (by omega) wd 0 w5)
  have h4 := Lib.hid (finAt kn k1 k4 f f1 f4 a hs 4 (by omega) (by omega) wd 0 w4)
  have h1 := Lib.hid (finAt kn k1 k4 f f1 f4 a hs 1 (by omega) (by omega) wd 0 w1)
  have h2 := Lib.hid (finAt kn k1 k4 f f1 f4 a hs 2 (by omega) (by omega) wd 0 w2)
  have E1 : (1 : Int) + ((k : Int) % 4) = (kn : Int) := by omega
  have hP := fP_in f
  have hM2 := fB_M2 f
  have lM : wd < M2 := by omega
  have hreal := fun w => ref25_Real f f1 f4 a ha b1' w
  have hvl := ref07_Value f f1 f4 wd lM ll
  have sl : wSig f wd < M := Nat.lt_trans (wSig_lt f wd) (small_M2 _ (by omega))
  have bgl := fun w => ref02_Big (wSig f wd) sl w
  have exa := wExp_in f a
  have exl := wExp_in f wd
  obtain ⟨da, _⟩ := wSig_dl f a
  obtain ⟨dlw, _⟩ := wSig_dl f wd
  have cmpl := fun vm vN vD w (hm : BigAt w vm (dl (wSig f wd)) (wSig f wd)) (hN : BigAt w vN (dl (wSig f a)) (wSig f a)) (hD : BigAt w vD (dl 1) 1) => ref09_Cmp_root vm vN vD _ _ _ (wSig f wd) (wSig f a) false (wExp f wd) (wExp f a) (by omega) (by omega) (by decide) (by omega) (by omega) (by omega) (by omega) w hm hN hD
  have z1 : decide (wd = wd) = true := by simp
  unfold rootC at cl
  rw [cl] at cmpl
  have ya := nbC_one (wNeg f wd) (wExp f wd) (wSig f wd)
  unfold nbC at hvl ya
  clear hkn hF w5 w4 w1 w2 b1' b2' b3' b4' hs k1 k4 hP hM2 ha f1 f4 da dlw exl exa sl ll cl hk8
  generalize wSig f wd = sgl at *
  generalize wExp f wd = exl at *
  generalize wNeg f wd = ngl at *
  generalize wSig f a = sg at *
  generalize wExp f a = ex at *
  go_enter Tryz.func4, Tryz.ntmps4
  go_wp2_with ((first | (go_big_skip) | (refine kg gf9 hst (fun w hst => haw w (hk.out w hst.keeps)) rfl rfl rfl rfl ?_; clear hst; intro w hst) | (refine kf gf11 hst (hsome) rfl rfl rfl rfl ?_; clear hst; intro w hst) | (refine kN (o := ⟨some 34, _, _, _, _, _⟩) gf8 hst (fun w hst => hnew w) rfl rfl rfl rfl ?_; clear hst; intro v34 L w hn34 hR34 hst; obtain ⟨bs, br, hsr, rfl, hS⟩ := hR34; (try simp only [List.cons_append, List.nil_append, List.append_nil, List.append_assoc] at hst); obtain ⟨hbs, hbr⟩ := new_ne hn34 hS hF'.out; have hS0 := set_new (kn := kn) hS; have hbs0 : w0.heap.size ≤ bs := hn34.1 (bs, _) (by rw [hS]; exact List.Mem.head _); have hbr0 : w0.heap.size ≤ br := hn34.1 (br, _) (by rw [hS]; exact List.Mem.tail _ (List.Mem.head _))) | (refine kZ (o := ⟨some 44, _, _, _, _, _⟩) (fun L' => (b5, .cells (wdc a) 24) :: L') gf7 hst (fun w hst => h5.out bs br L _ (by decide) hS0 hbs hbr w (hk.out w hst.keeps) (hst.owns (L := L) (.there .here))) rfl rfl rfl rfl ?_ (ht := fun _ => (.there .here)); clear hst; intro v44 L1 w hR44 hnew44 hst; obtain ⟨rfl, hS1⟩ := hR44) | (refine kZ (o := ⟨some 53, _, _, _, _, _⟩) (fun L' => (b9, .cells (wdc wd) 24) :: (b5, .cells (wdc a) 24) :: L') gf7 hst (fun w hst => h4.out bs br L1 _ (by decide) hS1 hbs hbr w (hk.out w hst.keeps) (hst.owns (L := L1) (.there (.there .here)))) rfl rfl rfl rfl ?_ (ht := fun _ => (.there (.there .here))); clear hst; intro v53 L2 w hR53 hnew53 hst; obtain ⟨rfl, hS2⟩ := hR53) | (refine kZ (o := ⟨some 62, _, _, _, _, _⟩) (fun L' => (b12, .cells (wdc wd) 24) :: (b9, .cells (wdc wd) 24) :: (b5, .cells (wdc a) 24) :: L') gf7 hst (fun w hst => h1.out bs br L2 _ (by decide) hS2 hbs hbr w (hk.out w hst.keeps) (hst.owns (L := L2) (.there (.there (.there .here))))) rfl rfl rfl rfl ?_ (ht := fun _ => (.there (.there (.there .here)))); clear hst; intro v62 L3 w hR62 hnew62 hst; obtain ⟨rfl, hS3⟩ := hR62) | (refine kZ (o := ⟨some 71, _, _, _, _, _⟩) (fun L' => (b15, .cells (wdc wd) 24) :: (b12, .cells (wdc wd) 24) :: (b9, .cells (wdc wd) 24) :: (b5, .cells (wdc a) 24) :: L') gf7 hst (fun w hst => h2.out bs br L3 _ (by decide) hS3 hbs hbr w (hk.out w hst.keeps) (hst.owns (L := L3) (.there (.there (.there (.there .here)))))) rfl rfl rfl rfl ?_ (ht := fun _ => (.there (.there (.there (.there .here))))); clear hst; intro v71 L4 w hR71 hnew71 hst; obtain ⟨rfl, hS4⟩ := hR71) | (refine kN (o := ⟨some 106, _, _, _, _, _⟩) gf13 hst (fun w hst => hreal w) rfl rfl rfl rfl ?_; clear hst; intro v106 Lg106 w hn106 hR106 hst; (try simp only [List.cons_append, List.nil_append, List.append_nil, List.append_assoc] at hst); obtain ⟨sN, sD, LN, LD, rfl, hbN, hbD, hLN, hLD⟩ := hR106; obtain ⟨aN, xN, yN, rfl⟩ := hbN.slice; obtain ⟨aD, xD, yD, rfl⟩ := hbD.slice; unfold RlV) | (refine wl_guard (by rfl) ?_) | (refine kb 5 hst rfl rfl ?_; clear hst; intro b5 w hb5 hst) | (refine kl hst ta24 rfl ?_) | (refine ka 9 hst tz24 rfl rfl ?_; clear hst; intro b9 w hb9 hst) | (refine kt hst ta24 rfl rfl ?_; clear hst; intro w hst) | (refine ka 12 hst tz24 rfl rfl ?_; clear hst; intro b12 w hb12 hst) | (refine ka 15 hst tz24 rfl rfl ?_; clear hst; intro b15 w hb15 hst) | (refine ka 18 hst tz24 rfl rfl ?_; clear hst; intro b18 w hb18 hst) | (refine knS tf24 tc22 rfl ?_) | (refine ka 21 hst tz41 rfl rfl ?_; clear hst; intro b21 w hb21 hst) | (refine kt hst ta41 rfl rfl ?_; clear hst; intro w hst) | (refine ka 22 hst tz46 rfl rfl ?_; clear hst; intro b22 w hb22 hst) | (refine ka 23 hst tz46 rfl rfl ?_; clear hst; intro b23 w hb23 hst) | (refine kt hst ta46 rfl rfl ?_; clear hst; intro w hst) | (refine kl hst ta44 rfl ?_) | (refine klm hst ta44 rfl ?_) | (refine kc hst tc3 rfl ?_) | (refine kl hst ta41 rfl ?_) | (refine keS tf24 tc22 rfl ?_)); try simp only [pz, pn, sz, sc])
  go_cut [22, 23] (fun s22 s23 wx => ∃ b22 b23, s22 = .pointer (some ⟨b22, 0, none⟩) ∧ s23 = .pointer (some ⟨b23, 0, none⟩) ∧ w0.heap.size ≤ b22 ∧ w0.heap.size ≤ b23 ∧ St w0 [] ((b23, .cells (#[Value.bool ngl, .int .i64 exl] ++ Rd.wc 8 sgl) 46) :: (b22, .cells (#[Value.bool ngl, .int .i64 exl] ++ Rd.wc 8 sgl) 46) :: (b21, .cells #[.bool false, .int .i64 2, .slice aN xN yN, .slice aD xD yD, .int .i64 ex] 41) :: (b15, .cells (wdc wd) 24) :: (b12, .cells (wdc wd) 24) :: (b9, .cells (wdc wd) 24) :: Lg106) wx)
  case first =>
    refine wp_region_TV 10 [(b12, .cells (wdc wd) 24), (b9, .cells (wdc wd) 24)] hst (by kernel_rfl) ?_; clear hst; intro w hst; (try simp only [List.length_cons, List.length_nil, Nat.reduceAdd, Array.replicate_succ, Array.replicate_zero, List.push_toArray, List.nil_append, List.cons_append])
    refine r0 0 ?_; simp only [pz, pn, sz, sc]
    refine r0 3 ?_; simp only [pz, pn, sz, sc]
    refine rl 1 rfl ?_ (by first | exact ylA ta24 | exact ylM ta24); simp only [pz, pn, sz, sc]
    refine rl 4 rfl ?_ (by first | exact ylA ta24 | exact ylM ta24); simp only [pz, pn, sz, sc]
    refine r3 2 6 7 ?_ ?_ ?_
    (first | (refine kf gf14 hst (hvl) rfl rfl rfl rfl ?_; clear hst; intro w hst) | (refine kp ?_)); (try simp only [pz, pn, sz, sc]); refine re ?_
    refine r3 5 6 7 ?_ ?_ ?_
    (first | (refine kf gf14 hst (hvl) rfl rfl rfl rfl ?_; clear hst; intro w hst) | (refine kp ?_)); (try simp only [pz, pn, sz, sc]); refine re ?_
    refine r2 6 7 ?_ ?_
    (refine ka 22 hst tz46 rfl rfl ?_; clear hst; intro b22 w hb22 hst); (try simp only [pz, pn, sz, sc]); refine re ?_
    refine r1 7 ?_; (refine ka 23 hst tz46 rfl rfl ?_; clear hst; intro b23 w hb23 hst); (try simp only [pz, pn, sz, sc]); refine re ?_
    refine r1 8 ?_; (refine kt hst ta46 rfl rfl ?_; clear hst; intro w hst); (try simp only [pz, pn, sz, sc]); refine re ?_
    refine r1 9 ?_; (refine kt hst ta46 rfl rfl ?_; clear hst; intro w hst); (try simp only [pz, pn, sz, sc]); refine re ?_
    refine rd_ ?_
    rotate_left 1
    (refine ka 23 hst tz46 rfl rfl ?_; clear hst; intro b23 w hb23 hst); (try simp only [pz, pn, sz, sc]); refine re ?_
    refine r1 6 ?_; (refine ka 22 hst tz46 rfl rfl ?_; clear hst; intro b22 w hb22 hst); (try simp only [pz, pn, sz, sc]); refine re ?_
    refine r1 8 ?_; (refine kt hst ta46 rfl rfl ?_; clear hst; intro w hst); (try simp only [pz, pn, sz, sc]); refine re ?_
    refine r1 9 ?_; (refine kt hst ta46 rfl rfl ?_; clear hst; intro w hst); (try simp only [pz, pn, sz, sc]); refine re ?_
    refine rd_ ?_
    rotate_right 1
    rotate_left 2
    (refine ka 22 hst tz46 rfl rfl ?_; clear hst; intro b22 w hb22 hst); (try simp only [pz, pn, sz, sc]); refine re ?_
    refine r2 5 7 ?_ ?_
    (first | (refine kf gf14 hst (hvl) rfl rfl rfl rfl ?_; clear hst; intro w hst) | (refine kp ?_)); (try simp only [pz, pn, sz, sc]); refine re ?_
    refine r1 7 ?_; (refine ka 23 hst tz46 rfl rfl ?_; clear hst; intro b23 w hb23 hst); (try simp only [pz, pn, sz, sc]); refine re ?_
    refine r1 8 ?_; (refine kt hst ta46 rfl rfl ?_; clear hst; intro w hst); (try simp only [pz, pn, sz, sc]); refine re ?_
    refine r1 9 ?_; (refine kt hst ta46 rfl rfl ?_; clear hst; intro w hst); (try simp only [pz, pn, sz, sc]); refine re ?_
    refine rd_ ?_
    rotate_left 1
    (refine ka 23 hst tz46 rfl rfl ?_; clear hst; intro b23 w hb23 hst); (try simp only [pz, pn, sz, sc]); refine re ?_
    refine r1 5 ?_; (first | (refine kf gf14 hst (hvl) rfl rfl rfl rfl ?_; clear hst; intro w hst) | (refine kp ?_)); (try simp only [pz, pn, sz, sc]); refine re ?_
    refine r1 8 ?_; (refine kt hst ta46 rfl rfl ?_; clear hst; intro w hst); (try simp only [pz, pn, sz, sc]); refine re ?_
    refine r1 9 ?_; (refine kt hst ta46 rfl rfl ?_; clear hst; intro w hst); (try simp only [pz, pn, sz, sc]); refine re ?_
    refine rd_ ?_
    rotate_right 1
    rotate_left 2
    (refine ka 23 hst tz46 rfl rfl ?_; clear hst; intro b23 w hb23 hst); (try simp only [pz, pn, sz, sc]); refine re ?_
    refine r2 5 6 ?_ ?_
    (first | (refine kf gf14 hst (hvl) rfl rfl rfl rfl ?_; clear hst; intro w hst) | (refine kp ?_)); (try simp only [pz, pn, sz, sc]); refine re ?_
    refine r1 6 ?_; (refine ka 22 hst tz46 rfl rfl ?_; clear hst; intro b22 w hb22 hst); (try simp only [pz, pn, sz, sc]); refine re ?_
    refine r1 8 ?_; (refine kt hst ta46 rfl rfl ?_; clear hst; intro w hst); (try simp only [pz, pn, sz, sc]); refine re ?_
    refine r1 9 ?_; (refine kt hst ta46 rfl rfl ?_; clear hst; intro w hst); (try simp only [pz, pn, sz, sc]); refine re ?_
    refine rd_ ?_
    rotate_left 1
    (refine ka 22 hst tz46 rfl rfl ?_; clear hst; intro b22 w hb22 hst); (try simp only [pz, pn, sz, sc]); refine re ?_
    refine r1 5 ?_; (first | (refine kf gf14 hst (hvl) rfl rfl rfl rfl ?_; clear hst; intro w hst) | (refine kp ?_)); (try simp only [pz, pn, sz, sc]); refine re ?_
    refine r1 8 ?_; (refine kt hst ta46 rfl rfl ?_; clear hst; intro w hst); (try simp only [pz, pn, sz, sc]); refine re ?_
    refine r1 9 ?_; (refine kt hst ta46 rfl rfl ?_; clear hst; intro w hst); (try simp only [pz, pn, sz, sc]); refine re ?_
    refine rd_ ?_
    rotate_right 1
    rotate_right 4
    rotate_left 6
    (refine ka 22 hst tz46 rfl rfl ?_; clear hst; intro b22 w hb22 hst); (try simp only [pz, pn, sz, sc]); refine re ?_
    refine r2 2 7 ?_ ?_
    (first | (refine kf gf14 hst (hvl) rfl rfl rfl rfl ?_; clear hst; intro w hst) | (refine kp ?_)); (try simp only [pz, pn, sz, sc]); refine re ?_
    refine r2 5 7 ?_ ?_
    (first | (refine kf gf14 hst (hvl) rfl rfl rfl rfl ?_; clear hst; intro w hst) | (refine kp ?_)); (try simp only [pz, pn, sz, sc]); refine re ?_
    refine r1 7 ?_; (refine ka 23 hst tz46 rfl rfl ?_; clear hst; intro b23 w hb23 hst); (try simp only [pz, pn, sz, sc]); refine re ?_
    refine r1 8 ?_; (refine kt hst ta46 rfl rfl ?_; clear hst; intro w hst); (try simp only [pz, pn, sz, sc]); refine re ?_
    refine r1 9 ?_; (refine kt hst ta46 rfl rfl ?_; clear hst; intro w hst); (try simp only [pz, pn, sz, sc]); refine re ?_
    refine rd_ ?_
    rotate_left 1
    (refine ka 23 hst tz46 rfl rfl ?_; clear hst; intro b23 w hb23 hst); (try simp only [pz, pn, sz, sc]); refine re ?_
    refine r1 5 ?_; (first | (refine kf gf14 hst (hvl) rfl rfl rfl rfl ?_; clear hst; intro w hst) | (refine kp ?_)); (try simp only [pz, pn, sz, sc]); refine re ?_
    refine r1 8 ?_; (refine kt hst ta46 rfl rfl ?_; clear hst; intro w hst); (try simp only [pz, pn, sz, sc]); refine re ?_
    refine r1 9 ?_; (refine kt hst ta46 rfl rfl ?_; clear hst; intro w hst); (try simp only [pz, pn, sz, sc]); refine re ?_
    refine rd_ ?_
    rotate_right 1
    rotate_left 2
    (refine ka 23 hst tz46 rfl rfl ?_; clear hst; intro b23 w hb23 hst); (try simp only [pz, pn, sz, sc]); refine re ?_
    refine r1 2 ?_; (first | (refine kf gf14 hst (hvl) rfl rfl rfl rfl ?_; clear hst; intro w hst) | (refine kp ?_)); (try simp only [pz, pn, sz, sc]); refine re ?_
    refine r1 5 ?_; (first | (refine kf gf14 hst (hvl) rfl rfl rfl rfl ?_; clear hst; intro w hst) | (refine kp ?_)); (try simp only [pz, pn, sz, sc]); refine re ?_
    refine r1 8 ?_; (refine kt hst ta46 rfl rfl ?_; clear hst; intro w hst); (try simp only [pz, pn, sz, sc]); refine re ?_
    refine r1 9 ?_; (refine kt hst ta46 rfl rfl ?_; clear hst; intro w hst); (try simp only [pz, pn, sz, sc]); refine re ?_
    refine rd_ ?_
    rotate_right 2
    rotate_left 3
    (refine ka 23 hst tz46 rfl rfl ?_; clear hst; intro b23 w hb23 hst); (try simp only [pz, pn, sz, sc]); refine re ?_
    refine r2 2 6 ?_ ?_
    (first | (refine kf gf14 hst (hvl) rfl rfl rfl rfl ?_; clear hst; intro w hst) | (refine kp ?_)); (try simp only [pz, pn, sz, sc]); refine re ?_
    refine r2 5 6 ?_ ?_
    (first | (refine kf gf14 hst (hvl) rfl rfl rfl rfl ?_; clear hst; intro w hst) | (refine kp ?_)); (try simp only [pz, pn, sz, sc]); refine re ?_
    refine r1 6 ?_; (refine ka 22 hst tz46 rfl rfl ?_; clear hst; intro b22 w hb22 hst); (try simp only [pz, pn, sz, sc]); refine re ?_
    refine r1 8 ?_; (refine kt hst ta46 rfl rfl ?_; clear hst; intro w hst); (try simp only [pz, pn, sz, sc]); refine re ?_
    refine r1 9 ?_; (refine kt hst ta46 rfl rfl ?_; clear hst; intro w hst); (try simp only [pz, pn, sz, sc]); refine re ?_
    refine rd_ ?_
    rotate_left 1
    (refine ka 22 hst tz46 rfl rfl ?_; clear hst; intro b22 w hb22 hst); (try simp only [pz, pn, sz, sc]); refine re ?_
    refine r1 5 ?_; (first | (refine kf gf14 hst (hvl) rfl rfl rfl rfl ?_; clear hst; intro w hst) | (refine kp ?_)); (try simp only [pz, pn, sz, sc]); refine re ?_
    refine r1 8 ?_; (refine kt hst ta46 rfl rfl ?_; clear hst; intro w hst); (try simp only [pz, pn, sz, sc]); refine re ?_
    refine r1 9 ?_; (refine kt hst ta46 rfl rfl ?_; clear hst; intro w hst); (try simp only [pz, pn, sz, sc]); refine re ?_
    refine rd_ ?_
    rotate_right 1
    rotate_left 2
    (refine ka 22 hst tz46 rfl rfl ?_; clear hst; intro b22 w hb22 hst); (try simp only [pz, pn, sz, sc]); refine re ?_
    refine r1 2 ?_; (first | (refine kf gf14 hst (hvl) rfl rfl rfl rfl ?_; clear hst; intro w hst) | (refine kp ?_)); (try simp only [pz, pn, sz, sc]); refine re ?_
    refine r1 5 ?_; (first | (refine kf gf14 hst (hvl) rfl rfl rfl rfl ?_; clear hst; intro w hst) | (refine kp ?_)); (try simp only [pz, pn, sz, sc]); refine re ?_
    refine r1 8 ?_; (refine kt hst ta46 rfl rfl ?_; clear hst; intro w hst); (try simp only [pz, pn, sz, sc]); refine re ?_
    refine r1 9 ?_; (refine kt hst ta46 rfl rfl ?_; clear hst; intro w hst); (try simp only [pz, pn, sz, sc]); refine re ?_
    refine rd_ ?_
    rotate_right 2
    rotate_right 9
    all_goals
      go_wp2_with fail
      go_meet
      exact ⟨b22, b23, rfl, rfl, hb22, hb23, (((((((hst.front (b9, _) (by repeat (first | exact Out.head | apply Out.tail | apply Out.app))).front (b12, _) (by repeat (first | exact Out.head | apply Out.tail | apply Out.app))).front (b15, _) (by repeat (first | exact Out.head | apply Out.tail | apply Out.app))).front (b21, _) (by repeat (first | exact Out.head | apply Out.tail | apply Out.app))).front (b22, _) (by repeat (first | exact Out.head | apply Out.tail | apply Out.app))).front (b23, _) (by repeat (first | exact Out.head | apply Out.tail | apply Out.app)))).sub (by repeat (first | exact List.Sublist.refl _ | exact List.sublist_append_right _ _ | exact List.nil_sublist _ | refine List.Sublist.cons_cons _ ?_ | refine List.Sublist.cons _ ?_))⟩
  case rest =>
    obtain ⟨b22, b23, rfl, rfl, hb22, hb23, hst⟩ := hcut
    rename World => wx1
    go_wp2_with ((first | (go_big_skip) | (refine kg gf9 hst (fun w hst => haw w (hk.out w hst.keeps)) rfl rfl rfl rfl ?_; clear hst; intro w hst) | (refine kf gf11 hst (hsome) rfl rfl rfl rfl ?_; clear hst; intro w hst) | (refine wl_guard (by rfl) ?_) | (refine kb 5 hst rfl rfl ?_; clear hst; intro b5 w hb5 hst) | (refine kl hst ta24 rfl ?_) | (refine ka 9 hst tz24 rfl rfl ?_; clear hst; intro b9 w hb9 hst) | (refine kt hst ta24 rfl rfl ?_; clear hst; intro w hst) | (refine ka 12 hst tz24 rfl rfl ?_; clear hst; intro b12 w hb12 hst) | (refine ka 15 hst tz24 rfl rfl ?_; clear hst; intro b15 w hb15 hst) | (refine ka 18 hst tz24 rfl rfl ?_; clear hst; intro b18 w hb18 hst) | (refine knS tf24 tc22 rfl ?_) | (refine ka 21 hst tz41 rfl rfl ?_; clear hst; intro b21 w hb21 hst) | (refine kt hst ta41 rfl rfl ?_; clear hst; intro w hst) | (refine ka 22 hst tz46 rfl rfl ?_; clear hst; intro b22 w hb22 hst) | (refine ka 23 hst tz46 rfl rfl ?_; clear hst; intro b23 w hb23 hst) | (refine kt hst ta46 rfl rfl ?_; clear hst; intro w hst) | (refine kl hst ta44 rfl ?_) | (refine klm hst ta44 rfl ?_) | (refine kc hst tc3 rfl ?_) | (refine kl hst ta41 rfl ?_) | (refine keS tf24 tc22 rfl ?_)); try simp only [pz, pn, sz, sc])
    refine wp_region_TV 16 [(b23, .cells (#[Value.bool ngl, .int .i64 exl] ++ Rd.wc 8 sgl) 46), (b22, .cells (#[Value.bool ngl, .int .i64 exl] ++ Rd.wc 8 sgl) 46), (b21, .cells #[.bool false, .int .i64 2, .slice aN xN yN, .slice aD xD yD, .int .i64 ex] 41)] hst (by kernel_rfl) ?_; clear hst; intro w hst; (try simp only [List.length_cons, List.length_nil, Nat.reduceAdd, Array.replicate_succ, Array.replicate_zero, List.push_toArray, List.nil_append, List.cons_append])
    refine r0 0 ?_; simp only [pz, pn, sz, sc]
    refine r0 3 ?_; simp only [pz, pn, sz, sc]
    refine r0 7 ?_; simp only [pz, pn, sz, sc]
    refine r0 10 ?_; simp only [pz, pn, sz, sc]
    refine rl 1 rfl ?_ (by first | exact ylA ta44 | exact ylM ta44); simp only [pz, pn, sz, sc]
    refine rl 4 rfl ?_ (ylC tc3); simp only [pz, pn, sz, sc]
    refine rl 5 rfl ?_ (by first | exact ylA ta41 | exact ylM ta41); simp only [pz, pn, sz, sc]
    refine rl 8 rfl ?_ (by first | exact ylA ta44 | exact ylM ta44); simp only [pz, pn, sz, sc]
    refine rl 11 rfl ?_ (ylC tc3); simp only [pz, pn, sz, sc]
    refine rl 12 rfl ?_ (by first | exact ylA ta41 | exact ylM ta41); simp only [pz, pn, sz, sc]
    refine r1 2 ?_; (first | (refine wl_callB (o := ⟨some 115, _, _, _, _, _⟩) gf16 hst (fun w hst => bgl w) rfl rfl rfl rfl rfl ?_; clear hst; intro v115 Lg115 w hb115 hst; (try simp only [List.cons_append, List.nil_append, List.append_nil, List.append_assoc] at hst)) | (refine wl_callB (o := ⟨some 122, _, _, _, _, _⟩) gf16 hst (fun w hst => bgl w) rfl rfl rfl rfl rfl ?_; clear hst; intro v122 Lg122 w hb122 hst; (try simp only [List.cons_append, List.nil_append, List.append_nil, List.append_assoc] at hst)) | (refine kg gf15 hst (fun w hst => cmpl _ _ _ w (hb115.at hst (fun x h => by simp [h])) (hbN.at hst (fun x h => by have := hLN x h; simp [this])) (hbD.at hst (fun x h => by have := hLD x h; simp [this]))) rfl rfl rfl rfl ?_; clear hst; intro w hst) | (refine kg gf15 hst (fun w hst => cmpl _ _ _ w (hb122.at hst (fun x h => by simp [h])) (hbN.at hst (fun x h => by have := hLN x h; simp [this])) (hbD.at hst (fun x h => by have := hLD x h; simp [this]))) rfl rfl rfl rfl ?_; clear hst; intro w hst) | (refine kp ?_)); (try simp only [pz, pn, sz, sc]); refine re ?_
    refine r1 6 ?_; (first | (refine wl_callB (o := ⟨some 115, _, _, _, _, _⟩) gf16 hst (fun w hst => bgl w) rfl rfl rfl rfl rfl ?_; clear hst; intro v115 Lg115 w hb115 hst; (try simp only [List.cons_append, List.nil_append, List.append_nil, List.append_assoc] at hst)) | (refine wl_callB (o := ⟨some 122, _, _, _, _, _⟩) gf16 hst (fun w hst => bgl w) rfl rfl rfl rfl rfl ?_; clear hst; intro v122 Lg122 w hb122 hst; (try simp only [List.cons_append, List.nil_append, List.append_nil, List.append_assoc] at hst)) | (refine kg gf15 hst (fun w hst => cmpl _ _ _ w (hb115.at hst (fun x h => by simp [h])) (hbN.at hst (fun x h => by have := hLN x h; simp [this])) (hbD.at hst (fun x h => by have := hLD x h; simp [this]))) rfl rfl rfl rfl ?_; clear hst; intro w hst) | (refine kg gf15 hst (fun w hst => cmpl _ _ _ w (hb122.at hst (fun x h => by simp [h])) (hbN.at hst (fun x h => by have := hLN x h; simp [this])) (hbD.at hst (fun x h => by have := hLD x h; simp [this]))) rfl rfl rfl rfl ?_; clear hst; intro w hst) | (refine kp ?_)); (try simp only [pz, pn, sz, sc]); refine re ?_
    refine r1 9 ?_; (first | (refine wl_callB (o := ⟨some 115, _, _, _, _, _⟩) gf16 hst (fun w hst => bgl w) rfl rfl rfl rfl rfl ?_; clear hst; intro v115 Lg115 w hb115 hst; (try simp only [List.cons_append, List.nil_append, List.append_nil, List.append_assoc] at hst)) | (refine wl_callB (o := ⟨some 122, _, _, _, _, _⟩) gf16 hst (fun w hst => bgl w) rfl rfl rfl rfl rfl ?_; clear hst; intro v122 Lg122 w hb122 hst; (try simp only [List.cons_append, List.nil_append, List.append_nil, List.append_assoc] at hst)) | (refine kg gf15 hst (fun w hst => cmpl _ _ _ w (hb115.at hst (fun x h => by simp [h])) (hbN.at hst (fun x h => by have := hLN x h; simp [this])) (hbD.at hst (fun x h => by have := hLD x h; simp [this]))) rfl rfl rfl rfl ?_; clear hst; intro w hst) | (refine kg gf15 hst (fun w hst => cmpl _ _ _ w (hb122.at hst (fun x h => by simp [h])) (hbN.at hst (fun x h => by have := hLN x h; simp [this])) (hbD.at hst (fun x h => by have := hLD x h; simp [this]))) rfl rfl rfl rfl ?_; clear hst; intro w hst) | (refine kp ?_)); (try simp only [pz, pn, sz, sc]); refine re ?_
    refine r1 13 ?_; (first | (refine wl_callB (o := ⟨some 115, _, _, _, _, _⟩) gf16 hst (fun w hst => bgl w) rfl rfl rfl rfl rfl ?_; clear hst; intro v115 Lg115 w hb115 hst; (try simp only [List.cons_append, List.nil_append, List.append_nil, List.append_assoc] at hst)) | (refine wl_callB (o := ⟨some 122, _, _, _, _, _⟩) gf16 hst (fun w hst => bgl w) rfl rfl rfl rfl rfl ?_; clear hst; intro v122 Lg122 w hb122 hst; (try simp only [List.cons_append, List.nil_append, List.append_nil, List.append_assoc] at hst)) | (refine kg gf15 hst (fun w hst => cmpl _ _ _ w (hb115.at hst (fun x h => by simp [h])) (hbN.at hst (fun x h => by have := hLN x h; simp [this])) (hbD.at hst (fun x h => by have := hLD x h; simp [this]))) rfl rfl rfl rfl ?_; clear hst; intro w hst) | (refine kg gf15 hst (fun w hst => cmpl _ _ _ w (hb122.at hst (fun x h => by simp [h])) (hbN.at hst (fun x h => by have := hLN x h; simp [this])) (hbD.at hst (fun x h => by have := hLD x h; simp [this]))) rfl rfl rfl rfl ?_; clear hst; intro w hst) | (refine kp ?_)); (try simp only [pz, pn, sz, sc]); refine re ?_
    refine r0 14 ?_; simp only [pz, pn, sz, sc]
    refine r0 15 ?_; simp only [pz, pn, sz, sc]
    refine rd_ ?_
    go_wp2_with ((first | (go_big_skip) | (refine kg gf9 hst (fun w hst => haw w (hk.out w hst.keeps)) rfl rfl rfl rfl ?_; clear hst; intro w hst) | (refine kf gf11 hst (hsome) rfl rfl rfl rfl ?_; clear hst; intro w hst) | (refine wl_guard (by rfl) ?_) | (refine kb 5 hst rfl rfl ?_; clear hst; intro b5 w hb5 hst) | (refine kl hst ta24 rfl ?_) | (refine ka 9 hst tz24 rfl rfl ?_; clear hst; intro b9 w hb9 hst) | (refine kt hst ta24 rfl rfl ?_; clear hst; intro w hst) | (refine ka 12 hst tz24 rfl rfl ?_; clear hst; intro b12 w hb12 hst) | (refine ka 15 hst tz24 rfl rfl ?_; clear hst; intro b15 w hb15 hst) | (refine ka 18 hst tz24 rfl rfl ?_; clear hst; intro b18 w hb18 hst) | (refine knS tf24 tc22 rfl ?_) | (refine ka 21 hst tz41 rfl rfl ?_; clear hst; intro b21 w hb21 hst) | (refine kt hst ta41 rfl rfl ?_; clear hst; intro w hst) | (refine ka 22 hst tz46 rfl rfl ?_; clear hst; intro b22 w hb22 hst) | (refine ka 23 hst tz46 rfl rfl ?_; clear hst; intro b23 w hb23 hst) | (refine kt hst ta46 rfl rfl ?_; clear hst; intro w hst) | (refine kl hst ta44 rfl ?_) | (refine klm hst ta44 rfl ?_) | (refine kc hst tc3 rfl ?_) | (refine kl hst ta41 rfl ?_) | (refine keS tf24 tc22 rfl ?_)); try simp only [pz, pn, sz, sc])
    refine bp_t rfl rfl (by rfl) ⟨?_, hst.keeps⟩
    rfl

end Go.Proofs.YtefpoconpeggpaaGreatDoor.Rd
