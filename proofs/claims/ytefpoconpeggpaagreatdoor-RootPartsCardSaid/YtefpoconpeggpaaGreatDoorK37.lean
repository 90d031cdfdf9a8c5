/- The law RootParts answers true. -/
import Derived.Test.YtefpoconpeggpaaGreatDoorK36
namespace Go.Proofs.YtefpoconpeggpaaGreatDoor.Rd
open Go Go.RowKit
set_option linter.unusedVariables false
set_option linter.unusedSimpArgs false
set_option maxRecDepth 100000

set_option maxHeartbeats 8000000 in
theorem law_RootParts_no (f : Int) (a : Nat) (ha : a < M2) (w0 : World) (hF : FmtIn w0) (hs : sB f a = false) : GivesAt Tryz.prog 6 #[.int .i64 f, Wd a] (.bool true) w0 := by
  have hst := St.start [] w0
  have hk := Lib.hid (fun w (k : Keeps [] w0 w) => hF.keep k (by simp))
  have haw := fun w h => law25_awake w h
  have hsome := ref25_SomeI f a ha
  rw [hs] at hsome
  have hun := sB_un ha hs
  have hpa := fun w h => parts_no f a hun w h
  have hwh := fun w h => root_Whole_no f a hun w h
  have h0M := M_pos
  have z0 : decide ((0 : Nat) = 0) = true := rfl
  clear hF hs hun ha
  go_enter Tryz.func6, Tryz.ntmps6
  go_wp2_with ((first | (go_big_skip) | (refine kg gf23 hst (fun w hst => hpa w (hk.out w hst.keeps)) rfl rfl rfl rfl ?_; clear hst; intro w hst) | (refine kf gf11 hst (hsome) rfl rfl rfl rfl ?_; clear hst; intro w hst) | (refine kg gf24 hst (fun w hst => hwh w (hk.out w hst.keeps)) rfl rfl rfl rfl ?_; clear hst; intro w hst) | (refine kg gf9 hst (fun w hst => haw w (hk.out w hst.keeps)) rfl rfl rfl rfl ?_; clear hst; intro w hst) | (refine wl_guard (by rfl) ?_) | (refine kb 3 hst rfl rfl ?_; clear hst; intro b3 w hb3 hst) | (refine kl hst ta24 rfl ?_) | (refine ka 5 hst tz44 rfl rfl ?_; clear hst; intro b5 w hb5 hst) | (refine kt hst ta44 rfl rfl ?_; clear hst; intro w hst) | (refine kl hst ta44 rfl ?_) | (refine ke tr44 tc22 rfl ?_) | (refine ka 9 hst tz61 rfl rfl ?_; clear hst; intro b9 w hb9 hst) | (refine kt hst ta61 rfl rfl ?_; clear hst; intro w hst) | (refine kc hst tc39 rfl ?_) | (refine kc hst tc3 rfl ?_)); try simp only [pz, pn, sz, sc])
  refine bp_t rfl rfl (by rfl) ⟨?_, hst.keeps⟩
  rfl

set_option maxHeartbeats 16000000 in
theorem law_RootParts_yes (f : Nat) (f1 : 1 ≤ f) (f4 : f ≤ 4) (a : Nat) (ha : a < M2) (w0 : World) (hF : FmtIn w0) (hs : someB f a = true) : GivesAt Tryz.prog 6 #[.int .i64 f, Wd a] (.bool true) w0 := by
  have hst := St.start [] w0
  have hk := Lib.hid (fun w (k : Keeps [] w0 w) => hF.keep k (by simp))
  have haw := fun w h => law25_awake w h
  have hsome := ref25_Some f f1 f4 a ha
  rw [hs] at hsome
  have hpa := fun w h => parts_yes f f1 f4 a hs w h
  have hwh := fun w h => root_Whole f f1 f4 a hs w h
  obtain ⟨b1', b2', b3', b4'⟩ := someB_spec hs
  have hva := ref07_Value f f1 f4 a ha b1'
  have hpr := ref05_Prec f f1 f4
  have hP := fP_in f
  have we := wExp_in f a
  have ue := uExp_in f a
  have hsgM : wSig f a < M := Nat.lt_trans (wSig_lt f a) (small_M2 _ (by omega))
  have hof := fun w => ref07_Of (wNeg f a) (wExp f a) (wSig f a) hsgM w
  obtain ⟨d1, d2⟩ := wSig_dl f a
  have hlen := fun v w h => ref01_Len v (dl (wSig f a)) (wSig f a) w h
  obtain ⟨t1, t2⟩ := rX_t f a
  have hrx := rX_eq f a
  have hrb := rB_in f a
  have hrN := rN_256 f a b3'
  have hrM : rN f a < M := small_M (by omega)
  have hbig := fun w => ref02_Big (rN f a) hrM w
  have hshl := fun v w h => ref01_Shl v (dl (wSig f a)) (wSig f a) (uUp f a + rB f a) w h (by omega) (by unfold uUp; omega)
  rw [← t2] at hshl
  have hdN := dl_2pow (rN f a) 256 hrN
  have hcmp := fun v u w h h' => ref01_Cmp v u (dl (rN f a)) (dl (rN f a)) (rN f a) (rN f a) w h h' (by omega) (by omega)
  rw [show cmp (rN f a) (rN f a) = 0 by simp [cmp]] at hcmp
  have hreal := fun w => ref25_Real f f1 f4 a ha b1' w
  have hks := root_known f a b3'
  obtain ⟨q1, q2, q3, q4⟩ := rR_bl f a b3'
  obtain ⟨b, hb⟩ : ∃ b, bl (rR f a) - fP f = b + 1 := ⟨bl (rR f a) - fP f - 1, by omega⟩
  have hblp : bl (wSig f a) ≤ fP f := bl_le.2 (wSig_lt f a)
  have hub : uExp f a = wExp f a - (fP f : Int) + (bl (wSig f a) : Int) := by unfold uExp uUp; omega
  have hdig := fun aN xN yN aD xD yD w (hN : BigAt w (.slice aN xN yN) (dl (wSig f a)) (wSig f a)) (hD : BigAt w (.slice aD xD yD) (dl 1) 1) => ref24_Digits false 2 (wSig f a) 1 aN aD xN yN xD yD _ _ (wExp f a) _ (rX f a) (rR f a) (rMore f a) hks (fP f) b (by omega) (by omega) (by omega) (by omega) (by decide) (by omega) (by decide) (by omega) (by omega) (by omega) (by omega) (by omega)
    (by rw [bl_one, show ((2 : Nat) : Int) = 2 from rfl]; omega) (by rw [bl_one, show ((2 : Nat) : Int) = 2 from rfl]; omega) w (root_cmp false (wSig f a) aN aD xN yN xD yD _ _ (wExp f a) d1 (by decide) (by omega) (by omega) w hN hD) hN hD
  rw [show decide (restN (rR f a) (b + 1) (rMore f a) = 0) = wholeB f a by unfold wholeB; rw [hb]] at hdig
  unfold RlV at hdig
  -- the numbers, as the law reckons them
  have hup : IntKind.i64.wrap ((fP f : Int) - (bl (wSig f a) : Int)) = (uUp f a : Int) := by rw [IntKind.wrap_i64]; unfold uUp; omega
  have he : IntKind.i64.wrap (wExp f a - (uUp f a : Int)) = uExp f a := by rw [IntKind.wrap_i64]; unfold uExp; omega
  have hub2 : (uUp f a : Int) ≤ 200 := by unfold uUp; omega
  have tm0 : ∀ x : Int, x % 2 = 0 → (x.tmod 2 != 0) = false := fun x h => by
    have : x.tmod 2 = 0 := Int.tmod_eq_zero_of_dvd (Int.dvd_of_emod_eq_zero h)
    rw [this]; rfl
  have tm1 : ∀ x : Int, x % 2 = 1 → (x.tmod 2 != 0) = true := fun x h => by
    rw [bne_iff_ne]
    intro h0
    have := Int.emod_eq_zero_of_dvd (Int.dvd_of_tmod_eq_zero h0)
    omega
  have hpar : ∃ bv : Int, (bv = (fP f : Int) + 4 ∧ ((uExp f a - ((fP f : Int) + 4)).tmod 2 != 0) = false ∨ bv = (fP f : Int) + 4 + 1 ∧ ((uExp f a - ((fP f : Int) + 4)).tmod 2 != 0) = true) ∧ IntKind.i64.wrap ((uUp f a : Int) + bv) = ((uUp f a + rB f a : Nat) : Int) ∧ IntKind.i64.wrap (uExp f a - bv) = 2 * rX f a := by
    refine ⟨(rB f a : Int), ?_, by rw [IntKind.wrap_i64]; omega, by rw [IntKind.wrap_i64]; omega⟩
    unfold rB
    split
    · rename_i h
      exact .inl ⟨by omega, tm0 _ (by omega)⟩
    · rename_i h
      exact .inr ⟨by omega, tm1 _ (by omega)⟩
  clear tm0 tm1
  have E1 : (fP f : Int) - (bl (wSig f a) : Int) = (uUp f a : Int) := by unfold uUp; omega
  have E2 : wExp f a - (uUp f a : Int) = uExp f a := rfl
  have pl : fP f ≤ 200 := by omega
  have kl1 : bl (wSig f a) ≤ 200 := by omega
  have y1 := nbC_one (wNeg f a) (wExp f a) (wSig f a)
  have S2 : IntKind.i64.wrap (2 * rX f a) = 2 * rX f a := by rw [IntKind.wrap_i64]; omega
  have S4 : (2 * rX f a == 2 * rX f a) = true := by simp
  clear hF hs b1' b2' b3' b4' we hsgM d1 d2 t1 t2 hrx hrN hrM hdN hks q1 q2 q3 q4 hb hblp hub hP f1 f4 ha hrb
  generalize wholeB f a = zw at *
  have S5 : (zw == zw) = true := by simp
  obtain ⟨bv, ⟨rfl, hpar⟩ | ⟨rfl, hpar⟩, S1, S3⟩ := hpar
  all_goals
    go_enter Tryz.func6, Tryz.ntmps6
    go_wp2_with ((first | (go_big_skip) | (refine kg gf23 hst (fun w hst => hpa w (hk.out w hst.keeps)) rfl rfl rfl rfl ?_; clear hst; intro w hst) | (refine kf gf11 hst (hsome) rfl rfl rfl rfl ?_; clear hst; intro w hst) | (refine kf gf25 hst (hpr) rfl rfl rfl rfl ?_; clear hst; intro w hst) | (refine kf gf14 hst (hva) rfl rfl rfl rfl ?_; clear hst; intro w hst) | (refine kN (o := ⟨some 49, _, _, _, _, _⟩) gf26 hst (fun w hst => hof w) rfl rfl rfl rfl ?_; clear hst; intro v49 Lg49 w hn49 hR49 hst; (try simp only [List.cons_append, List.nil_append, List.append_nil, List.append_assoc] at hst); obtain ⟨s49, rfl, hb49⟩ := hR49; obtain ⟨a49, x49, y49, rfl⟩ := hb49.slice) | (refine kg gf20 hst (fun w hst => hlen _ w (hb49.at hst (fun x h => by simp [h]))) rfl rfl rfl rfl ?_; clear hst; intro w hst) | (refine wl_guard (by rfl) ?_) | (refine kb 3 hst rfl rfl ?_; clear hst; intro b3 w hb3 hst) | (refine kl hst ta24 rfl ?_) | (refine ka 5 hst tz44 rfl rfl ?_; clear hst; intro b5 w hb5 hst) | (refine kt hst ta44 rfl rfl ?_; clear hst; intro w hst) | (refine kl hst ta44 rfl ?_) | (refine ke tr44 tc22 rfl ?_) | (refine ka 9 hst tz61 rfl rfl ?_; clear hst; intro b9 w hb9 hst) | (refine kt hst ta61 rfl rfl ?_; clear hst; intro w hst) | (refine kc hst tc39 rfl ?_) | (refine kc hst tc3 rfl ?_)); try simp only [pz, pn, sz, sc])
    refine wp_region_TV 36 [(b9, .cells #[.bool (wNeg f a), .slice a49 x49 y49, .int .i64 (wExp f a)] 61), (b5, .cells (wc 8 (rN f a)) 44), (b3, .cells (wdc a) 24)] hst (by kernel_rfl) ?_; clear hst; intro w hst; (try simp only [List.length_cons, List.length_nil, Nat.reduceAdd, Array.replicate_succ, Array.replicate_zero, List.push_toArray, List.nil_append, List.cons_append])
    refine r0 0 ?_; simp only [pz, pn, sz, sc, S1, S2, S3, S4, S5]
    refine r0 1 ?_; simp only [pz, pn, sz, sc, S1, S2, S3, S4, S5]
    refine r0 4 ?_; simp only [pz, pn, sz, sc, S1, S2, S3, S4, S5]
    refine r0 6 ?_; simp only [pz, pn, sz, sc, S1, S2, S3, S4, S5]
    refine r0 7 ?_; simp only [pz, pn, sz, sc, S1, S2, S3, S4, S5]
    refine r0 8 ?_; simp only [pz, pn, sz, sc, S1, S2, S3, S4, S5]
    refine rl 2 rfl ?_ (by first | exact ylA ta44 | exact ylM ta44); simp only [pz, pn, sz, sc, S1, S2, S3, S4, S5]
    refine rl 5 rfl ?_ (ylC tc39); simp only [pz, pn, sz, sc, S1, S2, S3, S4, S5]
    refine r1 3 ?_; (try refine wl_guard (by rfl) ?_); (first | (refine wl_callB (o := ⟨some 71, _, _, _, _, _⟩) gf16 hst (fun w hst => hbig w) rfl rfl rfl rfl rfl ?_; clear hst; intro v71 Lg71 w hb71 hst; (try simp only [List.cons_append, List.nil_append, List.append_nil, List.append_assoc] at hst)) | (refine wl_callB (o := ⟨some 77, _, _, _, _, _⟩) gf18 hst (fun w hst => hshl _ w (hb49.at hst (fun x h => by simp [h]))) rfl rfl rfl rfl rfl ?_; clear hst; intro v77 Lg77 w hb77 hst; (try simp only [List.cons_append, List.nil_append, List.append_nil, List.append_assoc] at hst)) | (refine kg gf27 hst (fun w hst => hcmp _ _ w (hb71.at hst (fun x h => by simp [h])) (hb77.at hst (fun x h => by simp [h]))) rfl rfl rfl rfl ?_; clear hst; intro w hst) | (refine kg gf24 hst (fun w hst => hwh w (hk.out w hst.keeps)) rfl rfl rfl rfl ?_; clear hst; intro w hst) | (refine kN (o := ⟨some 95, _, _, _, _, _⟩) gf13 hst (fun w hst => hreal w) rfl rfl rfl rfl ?_; clear hst; intro v95 Lg95 w hn95 hR95 hst; (try simp only [List.cons_append, List.nil_append, List.append_nil, List.append_assoc] at hst); obtain ⟨sN, sD, LN, LD, rfl, hbN, hbD, hLN, hLD⟩ := hR95; obtain ⟨aN, xN, yN, rfl⟩ := hbN.slice; obtain ⟨aD, xD, yD, rfl⟩ := hbD.slice; unfold RlV) | (refine kg gf28 hst (fun w hst => hdig aN xN yN aD xD yD w (hbN.at hst (fun x h => by have := hLN x h; simp [this])) (hbD.at hst (fun x h => by have := hLD x h; simp [this]))) rfl rfl rfl rfl ?_; clear hst; intro w hst) | (refine kg gf9 hst (fun w hst => haw w (hk.out w hst.keeps)) rfl rfl rfl rfl ?_; clear hst; intro w hst) | (refine kp ?_)); (try simp only [pz, pn, sz, sc, S1, S2, S3, S4, S5]); refine re ?_
    refine r1 9 ?_; (try refine wl_guard (by rfl) ?_); (first | (refine wl_callB (o := ⟨some 71, _, _, _, _, _⟩) gf16 hst (fun w hst => hbig w) rfl rfl rfl rfl rfl ?_; clear hst; intro v71 Lg71 w hb71 hst; (try simp only [List.cons_append, List.nil_append, List.append_nil, List.append_assoc] at hst)) | (refine wl_callB (o := ⟨some 77, _, _, _, _, _⟩) gf18 hst (fun w hst => hshl _ w (hb49.at hst (fun x h => by simp [h]))) rfl rfl rfl rfl rfl ?_; clear hst; intro v77 Lg77 w hb77 hst; (try simp only [List.cons_append, List.nil_append, List.append_nil, List.append_assoc] at hst)) | (refine kg gf27 hst (fun w hst => hcmp _ _ w (hb71.at hst (fun x h => by simp [h])) (hb77.at hst (fun x h => by simp [h]))) rfl rfl rfl rfl ?_; clear hst; intro w hst) | (refine kg gf24 hst (fun w hst => hwh w (hk.out w hst.keeps)) rfl rfl rfl rfl ?_; clear hst; intro w hst) | (refine kN (o := ⟨some 95, _, _, _, _, _⟩) gf13 hst (fun w hst => hreal w) rfl rfl rfl rfl ?_; clear hst; intro v95 Lg95 w hn95 hR95 hst; (try simp only [List.cons_append, List.nil_append, List.append_nil, List.append_assoc] at hst); obtain ⟨sN, sD, LN, LD, rfl, hbN, hbD, hLN, hLD⟩ := hR95; obtain ⟨aN, xN, yN, rfl⟩ := hbN.slice; obtain ⟨aD, xD, yD, rfl⟩ := hbD.slice; unfold RlV) | (refine kg gf28 hst (fun w hst => hdig aN xN yN aD xD yD w (hbN.at hst (fun x h => by have := hLN x h; simp [this])) (hbD.at hst (fun x h => by have := hLD x h; simp [this]))) rfl rfl rfl rfl ?_; clear hst; intro w hst) | (refine kg gf9 hst (fun w hst => haw w (hk.out w hst.keeps)) rfl rfl rfl rfl ?_; clear hst; intro w hst) | (refine kp ?_)); (try simp only [pz, pn, sz, sc, S1, S2, S3, S4, S5]); refine re ?_
    refine r1 10 ?_; (try refine wl_guard (by rfl) ?_); (first | (refine wl_callB (o := ⟨some 71, _, _, _, _, _⟩) gf16 hst (fun w hst => hbig w) rfl rfl rfl rfl rfl ?_; clear hst; intro v71 Lg71 w hb71 hst; (try simp only [List.cons_append, List.nil_append, List.append_nil, List.append_assoc] at hst)) | (refine wl_callB (o := ⟨some 77, _, _, _, _, _⟩) gf18 hst (fun w hst => hshl _ w (hb49.at hst (fun x h => by simp [h]))) rfl rfl rfl rfl rfl ?_; clear hst; intro v77 Lg77 w hb77 hst; (try simp only [List.cons_append, List.nil_append, List.append_nil, List.append_assoc] at hst)) | (refine kg gf27 hst (fun w hst => hcmp _ _ w (hb71.at hst (fun x h => by simp [h])) (hb77.at hst (fun x h => by simp [h]))) rfl rfl rfl rfl ?_; clear hst; intro w hst) | (refine kg gf24 hst (fun w hst => hwh w (hk.out w hst.keeps)) rfl rfl rfl rfl ?_; clear hst; intro w hst) | (refine kN (o := ⟨some 95, _, _, _, _, _⟩) gf13 hst (fun w hst => hreal w) rfl rfl rfl rfl ?_; clear hst; intro v95 Lg95 w hn95 hR95 hst; (try simp only [List.cons_append, List.nil_append, List.append_nil, List.append_assoc] at hst); obtain ⟨sN, sD, LN, LD, rfl, hbN, hbD, hLN, hLD⟩ := hR95; obtain ⟨aN, xN, yN, rfl⟩ := hbN.slice; obtain ⟨aD, xD, yD, rfl⟩ := hbD.slice; unfold RlV) | (refine kg gf28 hst (fun w hst => hdig aN xN yN aD xD yD w (hbN.at hst (fun x h => by have := hLN x h; simp [this])) (hbD.at hst (fun x h => by have := hLD x h; simp [this]))) rfl rfl rfl rfl ?_; clear hst; intro w hst) | (refine kg gf9 hst (fun w hst => haw w (hk.out w hst.keeps)) rfl rfl rfl rfl ?_; clear hst; intro w hst) | (refine kp ?_)); (try simp only [pz, pn, sz, sc, S1, S2, S3, S4, S5]); refine re ?_
    refine r0 11 ?_; simp only [pz, pn, sz, sc, S1, S2, S3, S4, S5]
    refine r0 12 ?_; simp only [pz, pn, sz, sc, S1, S2, S3, S4, S5]
    refine r0 13 ?_; simp only [pz, pn, sz, sc, S1, S2, S3, S4, S5]
    refine r0 14 ?_; simp only [pz, pn, sz, sc, S1, S2, S3, S4, S5]
    refine r0 15 ?_; simp only [pz, pn, sz, sc, S1, S2, S3, S4, S5]
    refine r0 16 ?_; simp only [pz, pn, sz, sc, S1, S2, S3, S4, S5]
    refine r0 17 ?_; simp only [pz, pn, sz, sc, S1, S2, S3, S4, S5]
    refine r0 18 ?_; simp only [pz, pn, sz, sc, S1, S2, S3, S4, S5]
    refine r0 19 ?_; simp only [pz, pn, sz, sc, S1, S2, S3, S4, S5]
    refine r0 20 ?_; simp only [pz, pn, sz, sc, S1, S2, S3, S4, S5]
    refine r0 21 ?_; simp only [pz, pn, sz, sc, S1, S2, S3, S4, S5]
    refine r0 22 ?_; simp only [pz, pn, sz, sc, S1, S2, S3, S4, S5]
    refine r0 25 ?_; simp only [pz, pn, sz, sc, S1, S2, S3, S4, S5]
    refine r0 28 ?_; simp only [pz, pn, sz, sc, S1, S2, S3, S4, S5]
    refine rl 23 rfl ?_ (by first | exact ylA ta24 | exact ylM ta24); simp only [pz, pn, sz, sc, S1, S2, S3, S4, S5]
    refine rl 26 rfl ?_ (by first | exact ylA ta24 | exact ylM ta24); simp only [pz, pn, sz, sc, S1, S2, S3, S4, S5]
    refine r1 24 ?_; (try refine wl_guard (by rfl) ?_); (first | (refine wl_callB (o := ⟨some 71, _, _, _, _, _⟩) gf16 hst (fun w hst => hbig w) rfl rfl rfl rfl rfl ?_; clear hst; intro v71 Lg71 w hb71 hst; (try simp only [List.cons_append, List.nil_append, List.append_nil, List.append_assoc] at hst)) | (refine wl_callB (o := ⟨some 77, _, _, _, _, _⟩) gf18 hst (fun w hst => hshl _ w (hb49.at hst (fun x h => by simp [h]))) rfl rfl rfl rfl rfl ?_; clear hst; intro v77 Lg77 w hb77 hst; (try simp only [List.cons_append, List.nil_append, List.append_nil, List.append_assoc] at hst)) | (refine kg gf27 hst (fun w hst => hcmp _ _ w (hb71.at hst (fun x h => by simp [h])) (hb77.at hst (fun x h => by simp [h]))) rfl rfl rfl rfl ?_; clear hst; intro w hst) | (refine kg gf24 hst (fun w hst => hwh w (hk.out w hst.keeps)) rfl rfl rfl rfl ?_; clear hst; intro w hst) | (refine kN (o := ⟨some 95, _, _, _, _, _⟩) gf13 hst (fun w hst => hreal w) rfl rfl rfl rfl ?_; clear hst; intro v95 Lg95 w hn95 hR95 hst; (try simp only [List.cons_append, List.nil_append, List.append_nil, List.append_assoc] at hst); obtain ⟨sN, sD, LN, LD, rfl, hbN, hbD, hLN, hLD⟩ := hR95; obtain ⟨aN, xN, yN, rfl⟩ := hbN.slice; obtain ⟨aD, xD, yD, rfl⟩ := hbD.slice; unfold RlV) | (refine kg gf28 hst (fun w hst => hdig aN xN yN aD xD yD w (hbN.at hst (fun x h => by have := hLN x h; simp [this])) (hbD.at hst (fun x h => by have := hLD x h; simp [this]))) rfl rfl rfl rfl ?_; clear hst; intro w hst) | (refine kg gf9 hst (fun w hst => haw w (hk.out w hst.keeps)) rfl rfl rfl rfl ?_; clear hst; intro w hst) | (refine kp ?_)); (try simp only [pz, pn, sz, sc, S1, S2, S3, S4, S5]); refine re ?_
    refine r1 27 ?_; (try refine wl_guard (by rfl) ?_); (first | (refine wl_callB (o := ⟨some 71, _, _, _, _, _⟩) gf16 hst (fun w hst => hbig w) rfl rfl rfl rfl rfl ?_; clear hst; intro v71 Lg71 w hb71 hst; (try simp only [List.cons_append, List.nil_append, List.append_nil, List.append_assoc] at hst)) | (refine wl_callB (o := ⟨some 77, _, _, _, _, _⟩) gf18 hst (fun w hst => hshl _ w (hb49.at hst (fun x h => by simp [h]))) rfl rfl rfl rfl rfl ?_; clear hst; intro v77 Lg77 w hb77 hst; (try simp only [List.cons_append, List.nil_append, List.append_nil, List.append_assoc] at hst)) | (refine kg gf27 hst (fun w hst => hcmp _ _ w (hb71.at hst (fun x h => by simp [h])) (hb77.at hst (fun x h => by simp [h]))) rfl rfl rfl rfl ?_; clear hst; intro w hst) | (refine kg gf24 hst (fun w hst => hwh w (hk.out w hst.keeps)) rfl rfl rfl rfl ?_; clear hst; intro w hst) | (refine kN (o := ⟨some 95, _, _, _, _, _⟩) gf13 hst (fun w hst => hreal w) rfl rfl rfl rfl ?_; clear hst; intro v95 Lg95 w hn95 hR95 hst; (try simp only [List.cons_append, List.nil_append, List.append_nil, List.append_assoc] at hst); obtain ⟨sN, sD, LN, LD, rfl, hbN, hbD, hLN, hLD⟩ := hR95; obtain ⟨aN, xN, yN, rfl⟩ := hbN.slice; obtain ⟨aD, xD, yD, rfl⟩ := hbD.slice; unfold RlV) | (refine kg gf28 hst (fun w hst => hdig aN xN yN aD xD yD w (hbN.at hst (fun x h => by have := hLN x h; simp [this])) (hbD.at hst (fun x h => by have := hLD x h; simp [this]))) rfl rfl rfl rfl ?_; clear hst; intro w hst) | (refine kg gf9 hst (fun w hst => haw w (hk.out w hst.keeps)) rfl rfl rfl rfl ?_; clear hst; intro w hst) | (refine kp ?_)); (try simp only [pz, pn, sz, sc, S1, S2, S3, S4, S5]); refine re ?_
    refine r1 29 ?_; (try refine wl_guard (by rfl) ?_); (first | (refine wl_callB (o := ⟨some 71, _, _, _, _, _⟩) gf16 hst (fun w hst => hbig w) rfl rfl rfl rfl rfl ?_; clear hst; intro v71 Lg71 w hb71 hst; (try simp only [List.cons_append, List.nil_append, List.append_nil, List.append_assoc] at hst)) | (refine wl_callB (o := ⟨some 77, _, _, _, _, _⟩) gf18 hst (fun w hst => hshl _ w (hb49.at hst (fun x h => by simp [h]))) rfl rfl rfl rfl rfl ?_; clear hst; intro v77 Lg77 w hb77 hst; (try simp only [List.cons_append, List.nil_append, List.append_nil, List.append_assoc] at hst)) | (refine kg gf27 hst (fun w hst => hcmp _ _ w (hb71.at hst (fun x h => by simp [h])) (hb77.at hst (fun x h => by simp [h]))) rfl rfl rfl rfl ?_; clear hst; intro w hst) | (refine kg gf24 hst (fun w hst => hwh w (hk.out w hst.keeps)) rfl rfl rfl rfl ?_; clear hst; intro w hst) | (refine kN (o := ⟨some 95, _, _, _, _, _⟩) gf13 hst (fun w hst => hreal w) rfl rfl rfl rfl ?_; clear hst; intro v95 Lg95 w hn95 hR95 hst; (try simp only [List.cons_append, List.nil_append, List.append_nil, List.append_assoc] at hst); obtain ⟨sN, sD, LN, LD, rfl, hbN, hbD, hLN, hLD⟩ := hR95; obtain ⟨aN, xN, yN, rfl⟩ := hbN.slice; obtain ⟨aD, xD, yD, rfl⟩ := hbD.slice; unfold RlV) | (refine kg gf28 hst (fun w hst => hdig aN xN yN aD xD yD w (hbN.at hst (fun x h => by have := hLN x h; simp [this])) (hbD.at hst (fun x h => by have := hLD x h; simp [this]))) rfl rfl rfl rfl ?_; clear hst; intro w hst) | (refine kg gf9 hst (fun w hst => haw w (hk.out w hst.keeps)) rfl rfl rfl rfl ?_; clear hst; intro w hst) | (refine kp ?_)); (try simp only [pz, pn, sz, sc, S1, S2, S3, S4, S5]); refine re ?_
    refine r0 30 ?_; simp only [pz, pn, sz, sc, S1, S2, S3, S4, S5]
    refine r0 31 ?_; simp only [pz, pn, sz, sc, S1, S2, S3, S4, S5]
    refine r0 32 ?_; simp only [pz, pn, sz, sc, S1, S2, S3, S4, S5]
    refine r1 33 ?_; (try refine wl_guard (by rfl) ?_); (first | (refine wl_callB (o := ⟨some 71, _, _, _, _, _⟩) gf16 hst (fun w hst => hbig w) rfl rfl rfl rfl rfl ?_; clear hst; intro v71 Lg71 w hb71 hst; (try simp only [List.cons_append, List.nil_append, List.append_nil, List.append_assoc] at hst)) | (refine wl_callB (o := ⟨some 77, _, _, _, _, _⟩) gf18 hst (fun w hst => hshl _ w (hb49.at hst (fun x h => by simp [h]))) rfl rfl rfl rfl rfl ?_; clear hst; intro v77 Lg77 w hb77 hst; (try simp only [List.cons_append, List.nil_append, List.append_nil, List.append_assoc] at hst)) | (refine kg gf27 hst (fun w hst => hcmp _ _ w (hb71.at hst (fun x h => by simp [h])) (hb77.at hst (fun x h => by simp [h]))) rfl rfl rfl rfl ?_; clear hst; intro w hst) | (refine kg gf24 hst (fun w hst => hwh w (hk.out w hst.keeps)) rfl rfl rfl rfl ?_; clear hst; intro w hst) | (refine kN (o := ⟨some 95, _, _, _, _, _⟩) gf13 hst (fun w hst => hreal w) rfl rfl rfl rfl ?_; clear hst; intro v95 Lg95 w hn95 hR95 hst; (try simp only [List.cons_append, List.nil_append, List.append_nil, List.append_assoc] at hst); obtain ⟨sN, sD, LN, LD, rfl, hbN, hbD, hLN, hLD⟩ := hR95; obtain ⟨aN, xN, yN, rfl⟩ := hbN.slice; obtain ⟨aD, xD, yD, rfl⟩ := hbD.slice; unfold RlV) | (refine kg gf28 hst (fun w hst => hdig aN xN yN aD xD yD w (hbN.at hst (fun x h => by have := hLN x h; simp [this])) (hbD.at hst (fun x h => by have := hLD x h; simp [this]))) rfl rfl rfl rfl ?_; clear hst; intro w hst) | (refine kg gf9 hst (fun w hst => haw w (hk.out w hst.keeps)) rfl rfl rfl rfl ?_; clear hst; intro w hst) | (refine kp ?_)); (try simp only [pz, pn, sz, sc, S1, S2, S3, S4, S5]); refine re ?_
    refine r0 34 ?_; simp only [pz, pn, sz, sc, S1, S2, S3, S4, S5]
    refine r0 35 ?_; simp only [pz, pn, sz, sc, S1, S2, S3, S4, S5]
    refine rd_ ?_
    all_goals
      go_wp2_with ((first | (refine wl_guard (by rfl) ?_) | (refine kb 3 hst rfl rfl ?_; clear hst; intro b3 w hb3 hst) | (refine kl hst ta24 rfl ?_) | (refine ka 5 hst tz44 rfl rfl ?_; clear hst; intro b5 w hb5 hst) | (refine kt hst ta44 rfl rfl ?_; clear hst; intro w hst) | (refine kl hst ta44 rfl ?_) | (refine ke tr44 tc22 rfl ?_) | (refine ka 9 hst tz61 rfl rfl ?_; clear hst; intro b9 w hb9 hst) | (refine kt hst ta61 rfl rfl ?_; clear hst; intro w hst) | (refine kc hst tc39 rfl ?_) | (refine kc hst tc3 rfl ?_)); try simp only [pz, pn, sz, sc])
      refine bp_t rfl rfl (by rfl) ⟨?_, hst.keeps⟩
      rfl

end Go.Proofs.YtefpoconpeggpaaGreatDoor.Rd
