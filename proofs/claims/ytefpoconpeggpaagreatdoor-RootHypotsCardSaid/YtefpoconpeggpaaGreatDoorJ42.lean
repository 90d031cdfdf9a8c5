/- RootHypots, a root. -/
import Derived.Test.YtefpoconpeggpaaGreatDoorJ41
namespace Go.Proofs.YtefpoconpeggpaaGreatDoor.Rd
open Go Go.RowKit
set_option linter.unusedVariables false
set_option linter.unusedSimpArgs false
set_option maxRecDepth 100000

set_option maxHeartbeats 16000000 in
theorem law_RootHypots_C (k m : Int) (fn a b : Nat) (ha : a < M2) (hb : b < M2) (w0 : World) (hF : FmtIn w0) (hkk : ¬ (k < 1 ∨ 4 < k)) (hmm : 1 ≤ m ∧ m ≤ 5) (f1 : 1 ≤ fn) (f4 : fn ≤ 4) (hf4 : fn ≠ 4) (hA1 : someB fn a = true) (hs2 : someB fn b = true) (d1 : uExp fn a - uExp fn b ≤ 40) (d2 : -40 ≤ uExp fn a - uExp fn b) :
    GivesAt Tryz.prog 5 #[.agg (caseC k fn m a b)] (.bool true) w0 := by
  have hst := St.start [] w0
  have hk := Lib.hid (fun w (k : Keeps [] w0 w) => hF.keep k (by simp))
  have hkn := hF.lt
  have hF' := Lib.hid hF
  have hnew := fun w => engine_New w
  have haw := fun w h => law25_awake w h
  have hW0 := Lib.hid Wd_zero
  have h0M : (0 : Nat) < M2 := by decide
  have z0 : decide ((0 : Nat) = 0) = true := rfl
  have y1 := caseC_size k fn m a b
  have y2 := caseC_one k fn m a b
  obtain ⟨g0, g1, g2⟩ := caseC_at k fn m a b
  have hpa := caseC_a k fn m a b
  have hpb := caseC_b k fn m a b
  obtain ⟨kn, rfl, k1, k4⟩ : ∃ kn : Nat, k = kn ∧ 1 ≤ kn ∧ kn ≤ 4 := ⟨k.toNat, by omega, by omega, by omega⟩
  have hq1 : decide ((kn : Int) < 1) = false := decide_eq_false (by omega)
  have hq2 : decide ((4 : Int) < (kn : Int)) = false := decide_eq_false (by omega)
  obtain ⟨mn, rfl, m1, m5⟩ : ∃ mn : Nat, m = mn ∧ 1 ≤ mn ∧ mn ≤ 5 := ⟨m.toNat, by omega, by omega, by omega⟩
  have hsa := ref25_SomeI fn a ha
  have hsb := ref25_SomeI fn b hb
  rw [sB_nat f1 f4, hA1] at hsa
  rw [sB_nat f1 f4, hs2] at hsb
  have his := ref08_Is_yes mn hmm.1 hmm.2
  have hff : ((fn : Int) != 4) = true := by rw [bne_iff_ne]; omega
  have ha' := Lib.hid ha
  have hb' := Lib.hid hb
  obtain ⟨a1, a2, a3, a4⟩ := someB_spec hA1
  obtain ⟨c1, c2, c3, c4⟩ := someB_spec hs2
  have hpin := fP_in fn
  have hfr := far_eq fn a b (wSig_lt fn a) (wSig_lt fn b)
  have va := ref07_Value fn f1 f4 a ha'.out a1
  have vb := ref07_Value fn f1 f4 b hb'.out c1
  have xa := wExp_in fn a
  have xb := wExp_in fn b
  have sa : wSig fn a < M := Nat.lt_trans (wSig_lt fn a) (small_M2 _ (by omega))
  have sb : wSig fn b < M := Nat.lt_trans (wSig_lt fn b) (small_M2 _ (by omega))
  have bga := fun w => ref02_Big (wSig fn a) sa w
  have bgb := fun w => ref02_Big (wSig fn b) sb w
  have lga := fun v w h => ref01_Len v (dl (wSig fn a)) (wSig fn a) w h
  have lgb := fun v w h => ref01_Len v (dl (wSig fn b)) (wSig fn b) w h
  have ka : (bl (wSig fn a) : Int) ≤ 200 := by have := (wSig_dl fn a).2; omega
  have kb' : (bl (wSig fn b) : Int) ≤ 200 := by have := (wSig_dl fn b).2; omega
  have ka0 : (0 : Int) ≤ (bl (wSig fn a) : Int) := by omega
  have kb0 : (0 : Int) ≤ (bl (wSig fn b) : Int) := by omega
  have W1 : IntKind.i64.wrap (wExp fn a + (bl (wSig fn a) : Int)) = wExp fn a + (bl (wSig fn a) : Int) := by rw [IntKind.wrap_i64]; omega
  have W2 : IntKind.i64.wrap (wExp fn a + (bl (wSig fn a) : Int) - wExp fn b) = wExp fn a + (bl (wSig fn a) : Int) - wExp fn b := by rw [IntKind.wrap_i64]; omega
  have W3 : IntKind.i64.wrap (wExp fn a + (bl (wSig fn a) : Int) - wExp fn b - (bl (wSig fn b) : Int)) = wExp fn a + (bl (wSig fn a) : Int) - wExp fn b - (bl (wSig fn b) : Int) := by rw [IntKind.wrap_i64]; omega
  have hfar1 : decide ((-40 : Int) ≤ wExp fn a + (bl (wSig fn a) : Int) - wExp fn b - (bl (wSig fn b) : Int)) = true := decide_eq_true (by omega)
  have hfar2 : decide (wExp fn a + (bl (wSig fn a) : Int) - wExp fn b - (bl (wSig fn b) : Int) ≤ 40) = true := decide_eq_true (by omega)
  obtain ⟨p0, p1, p2, p3, p4, p5, p6, p7, p8, p9, p10, p11, p12⟩ := hyp_in fn a b f1 f4 hf4 a3 c3 d1 d2
  obtain ⟨_, _, r1, _, _⟩ := hR_in fn a b p0 p1
  have hA := HA_yes fn f1 f4 a b hA1 hs2
  rw [show hyC fn (uExp fn a) (uSig fn a) (uExp fn b) (uSig fn b) = nbC false (2 * hM fn a b) (hP fn a b) by unfold hyC; rw [if_pos (by unfold hyOk; simp only [Bool.and_eq_true, decide_eq_true_eq]; omega)]; rfl] at hA
  have hW := hypW_P fn mn a b p0 p1
  have hfl := rndR_flags fn mn false (hX fn a b) (hQ fn a b) (hS fn a b)
  have hresM : (hypW fn mn a b).1 < M2 := Nat.lt_of_lt_of_le (rndR_lt fn mn false (hX fn a b) (hQ fn a b) (hS fn a b) (by omega)) (fB_M2 fn)
  have hfl' : (hypW fn mn a b).2 = 0 ∨ (hypW fn mn a b).2 = 16 ∨ (hypW fn mn a b).2 = 20 ∨ (hypW fn mn a b).2 = 24 := hfl
  have hmore : decide (hP fn a b * 2 ^ (2 * hyU (hP fn a b)) - hQ fn a b * hQ fn a b = 0) = !hS fn a b := by
    have e : hP fn a b * 2 ^ (2 * hyU (hP fn a b)) = hR fn a b := rfl
    rw [e]
    unfold hS
    by_cases h : hQ fn a b * hQ fn a b = hR fn a b
    · rw [decide_eq_true (by omega), decide_eq_false (by omega)]; rfl
    · rw [decide_eq_false (by omega), decide_eq_true (by omega)]; rfl
  obtain ⟨res, hres⟩ : ∃ res, hypW fn mn a b = res := ⟨_, rfl⟩
  have hfin := Lib.hid (fun bs br L (hS' : SetNew bs br L) (h1 : bs ≠ 0) (h2 : br ≠ 0) w hw ho => root_Hypot_yes bs br h1 h2 romN romN_ok (fun _ => 0) L (.inl ⟨hS', rfl, rfl⟩) kn k1 k4 (by simp) (by simp) fn f1 f4 mn m1 m5 a b (hM fn a b) (hP fn a b) (by omega) (by omega) p0 p1 hA (hQ fn a b) rfl (hS fn a b) hmore (by omega) (by omega) res.1 res.2 (hW.trans hres) w hw ho)
  have hks := hyp_known fn a b p0 p1
  have hbN : bl (hN fn a b) ≤ 187 := bl_le.2 p2
  have hdN : dl (hN fn a b) ≤ 100 := by have := dl_2pow (hN fn a b) 187 p2; omega
  have hhy := fun w => ref25_Hypot fn f1 f4 a b ha hb a1 c1 p11 p12 w
  have hrd := fun aN xN yN aD xD yD w (hN' : BigAt w (.slice aN xN yN) (dl (hN fn a b)) (hN fn a b)) (hD : BigAt w (.slice aD xD yD) (dl 1) 1) => ref09_Round fn f1 f4 mn m1 m5 false 2 (hN fn a b) 1 aN aD xN yN xD yD _ _ (2 * hE fn a b) _ (hX fn a b) (hQ fn a b) (hS fn a b) hks (by omega) (by omega) (by omega) (by omega) (by decide) (by omega) (by omega) (by omega) (by unfold hX; omega) (by unfold hX; omega)
    (by rw [bl_one, show ((2 : Nat) : Int) = 2 from rfl]; omega) (by rw [bl_one, show ((2 : Nat) : Int) = 2 from rfl]; omega) res.1 res.2 hres w (root_cmp false (hN fn a b) aN aD xN yN xD yD _ _ (2 * hE fn a b) (by omega) (by decide) (by omega) (by omega) w hN' hD) hN' hD
  rw [hres] at hfl' hresM
  obtain ⟨rw_, rf⟩ := res
  simp only at hrd hfin hfl' hresM
  unfold RlV at hrd
  have z1 : decide (rw_ = rw_) = true := by simp
  generalize hrom : romK kn (hP fn a b * 2 ^ (2 * hyU (hP fn a b))) romN = cr at *
  generalize hbump : bump kn (fun _ => 0) = qr at *
  clear hF hA hmore hres hW hfl hks hbN hdN p0 p1 p2 p3 p4 p5 p6 p7 p8 p9 p10 p11 p12 r1 hfr ka ka0 kb0 kb' xa xb f1 f4 hA1 hs2 a1 a2 a3 a4 c1 c2 c3 c4 hpin ha' hb' ha hb sa sb hf4 d1 d2 hmm m1 m5 hkk k1 k4 hrom hbump
  generalize hE fn a b = he at *
  generalize hN fn a b = hn at *
  unfold nbC at va vb
  have ya := nbC_one (wNeg fn a) (wExp fn a) (wSig fn a)
  have yb := nbC_one (wNeg fn b) (wExp fn b) (wSig fn b)
  unfold nbC at ya yb
  generalize wSig fn a = sga at *
  generalize wSig fn b = sgb at *
  generalize wExp fn a = exa at *
  generalize wExp fn b = exb at *
  generalize wNeg fn a = nga at *
  generalize wNeg fn b = ngb at *
  generalize (bl sga : Int) = kA at *
  generalize (bl sgb : Int) = kB at *
  generalize caseC kn fn mn a b = cs at *
  go_enter Tryz.func5, Tryz.ntmps5
  go_wp2_with ((first | (refine kb 1 hst rfl rfl ?_; clear hst; intro b1 w hb1 hst)); try simp only [pz, pn, sz, sc])
  go_cut [3, 4, 5] (fun s3 s4 s5 wx => ∃ b3, s3 = .pointer (some ⟨b3, 0, none⟩) ∧ s4 = .int .i64 rf ∧ s5 = .int .i64 0 ∧ w0.heap.size ≤ b3 ∧ St w0 [] [(b3, .cells (wdc rw_) 24), (b1, .cells cs 26)] wx)
  case first =>
    refine wp_region_T 17  hst (by kernel_rfl) ?_; clear hst; intro w hst; (try simp only [List.length_cons, List.length_nil, Nat.reduceAdd, Array.replicate_succ, Array.replicate_zero, List.push_toArray, List.nil_append, List.cons_append])
    refine r0 1 ?_; simp only [pz, pn, sz, sc]
    refine r0 3 ?_; simp only [pz, pn, sz, sc]
    refine r0 5 ?_; simp only [pz, pn, sz, sc]
    refine r0 7 ?_; simp only [pz, pn, sz, sc]
    refine r0 9 ?_; simp only [pz, pn, sz, sc]
    refine rl 2 rfl ?_ (ylC tc3); simp only [pz, pn, sz, sc]
    refine rl 4 rfl ?_ (ylC tc3); simp only [pz, pn, sz, sc]
    refine rl 6 rfl ?_ (ylC tc3); simp only [pz, pn, sz, sc]
    refine rl 8 rfl ?_ (by first | exact ylM ta24 (hc := hpa) | exact ylM ta24 (hc := hpb) | exact ylA ta24 | exact ylM ta24); simp only [pz, pn, sz, sc]
    refine rl 10 rfl ?_ (by first | exact ylM ta24 (hc := hpa) | exact ylM ta24 (hc := hpb) | exact ylA ta24 | exact ylM ta24); simp only [pz, pn, sz, sc]
    refine r2 0 16 ?_ ?_
    (refine kN (o := ⟨some 13, _, _, _, _, _⟩) gf8 hst (fun w hst => hnew w) rfl rfl rfl rfl ?_; clear hst; intro v13 L w hn13 hR13 hst; obtain ⟨bs, br, hsr, rfl, hS⟩ := hR13; (try simp only [List.cons_append, List.nil_append, List.append_nil, List.append_assoc] at hst); obtain ⟨hbs, hbr⟩ := new_ne hn13 hS hF'.out; have hbs0 : w0.heap.size ≤ bs := hn13.1 (bs, _) (by rw [hS]; exact List.Mem.head _); have hbr0 : w0.heap.size ≤ br := hn13.1 (br, _) (by rw [hS]; exact List.Mem.tail _ (List.Mem.head _))); (try simp only [pz, pn, sz, sc]); refine re ?_
    refine r2 11 16 ?_ ?_
    (refine kZ (o := ⟨some 24, _, _, _, _, _⟩) (fun L' => (b1, .cells cs 26) :: L') gf19 hst (fun w hst => hfin.out bs br L hS hbs hbr w (hk.out w hst.keeps) (hst.owns (L := L) (.there .here))) rfl rfl rfl rfl ?_ (ht := fun _ => (.there .here)); clear hst; intro v24 L24 w hR24 hnew24 hst; obtain ⟨rfl, hS1⟩ := hR24); (try simp only [pz, pn, sz, sc]); refine re ?_
    refine r0 12 ?_; simp only [pz, pn, sz, sc]
    refine r0 13 ?_; simp only [pz, pn, sz, sc]
    refine r0 14 ?_; simp only [pz, pn, sz, sc]
    refine r0 15 ?_; simp only [pz, pn, sz, sc]
    refine r1 16 ?_; (refine ka 3 hst tz24 rfl rfl ?_; clear hst; intro b3 w hb3 hst); (try simp only [pz, pn, sz, sc]); refine re ?_
    refine r1 17 ?_; (refine kt hst ta24 rfl rfl ?_; clear hst; intro w hst); (try simp only [pz, pn, sz, sc]); refine re ?_
    refine r0 18 ?_; simp only [pz, pn, sz, sc]
    refine r0 19 ?_; simp only [pz, pn, sz, sc]
    refine rd_ ?_
    rotate_left 1
    (refine ka 3 hst tz24 rfl rfl ?_; clear hst; intro b3 w hb3 hst); (try simp only [pz, pn, sz, sc]); refine re ?_
    refine r1 11 ?_; (refine kZ (o := ⟨some 24, _, _, _, _, _⟩) (fun L' => (b3, .cells (wc 2 0) 24) :: (b1, .cells cs 26) :: L') gf19 hst (fun w hst => hfin.out bs br L hS hbs hbr w (hk.out w hst.keeps) (hst.owns (L := L) (.there (.there .here)))) rfl rfl rfl rfl ?_ (ht := fun _ => (.there (.there .here))); clear hst; intro v24 L24 w hR24 hnew24 hst; obtain ⟨rfl, hS1⟩ := hR24); (try simp only [pz, pn, sz, sc]); refine re ?_
    refine r0 12 ?_; simp only [pz, pn, sz, sc]
    refine r0 13 ?_; simp only [pz, pn, sz, sc]
    refine r0 14 ?_; simp only [pz, pn, sz, sc]
    refine r0 15 ?_; simp only [pz, pn, sz, sc]
    refine r1 17 ?_; (refine kt hst ta24 rfl rfl ?_; clear hst; intro w hst); (try simp only [pz, pn, sz, sc]); refine re ?_
    refine r0 18 ?_; simp only [pz, pn, sz, sc]
    refine r0 19 ?_; simp only [pz, pn, sz, sc]
    refine rd_ ?_
    rotate_right 1
    rotate_left 2
    (refine ka 3 hst tz24 rfl rfl ?_; clear hst; intro b3 w hb3 hst); (try simp only [pz, pn, sz, sc]); refine re ?_
    refine r1 0 ?_; (refine kN (o := ⟨some 13, _, _, _, _, _⟩) gf8 hst (fun w hst => hnew w) rfl rfl rfl rfl ?_; clear hst; intro v13 L w hn13 hR13 hst; obtain ⟨bs, br, hsr, rfl, hS⟩ := hR13; (try simp only [List.cons_append, List.nil_append, List.append_nil, List.append_assoc] at hst); obtain ⟨hbs, hbr⟩ := new_ne hn13 hS hF'.out; have hbs0 : w0.heap.size ≤ bs := hn13.1 (bs, _) (by rw [hS]; exact List.Mem.head _); have hbr0 : w0.heap.size ≤ br := hn13.1 (br, _) (by rw [hS]; exact List.Mem.tail _ (List.Mem.head _))); (try simp only [pz, pn, sz, sc]); refine re ?_
    refine r1 11 ?_; (refine kZ (o := ⟨some 24, _, _, _, _, _⟩) (fun L' => (b3, .cells (wc 2 0) 24) :: (b1, .cells cs 26) :: L') gf19 hst (fun w hst => hfin.out bs br L hS hbs hbr w (hk.out w hst.keeps) (hst.owns (L := L) (.there (.there .here)))) rfl rfl rfl rfl ?_ (ht := fun _ => (.there (.there .here))); clear hst; intro v24 L24 w hR24 hnew24 hst; obtain ⟨rfl, hS1⟩ := hR24); (try simp only [pz, pn, sz, sc]); refine re ?_
    refine r0 12 ?_; simp only [pz, pn, sz, sc]
    refine r0 13 ?_; simp only [pz, pn, sz, sc]
    refine r0 14 ?_; simp only [pz, pn, sz, sc]
    refine r0 15 ?_; simp only [pz, pn, sz, sc]
    refine r1 17 ?_; (refine kt hst ta24 rfl rfl ?_; clear hst; intro w hst); (try simp only [pz, pn, sz, sc]); refine re ?_
    refine r0 18 ?_; simp only [pz, pn, sz, sc]
    refine r0 19 ?_; simp only [pz, pn, sz, sc]
    refine rd_ ?_
    rotate_right 2
    all_goals
      go_wp2_with fail
      go_meet
      exact ⟨b3, rfl, rfl, rfl, hb3, hst.sub (by repeat (first | exact List.Sublist.refl _ | exact List.nil_sublist _ | refine List.Sublist.cons_cons _ ?_ | refine List.Sublist.cons _ ?_))⟩
  case rest =>
    obtain ⟨b3, rfl, rfl, rfl, hb3, hst⟩ := hcut
    rename World => wx0
    go_wp2_with ((first | (refine klm hst ta24 rfl ?_ (hc := hpa)) | (refine klm hst ta24 rfl ?_ (hc := hpb)) | (refine kf gf10 hst (his) rfl rfl rfl rfl ?_; clear hst; intro w hst) | (refine kf gf11 hst (hsa) rfl rfl rfl rfl ?_; clear hst; intro w hst) | (refine kf gf11 hst (hsb) rfl rfl rfl rfl ?_; clear hst; intro w hst) | (refine wl_guard (by rfl) ?_) | (refine kc hst tc3 rfl ?_)); try simp only [pz, pn, sz, sc])
    go_cut [7, 8] (fun s7 s8 wx => ∃ b7 b8, s7 = .pointer (some ⟨b7, 0, none⟩) ∧ s8 = .pointer (some ⟨b8, 0, none⟩) ∧ w0.heap.size ≤ b7 ∧ w0.heap.size ≤ b8 ∧ St w0 [] [(b8, .cells (#[Value.bool ngb, .int .i64 exb] ++ wc 8 sgb) 46), (b7, .cells (#[Value.bool nga, .int .i64 exa] ++ wc 8 sga) 46), (b3, .cells (wdc rw_) 24), (b1, .cells cs 26)] wx)
    case first =>
      refine wp_region_TV 14 [(b1, .cells cs 26)] hst (by kernel_rfl) ?_; clear hst; intro w hst; (try simp only [List.length_cons, List.length_nil, Nat.reduceAdd, Array.replicate_succ, Array.replicate_zero, List.push_toArray, List.nil_append, List.cons_append])
      refine r0 0 ?_; simp only [pz, pn, sz, sc]
      refine r0 2 ?_; simp only [pz, pn, sz, sc]
      refine r0 5 ?_; simp only [pz, pn, sz, sc]
      refine r0 7 ?_; simp only [pz, pn, sz, sc]
      refine rl 1 rfl ?_ (ylC tc3); simp only [pz, pn, sz, sc]
      refine rl 3 rfl ?_ (by first | exact ylM ta24 (hc := hpa) | exact ylM ta24 (hc := hpb) | exact ylA ta24 | exact ylM ta24); simp only [pz, pn, sz, sc]
      refine rl 6 rfl ?_ (ylC tc3); simp only [pz, pn, sz, sc]
      refine rl 8 rfl ?_ (by first | exact ylM ta24 (hc := hpa) | exact ylM ta24 (hc := hpb) | exact ylA ta24 | exact ylM ta24); simp only [pz, pn, sz, sc]
      refine r3 4 10 11 ?_ ?_ ?_
      (refine kf gf14 hst (va) rfl rfl rfl rfl ?_; clear hst; intro w hst); (try simp only [pz, pn, sz, sc]); refine re ?_
      refine r3 9 10 11 ?_ ?_ ?_
      (refine kf gf14 hst (vb) rfl rfl rfl rfl ?_; clear hst; intro w hst); (try simp only [pz, pn, sz, sc]); refine re ?_
      refine r2 10 11 ?_ ?_
      (refine ka 7 hst tz46 rfl rfl ?_; clear hst; intro b7 w hb7 hst); (try simp only [pz, pn, sz, sc]); refine re ?_
      refine r1 11 ?_; (refine ka 8 hst tz46 rfl rfl ?_; clear hst; intro b8 w hb8 hst); (try simp only [pz, pn, sz, sc]); refine re ?_
      refine r1 12 ?_; (refine kt hst ta46 rfl rfl ?_; clear hst; intro w hst); (try simp only [pz, pn, sz, sc]); refine re ?_
      refine r1 13 ?_; (refine kt hst ta46 rfl rfl ?_; clear hst; intro w hst); (try simp only [pz, pn, sz, sc]); refine re ?_
      refine rd_ ?_
      rotate_left 1
      (refine ka 8 hst tz46 rfl rfl ?_; clear hst; intro b8 w hb8 hst); (try simp only [pz, pn, sz, sc]); refine re ?_
      refine r1 10 ?_; (refine ka 7 hst tz46 rfl rfl ?_; clear hst; intro b7 w hb7 hst); (try simp only [pz, pn, sz, sc]); refine re ?_
      refine r1 12 ?_; (refine kt hst ta46 rfl rfl ?_; clear hst; intro w hst); (try simp only [pz, pn, sz, sc]); refine re ?_
      refine r1 13 ?_; (refine kt hst ta46 rfl rfl ?_; clear hst; intro w hst); (try simp only [pz, pn, sz, sc]); refine re ?_
      refine rd_ ?_
      rotate_right 1
      rotate_left 2
      (refine ka 7 hst tz46 rfl rfl ?_; clear hst; intro b7 w hb7 hst); (try simp only [pz, pn, sz, sc]); refine re ?_
      refine r2 9 11 ?_ ?_
      (refine kf gf14 hst (vb) rfl rfl rfl rfl ?_; clear hst; intro w hst); (try simp only [pz, pn, sz, sc]); refine re ?_
      refine r1 11 ?_; (refine ka 8 hst tz46 rfl rfl ?_; clear hst; intro b8 w hb8 hst); (try simp only [pz, pn, sz, sc]); refine re ?_
      refine r1 12 ?_; (refine kt hst ta46 rfl rfl ?_; clear hst; intro w hst); (try simp only [pz, pn, sz, sc]); refine re ?_
      refine r1 13 ?_; (refine kt hst ta46 rfl rfl ?_; clear hst; intro w hst); (try simp only [pz, pn, sz, sc]); refine re ?_
      refine rd_ ?_
      rotate_left 1
      (refine ka 8 hst tz46 rfl rfl ?_; clear hst; intro b8 w hb8 hst); (try simp only [pz, pn, sz, sc]); refine re ?_
      refine r1 9 ?_; (refine kf gf14 hst (vb) rfl rfl rfl rfl ?_; clear hst; intro w hst); (try simp only [pz, pn, sz, sc]); refine re ?_
      refine r1 12 ?_; (refine kt hst ta46 rfl rfl ?_; clear hst; intro w hst); (try simp only [pz, pn, sz, sc]); refine re ?_
      refine r1 13 ?_; (refine kt hst ta46 rfl rfl ?_; clear hst; intro w hst); (try simp only [pz, pn, sz, sc]); refine re ?_
      refine rd_ ?_
      rotate_right 1
      rotate_left 2
      (refine ka 8 hst tz46 rfl rfl ?_; clear hst; intro b8 w hb8 hst); (try simp only [pz, pn, sz, sc]); refine re ?_
      refine r2 9 10 ?_ ?_
      (refine kf gf14 hst (vb) rfl rfl rfl rfl ?_; clear hst; intro w hst); (try simp only [pz, pn, sz, sc]); refine re ?_
      refine r1 10 ?_; (refine ka 7 hst tz46 rfl rfl ?_; clear hst; intro b7 w hb7 hst); (try simp only [pz, pn, sz, sc]); refine re ?_
      refine r1 12 ?_; (refine kt hst ta46 rfl rfl ?_; clear hst; intro w hst); (try simp only [pz, pn, sz, sc]); refine re ?_
      refine r1 13 ?_; (refine kt hst ta46 rfl rfl ?_; clear hst; intro w hst); (try simp only [pz, pn, sz, sc]); refine re ?_
      refine rd_ ?_
      rotate_left 1
      (refine ka 7 hst tz46 rfl rfl ?_; clear hst; intro b7 w hb7 hst); (try simp only [pz, pn, sz, sc]); refine re ?_
      refine r1 9 ?_; (refine kf gf14 hst (vb) rfl rfl rfl rfl ?_; clear hst; intro w hst); (try simp only [pz, pn, sz, sc]); refine re ?_
      refine r1 12 ?_; (refine kt hst ta46 rfl rfl ?_; clear hst; intro w hst); (try simp only [pz, pn, sz, sc]); refine re ?_
      refine r1 13 ?_; (refine kt hst ta46 rfl rfl ?_; clear hst; intro w hst); (try simp only [pz, pn, sz, sc]); refine re ?_
      refine rd_ ?_
      rotate_right 1
      rotate_right 4
      rotate_left 6
      (refine ka 7 hst tz46 rfl rfl ?_; clear hst; intro b7 w hb7 hst); (try simp only [pz, pn, sz, sc]); refine re ?_
      refine r2 4 11 ?_ ?_
      (refine kf gf14 hst (va) rfl rfl rfl rfl ?_; clear hst; intro w hst); (try simp only [pz, pn, sz, sc]); refine re ?_
      refine r2 9 11 ?_ ?_
      (refine kf gf14 hst (vb) rfl rfl rfl rfl ?_; clear hst; intro w hst); (try simp only [pz, pn, sz, sc]); refine re ?_
      refine r1 11 ?_; (refine ka 8 hst tz46 rfl rfl ?_; clear hst; intro b8 w hb8 hst); (try simp only [pz, pn, sz, sc]); refine re ?_
      refine r1 12 ?_; (refine kt hst ta46 rfl rfl ?_; clear hst; intro w hst); (try simp only [pz, pn, sz, sc]); refine re ?_
      refine r1 13 ?_; (refine kt hst ta46 rfl rfl ?_; clear hst; intro w hst); (try simp only [pz, pn, sz, sc]); refine re ?_
      refine rd_ ?_
      rotate_left 1
      (refine ka 8 hst tz46 rfl rfl ?_; clear hst; intro b8 w hb8 hst); (try simp only [pz, pn, sz, sc]); refine re ?_
      refine r1 9 ?_; (refine kf gf14 hst (vb) rfl rfl rfl rfl ?_; clear hst; intro w hst); (try simp only [pz, pn, sz, sc]); refine re ?_
      refine r1 12 ?_; (refine kt hst ta46 rfl rfl ?_; clear hst; intro w hst); (try simp only [pz, pn, sz, sc]); refine re ?_
      refine r1 13 ?_; (refine kt hst ta46 rfl rfl ?_; clear hst; intro w hst); (try simp only [pz, pn, sz, sc]); refine re ?_
      refine rd_ ?_
      rotate_right 1
      rotate_left 2
      (refine ka 8 hst tz46 rfl rfl ?_; clear hst; intro b8 w hb8 hst); (try simp only [pz, pn, sz, sc]); refine re ?_
      refine r1 4 ?_; (refine kf gf14 hst (va) rfl rfl rfl rfl ?_; clear hst; intro w hst); (try simp only [pz, pn, sz, sc]); refine re ?_
      refine r1 9 ?_; (refine kf gf14 hst (vb) rfl rfl rfl rfl ?_; clear hst; intro w hst); (try simp only [pz, pn, sz, sc]); refine re ?_
      refine r1 12 ?_; (refine kt hst ta46 rfl rfl ?_; clear hst; intro w hst); (try simp only [pz, pn, sz, sc]); refine re ?_
      refine r1 13 ?_; (refine kt hst ta46 rfl rfl ?_; clear hst; intro w hst); (try simp only [pz, pn, sz, sc]); refine re ?_
      refine rd_ ?_
      rotate_right 2
      rotate_left 3
      (refine ka 8 hst tz46 rfl rfl ?_; clear hst; intro b8 w hb8 hst); (try simp only [pz, pn, sz, sc]); refine re ?_
      refine r2 4 10 ?_ ?_
      (refine kf gf14 hst (va) rfl rfl rfl rfl ?_; clear hst; intro w hst); (try simp only [pz, pn, sz, sc]); refine re ?_
      refine r2 9 10 ?_ ?_
      (refine kf gf14 hst (vb) rfl rfl rfl rfl ?_; clear hst; intro w hst); (try simp only [pz, pn, sz, sc]); refine re ?_
      refine r1 10 ?_; (refine ka 7 hst tz46 rfl rfl ?_; clear hst; intro b7 w hb7 hst); (try simp only [pz, pn, sz, sc]); refine re ?_
      refine r1 12 ?_; (refine kt hst ta46 rfl rfl ?_; clear hst; intro w hst); (try simp only [pz, pn, sz, sc]); refine re ?_
      refine r1 13 ?_; (refine kt hst ta46 rfl rfl ?_; clear hst; intro w hst); (try simp only [pz, pn, sz, sc]); refine re ?_
      refine rd_ ?_
      rotate_left 1
      (refine ka 7 hst tz46 rfl rfl ?_; clear hst; intro b7 w hb7 hst); (try simp only [pz, pn, sz, sc]); refine re ?_
      refine r1 9 ?_; (refine kf gf14 hst (vb) rfl rfl rfl rfl ?_; clear hst; intro w hst); (try simp only [pz, pn, sz, sc]); refine re ?_
      refine r1 12 ?_; (refine kt hst ta46 rfl rfl ?_; clear hst; intro w hst); (try simp only [pz, pn, sz, sc]); refine re ?_
      refine r1 13 ?_; (refine kt hst ta46 rfl rfl ?_; clear hst; intro w hst); (try simp only [pz, pn, sz, sc]); refine re ?_
      refine rd_ ?_
      rotate_right 1
      rotate_left 2
      (refine ka 7 hst tz46 rfl rfl ?_; clear hst; intro b7 w hb7 hst); (try simp only [pz, pn, sz, sc]); refine re ?_
      refine r1 4 ?_; (refine kf gf14 hst (va) rfl rfl rfl rfl ?_; clear hst; intro w hst); (try simp only [pz, pn, sz, sc]); refine re ?_
      refine r1 9 ?_; (refine kf gf14 hst (vb) rfl rfl rfl rfl ?_; clear hst; intro w hst); (try simp only [pz, pn, sz, sc]); refine re ?_
      refine r1 12 ?_; (refine kt hst ta46 rfl rfl ?_; clear hst; intro w hst); (try simp only [pz, pn, sz, sc]); refine re ?_
      refine r1 13 ?_; (refine kt hst ta46 rfl rfl ?_; clear hst; intro w hst); (try simp only [pz, pn, sz, sc]); refine re ?_
      refine rd_ ?_
      rotate_right 2
      rotate_right 9
      all_goals
        go_wp2_with fail
        go_meet
        exact ⟨b7, b8, rfl, rfl, hb7, hb8, (((hst.front (b7, _) (by repeat (first | exact Out.head | apply Out.tail))).front (b8, _) (by repeat (first | exact Out.head | apply Out.tail))).sub (by repeat (first | exact List.Sublist.refl _ | exact List.nil_sublist _ | refine List.Sublist.cons_cons _ ?_ | refine List.Sublist.cons _ ?_)))⟩
    case rest =>
      obtain ⟨b7, b8, rfl, rfl, hb7, hb8, hst⟩ := hcut
      rename World => wx1
      go_wp2_with fail
      refine wp_region_T 16  hst (by kernel_rfl) ?_; clear hst; intro w hst; (try simp only [List.length_cons, List.length_nil, Nat.reduceAdd, Array.replicate_succ, Array.replicate_zero, List.push_toArray, List.nil_append, List.cons_append])
      refine r0 0 ?_; simp only [pz, pn, sz, sc, W1, W2, W3]
      refine r0 2 ?_; simp only [pz, pn, sz, sc, W1, W2, W3]
      refine r0 7 ?_; simp only [pz, pn, sz, sc, W1, W2, W3]
      refine r0 10 ?_; simp only [pz, pn, sz, sc, W1, W2, W3]
      refine rl 1 rfl ?_ (ylC tc3); simp only [pz, pn, sz, sc, W1, W2, W3]
      refine rl 3 rfl ?_ (by first | exact ylA ta44 | exact ylM ta44); simp only [pz, pn, sz, sc, W1, W2, W3]
      refine rl 8 rfl ?_ (ylC tc3); simp only [pz, pn, sz, sc, W1, W2, W3]
      refine rl 11 rfl ?_ (by first | exact ylA ta44 | exact ylM ta44); simp only [pz, pn, sz, sc, W1, W2, W3]
      refine r1 4 ?_; (refine wl_callB (o := ⟨some 87, _, _, _, _, _⟩) gf16 hst (fun w hst => bga w) rfl rfl rfl rfl rfl ?_; clear hst; intro v87 Lg87 w hb87 hst; (try simp only [List.cons_append, List.nil_append, List.append_nil, List.append_assoc] at hst)); (try simp only [pz, pn, sz, sc, W1, W2, W3]); refine re ?_
      refine r1 5 ?_; (refine kg gf20 hst (fun w hst => lga _ w (hb87.at hst (fun x h => by simp [h]))) rfl rfl rfl rfl ?_; clear hst; intro w hst); (try simp only [pz, pn, sz, sc, W1, W2, W3]); refine re ?_
      refine r0 6 ?_; simp only [pz, pn, sz, sc, W1, W2, W3]
      refine r0 9 ?_; simp only [pz, pn, sz, sc, W1, W2, W3]
      refine r1 12 ?_; (refine wl_callB (o := ⟨some 95, _, _, _, _, _⟩) gf16 hst (fun w hst => bgb w) rfl rfl rfl rfl rfl ?_; clear hst; intro v95 Lg95 w hb95 hst; (try simp only [List.cons_append, List.nil_append, List.append_nil, List.append_assoc] at hst)); (try simp only [pz, pn, sz, sc, W1, W2, W3]); refine re ?_
      refine r1 13 ?_; (refine kg gf20 hst (fun w hst => lgb _ w (hb95.at hst (fun x h => by simp [h]))) rfl rfl rfl rfl ?_; clear hst; intro w hst); (try simp only [pz, pn, sz, sc, W1, W2, W3]); refine re ?_
      refine r0 14 ?_; simp only [pz, pn, sz, sc, W1, W2, W3]
      refine r0 15 ?_; simp only [pz, pn, sz, sc, W1, W2, W3]
      refine rd_ ?_
      generalize exa + kA - exb - kB = fr at *
      go_wp2_with ((first | (refine wl_guard (by rfl) ?_)); try simp only [pz, pn, sz, sc])
      go_cut [10, 11] (fun s10 s11 wx => ∃ b10, s10 = .pointer (some ⟨b10, 0, none⟩) ∧ s11 = .int .i64 rf ∧ w0.heap.size ≤ b10 ∧ St w0 [] [(b10, .cells (wdc rw_) 24), (b3, .cells (wdc rw_) 24), (b1, .cells cs 26)] wx)
      case first =>
        refine wp_region_TV 18 [(b1, .cells cs 26)] hst (by kernel_rfl) ?_; clear hst; intro w hst; (try simp only [List.length_cons, List.length_nil, Nat.reduceAdd, Array.replicate_succ, Array.replicate_zero, List.push_toArray, List.nil_append, List.cons_append])
        refine r0 0 ?_; simp only [pz, pn, sz, sc]
        refine r0 2 ?_; simp only [pz, pn, sz, sc]
        refine r0 4 ?_; simp only [pz, pn, sz, sc]
        refine r0 6 ?_; simp only [pz, pn, sz, sc]
        refine r0 8 ?_; simp only [pz, pn, sz, sc]
        refine rl 1 rfl ?_ (ylC tc3); simp only [pz, pn, sz, sc]
        refine rl 3 rfl ?_ (ylC tc3); simp only [pz, pn, sz, sc]
        refine rl 5 rfl ?_ (ylC tc3); simp only [pz, pn, sz, sc]
        refine rl 7 rfl ?_ (by first | exact ylM ta24 (hc := hpa) | exact ylM ta24 (hc := hpb) | exact ylA ta24 | exact ylM ta24); simp only [pz, pn, sz, sc]
        refine rl 9 rfl ?_ (by first | exact ylM ta24 (hc := hpa) | exact ylM ta24 (hc := hpb) | exact ylA ta24 | exact ylM ta24); simp only [pz, pn, sz, sc]
        refine r2 10 15 ?_ ?_
        (refine kN (o := ⟨some 131, _, _, _, _, _⟩) gf22 hst (fun w hst => hhy w) rfl rfl rfl rfl ?_; clear hst; intro v131 Lg131 w hn131 hR131 hst; (try simp only [List.cons_append, List.nil_append, List.append_nil, List.append_assoc] at hst); obtain ⟨sN, sD, LN, LD, rfl, hbN, hbD, hLN, hLD⟩ := hR131; obtain ⟨aN, xN, yN, rfl⟩ := hbN.slice; obtain ⟨aD, xD, yD, rfl⟩ := hbD.slice; unfold RlV); (try simp only [pz, pn, sz, sc]); refine re ?_
        refine r2 11 15 ?_ ?_
        (refine kg gf21 hst (fun w hst => hrd aN xN yN aD xD yD w (hbN.at hst (fun x h => by have := hLN x h; simp [this])) (hbD.at hst (fun x h => by have := hLD x h; simp [this]))) rfl rfl rfl rfl ?_; clear hst; intro w hst); (try simp only [pz, pn, sz, sc]); refine re ?_
        refine r0 12 ?_; simp only [pz, pn, sz, sc]
        refine r0 13 ?_; simp only [pz, pn, sz, sc]
        refine r0 14 ?_; simp only [pz, pn, sz, sc]
        refine r1 15 ?_; (refine ka 10 hst tz24 rfl rfl ?_; clear hst; intro b10 w hb10 hst); (try simp only [pz, pn, sz, sc]); refine re ?_
        refine r1 16 ?_; (refine kt hst ta24 rfl rfl ?_; clear hst; intro w hst); (try simp only [pz, pn, sz, sc]); refine re ?_
        refine r0 17 ?_; simp only [pz, pn, sz, sc]
        refine rd_ ?_
        rotate_left 1
        (refine ka 10 hst tz24 rfl rfl ?_; clear hst; intro b10 w hb10 hst); (try simp only [pz, pn, sz, sc]); refine re ?_
        refine r1 11 ?_; (refine kg gf21 hst (fun w hst => hrd aN xN yN aD xD yD w (hbN.at hst (fun x h => by have := hLN x h; simp [this])) (hbD.at hst (fun x h => by have := hLD x h; simp [this]))) rfl rfl rfl rfl ?_; clear hst; intro w hst); (try simp only [pz, pn, sz, sc]); refine re ?_
        refine r0 12 ?_; simp only [pz, pn, sz, sc]
        refine r0 13 ?_; simp only [pz, pn, sz, sc]
        refine r0 14 ?_; simp only [pz, pn, sz, sc]
        refine r1 16 ?_; (refine kt hst ta24 rfl rfl ?_; clear hst; intro w hst); (try simp only [pz, pn, sz, sc]); refine re ?_
        refine r0 17 ?_; simp only [pz, pn, sz, sc]
        refine rd_ ?_
        rotate_right 1
        rotate_left 2
        (refine ka 10 hst tz24 rfl rfl ?_; clear hst; intro b10 w hb10 hst); (try simp only [pz, pn, sz, sc]); refine re ?_
        refine r1 10 ?_; (refine kN (o := ⟨some 131, _, _, _, _, _⟩) gf22 hst (fun w hst => hhy w) rfl rfl rfl rfl ?_; clear hst; intro v131 Lg131 w hn131 hR131 hst; (try simp only [List.cons_append, List.nil_append, List.append_nil, List.append_assoc] at hst); obtain ⟨sN, sD, LN, LD, rfl, hbN, hbD, hLN, hLD⟩ := hR131; obtain ⟨aN, xN, yN, rfl⟩ := hbN.slice; obtain ⟨aD, xD, yD, rfl⟩ := hbD.slice; unfold RlV); (try simp only [pz, pn, sz, sc]); refine re ?_
        refine r1 11 ?_; (refine kg gf21 hst (fun w hst => hrd aN xN yN aD xD yD w (hbN.at hst (fun x h => by have := hLN x h; simp [this])) (hbD.at hst (fun x h => by have := hLD x h; simp [this]))) rfl rfl rfl rfl ?_; clear hst; intro w hst); (try simp only [pz, pn, sz, sc]); refine re ?_
        refine r0 12 ?_; simp only [pz, pn, sz, sc]
        refine r0 13 ?_; simp only [pz, pn, sz, sc]
        refine r0 14 ?_; simp only [pz, pn, sz, sc]
        refine r1 16 ?_; (refine kt hst ta24 rfl rfl ?_; clear hst; intro w hst); (try simp only [pz, pn, sz, sc]); refine re ?_
        refine r0 17 ?_; simp only [pz, pn, sz, sc]
        refine rd_ ?_
        rotate_right 2
        all_goals
          go_wp2_with fail
          go_meet
          exact ⟨b10, rfl, rfl, hb10, ((((hst.front (b1, _) (by repeat (first | exact Out.head | apply Out.tail | apply Out.app))).front (b3, _) (by repeat (first | exact Out.head | apply Out.tail | apply Out.app))).front (b10, _) (by repeat (first | exact Out.head | apply Out.tail | apply Out.app))).sub (by repeat (first | exact List.Sublist.refl _ | exact List.nil_sublist _ | refine List.Sublist.cons_cons _ ?_ | refine List.Sublist.cons _ ?_)))⟩
      case rest =>
        obtain ⟨b10, rfl, rfl, hb10, hst⟩ := hcut
        rename World => wx2
        go_wp2_with ((first | (refine kg gf9 hst (fun w hst => haw w (hk.out w hst.keeps)) rfl rfl rfl rfl ?_; clear hst; intro w hst) | (refine wl_guard (by rfl) ?_) | (refine kl hst ta24 rfl ?_) | (refine keS tf24 tc22 rfl ?_)); try simp only [pz, pn, sz, sc])
        refine bp_t rfl rfl (by rfl) ⟨?_, hst.keeps⟩
        rfl

end Go.Proofs.YtefpoconpeggpaaGreatDoor.Rd
