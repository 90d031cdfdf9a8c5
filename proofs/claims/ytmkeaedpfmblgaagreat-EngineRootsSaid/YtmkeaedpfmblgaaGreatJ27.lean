/- EngineRoots: the law answers true for every input, given the kit's model of the program; each argument reads afterwards as before; no further condition. -/
import Derived.Test.YtmkeaedpfmblgaaGreatJ25
import Derived.Test.YtmkeaedpfmblgaaGreatJ26
import Derived.Test.YtmkeaedpfmblgaaGreatRows
namespace Go.Proofs.YtmkeaedpfmblgaaGreat.Rd
open Go Go.RowKit
set_option linter.unusedVariables false
set_option linter.unusedSimpArgs false
set_option maxRecDepth 100000

theorem rootQ_M (n : Nat) : rootQ n < M := by
  unfold rootQ; split
  · rename_i h; exact (sqrt_le h).2.2
  · exact M_pos
theorem rootM_M (n : Nat) (hn : n < M) : rootM n < M := by
  unfold rootM; split
  · exact Nat.lt_of_le_of_lt (Nat.sub_le _ _) hn
  · exact M_pos

set_option maxHeartbeats 2000000 in
theorem law12_Holds (n : Nat) (hn : n < M) : Gives Tryz.prog 13 #[W n, W (rootQ n), W (rootM n), .int .i64 (rootE n)] (.bool true) := by
  intro w0
  have hst := St.start [] w0
  have hmay := ref12_May n hn
  have m1 := rootQ_M n
  have m2 := rootM_M n hn
  by_cases h : n < 2 ^ 256
  · have hr := ref12_Root n h
    unfold rootQ rootM rootE at *
    simp only [if_pos h] at *
    rw [decide_eq_true h] at hmay
    have d1 : decide (isqrt n = isqrt n) = true := by simp
    have d2 : decide (n - isqrt n * isqrt n = n - isqrt n * isqrt n) = true := by simp
    clear h
    generalize n - isqrt n * isqrt n = y at *
    generalize isqrt n = x at *
    go_enter Tryz.func13, Tryz.ntmps13
    go_wp2_with ((first | (refine kf gf24 hst (hmay) rfl rfl rfl rfl ?_; clear hst; intro w hst) | (refine kf gf25 hst (hr) rfl rfl rfl rfl ?_; clear hst; intro w hst) | (refine wl_guard (by rfl) ?_) | (refine kb 4 hst rfl rfl ?_; clear hst; intro b4 w hb4 hst) | (refine kb 5 hst rfl rfl ?_; clear hst; intro b5 w hb5 hst) | (refine kb 6 hst rfl rfl ?_; clear hst; intro b6 w hb6 hst) | (refine kl hst ta24 rfl ?_) | (refine klm hst ta24 rfl ?_) | (refine ke tr24 tc22 rfl ?_) | (refine ka 9 hst tz24 rfl rfl ?_; clear hst; intro b9 w hb9 hst) | (refine ka 10 hst tz24 rfl rfl ?_; clear hst; intro b10 w hb10 hst) | (refine kt hst ta24 rfl rfl ?_; clear hst; intro w hst) | (refine ktm hst ta24 rfl rfl ?_; clear hst; intro w hst)); try simp only [pz, pn, sz, sc])
    refine bp_t rfl rfl (by rfl) ⟨?_, hst.keeps⟩
    rfl
  · unfold rootQ rootM rootE at *
    simp only [if_neg h] at *
    rw [decide_eq_false h] at hmay
    have d1 : decide (0 = 0) = true := rfl
    clear h
    go_enter Tryz.func13, Tryz.ntmps13
    go_wp2_with ((first | (refine kf gf24 hst (hmay) rfl rfl rfl rfl ?_; clear hst; intro w hst) | (refine wl_guard (by rfl) ?_) | (refine kb 4 hst rfl rfl ?_; clear hst; intro b4 w hb4 hst) | (refine kb 5 hst rfl rfl ?_; clear hst; intro b5 w hb5 hst) | (refine kb 6 hst rfl rfl ?_; clear hst; intro b6 w hb6 hst) | (refine kl hst ta24 rfl ?_) | (refine klm hst ta24 rfl ?_) | (refine ke tr24 tc22 rfl ?_) | (refine ka 9 hst tz24 rfl rfl ?_; clear hst; intro b9 w hb9 hst) | (refine ka 10 hst tz24 rfl rfl ?_; clear hst; intro b10 w hb10 hst) | (refine kt hst ta24 rfl rfl ?_; clear hst; intro w hst) | (refine ktm hst ta24 rfl rfl ?_; clear hst; intro w hst)); try simp only [pz, pn, sz, sc])
    refine bp_t rfl rfl (by rfl) ⟨?_, hst.keeps⟩
    rfl

theorem engA_iface (k c1 c2 c3 c4 : Nat) : ∃ t v, engA k c1 c2 c3 c4 = .iface t v := by
  unfold engA eA1 eA2 eA3 eA4
  by_cases h1 : k = 1
  · exact ⟨_, _, if_pos h1⟩
  · rw [if_neg h1]
    by_cases h2 : k = 2
    · exact ⟨_, _, if_pos h2⟩
    · rw [if_neg h2]
      by_cases h3 : k = 3
      · exact ⟨_, _, if_pos h3⟩
      · exact ⟨_, _, if_neg h3⟩

set_option maxHeartbeats 8000000 in
theorem law_EngineRoots (n : Nat) (hn : n < M) (k : Int) : Gives Tryz.prog 4 #[W n, .int .i64 k] (.bool true) := by
  intro w0
  have hst := St.start [] w0
  have hnew := fun w => engine_New w
  have hH := law12_Holds n hn
  have haw := law_awake
  have hn' := Lib.hid hn
  have hkk := Lib.hid (show (∃ kn : Nat, k = (kn : Int) ∧ 1 ≤ kn ∧ kn ≤ 4) ∨ (k < 1 ∨ 4 < k) by
    by_cases h : 1 ≤ k ∧ k ≤ 4
    · exact .inl ⟨k.toNat, by omega, by omega, by omega⟩
    · exact .inr (by omega))
  have m1 := rootQ_M n
  have m2 := rootM_M n hn
  clear hn
  go_enter Tryz.func4, Tryz.ntmps4
  go_wp2_with ((first | (refine kN (o := ⟨some 18, _, _, _, _, _⟩) gf6 hst (fun w hst => hnew w) rfl rfl rfl rfl ?_; clear hst; intro v18 L w hn18 hR18 hst; obtain ⟨bs, br, hsr, rfl, hS⟩ := hR18; (try simp only [List.cons_append, List.nil_append, List.append_nil, List.append_assoc] at hst); have hbs : w0.heap.size ≤ bs := hn18.1 (bs, _) (by rw [hS]; exact List.Mem.head _); have hbr : w0.heap.size ≤ br := hn18.1 (br, _) (by rw [hS]; exact List.Mem.tail _ (List.Mem.head _))) | (refine wl_guard (by rfl) ?_) | (refine kb 2 hst rfl rfl ?_; clear hst; intro b2 w hb2 hst) | (refine kl hst ta24 rfl ?_) | (refine klm hst ta24 rfl ?_) | (refine ka 7 hst tz24 rfl rfl ?_; clear hst; intro b7 w hb7 hst) | (refine ka 8 hst tz24 rfl rfl ?_; clear hst; intro b8 w hb8 hst) | (refine kt hst ta24 rfl rfl ?_; clear hst; intro w hst) | (refine ktm hst ta24 rfl rfl ?_; clear hst; intro w hst) | (refine ka 12 hst tz24 rfl rfl ?_; clear hst; intro b12 w hb12 hst) | (refine ka 13 hst tz24 rfl rfl ?_; clear hst; intro b13 w hb13 hst) | (refine kn tr24 tc22 rfl ?_) | (refine ka 15 hst tz24 rfl rfl ?_; clear hst; intro b15 w hb15 hst) | (refine ka 16 hst tz24 rfl rfl ?_; clear hst; intro b16 w hb16 hst) | (refine ke tr24 tc22 rfl ?_)); try simp only [pz, pn, sz, sc])
  go_loopw [6] (fun vi wr => ∃ (i : Nat) (c : Array Value) (q : Nat → Int) (L : List (Nat × Obj)), 1 ≤ i ∧ i ≤ 5 ∧ vi = .int .i64 i ∧ RomOk c ∧ SetSt bs br c q L ∧ (∀ j, 0 ≤ q j ∧ q j ≤ i) ∧ St w0 [] ((b2, .cells (wc 8 n) 24) :: L) wr) (fun vi _ => 5 - (intOf vi).toNat)
  case atStart => exact ⟨1, romN, fun _ => 0, L, by omega, by omega, rfl, romN_ok, .inl ⟨hS, rfl, rfl⟩, fun j => by simp, hst⟩
  case round =>
    clear hst hS hn18 hnew hsr
    obtain ⟨i, c, q, L, hi1, hi5, rfl, hc, hS, hq, hst⟩ := hrel
    by_cases hlt : i ≤ 4
    · have h4 : (i : Int) ≤ 4 := by omega
      have hroot := fun w (ho : Owns w L) => engine_Root bs br c hc q L hS i hi1 hlt (hq i).1 (by have := (hq i).2; omega) n hn'.out w ho
      have hc' := romK_ok (k := i) (n := n) hc
      have hof := fun c1 c2 c3 c4 w (ho : Owns w (EngL bs br (romK i n c) c1 c2 c3 c4 (bump i q))) => engine_Of bs br (romK i n c) (bump i q) _ (.inr ⟨c1, c2, c3, c4, rfl⟩) i hi1 hlt w ho
      have hmeth := fun d1 d2 d3 d4 => (show ∃ f x, (∀ w, (callMethod (engA i d1 d2 d3 d4) "Root" #[W n]).run Tryz.prog w = .ok (.enter f #[x, W n]) w) ∧ Hid (∀ w, Owns w (EngL bs br (romK i n c) d1 d2 d3 d4 (bump i q)) → GivesT Tryz.prog f #[x, W n] (.tuple #[W (rootQ n), W (rootM n), .int .i64 (rootE n)]) [(br, .cells (romK i n c) 80)] [(br, .cells (romK i n (romK i n c)) 80)] w) by
        obtain ⟨f, x, hm, hr⟩ := eng_root bs br (romK i n c) hc' d1 d2 d3 d4 (bump i q) i n hi1 hlt hn'.out
        rw [rootV_eq] at hr
        exact ⟨f, x, hm, Lib.hid hr⟩)
      have hc2 := romK_ok (k := i) (n := n) hc'
      have hq' : ∀ j, 0 ≤ bump i q j ∧ bump i q j ≤ ((i + 1 : Nat) : Int) := fun j => by
        have := hq j
        unfold bump; split <;> omega
      have d1' : decide (rootQ n = rootQ n) = true := by simp
      have d2' : decide (rootM n = rootM n) = true := by simp
      have hfin := Lib.hid hc2
      have hq2 := Lib.hid hq'
      clear hc hS hq hc' hc2 hq'
      generalize romK i n (romK i n c) = c'' at *
      generalize romK i n c = c' at *
      generalize rootQ n = x1 at *
      generalize rootM n = x2 at *
      generalize rootE n = x3 at *
      go_wp2_with ((first | (refine kZ (o := ⟨some 29, _, _, _, _, _⟩) (fun L' => (b2, .cells (wc 8 n) 24) :: L') gf12 hst (fun w hst => hroot w (hst.owns (L := L) (.there .here))) rfl rfl rfl rfl ?_; clear hst; intro v29 L1 w hR1 hnew1 hst; obtain ⟨rfl, c1, c2, c3, c4, rfl⟩ := hR1) | (refine kf gf13 hst (hH) rfl rfl rfl rfl ?_; clear hst; intro w hst) | (refine kZ (fun L' => (b8, .cells (wc 8 x2) 24) :: (b7, .cells (wc 8 x1) 24) :: (b2, .cells (wc 8 n) 24) :: L') gf9 hst (fun w hst => hof c1 c2 c3 c4 w (hst.owns (L := EngL bs br c' c1 c2 c3 c4 (bump i q)) (.there (.there (.there .here))))) rfl rfl rfl rfl ?_; clear hst; intro v42 L2 w hR2 hnew2 hst; obtain ⟨d1, d2, d3, d4, rfl, rfl⟩ := hR2; obtain ⟨ti, vi, hA⟩ := engA_iface i d1 d2 d3 d4; obtain ⟨f, x, hm, hr'⟩ := hmeth d1 d2 d3 d4; rw [hA] at hm ⊢; unfold EngL at hst) | (refine kTI hst (fun w hst => hr'.out w (hst.owns (L := []) (L' := EngL bs br c' d1 d2 d3 d4 (bump i q)) (X := [_, _, _]) (.there (.there (.there .here))))) hm rfl rfl rfl rfl ?_; clear hst; intro w hst) | (refine wl_guard (by rfl) ?_) | (refine kb 2 hst rfl rfl ?_; clear hst; intro b2 w hb2 hst) | (refine kl hst ta24 rfl ?_) | (refine klm hst ta24 rfl ?_) | (refine ka 7 hst tz24 rfl rfl ?_; clear hst; intro b7 w hb7 hst) | (refine ka 8 hst tz24 rfl rfl ?_; clear hst; intro b8 w hb8 hst) | (refine kt hst ta24 rfl rfl ?_; clear hst; intro w hst) | (refine ktm hst ta24 rfl rfl ?_; clear hst; intro w hst) | (refine ka 12 hst tz24 rfl rfl ?_; clear hst; intro b12 w hb12 hst) | (refine ka 13 hst tz24 rfl rfl ?_; clear hst; intro b13 w hb13 hst) | (refine kn tr24 tc22 rfl ?_) | (refine ka 15 hst tz24 rfl rfl ?_; clear hst; intro b15 w hb15 hst) | (refine ka 16 hst tz24 rfl rfl ?_; clear hst; intro b16 w hb16 hst) | (refine ke tr24 tc22 rfl ?_)); try simp only [pz, pn, sz, sc])
      go_roundw
      case rel => exact ⟨i + 1, c'', bump i q, EngL bs br c'' d1 d2 d3 d4 (bump i q), by omega, by omega, by go_num, hfin.out, .inr ⟨d1, d2, d3, d4, rfl⟩, hq2.out, hst.sub (by unfold EngL; repeat (first | exact List.Sublist.refl _ | exact List.nil_sublist _ | refine List.Sublist.cons_cons _ ?_ | refine List.Sublist.cons _ ?_))⟩
      case measure => (simp [intOf]; try omega)
    · obtain rfl : i = 5 := by omega
      have d1' : decide (rootQ n = rootQ n) = true := by simp
      rcases hkk.out with ⟨kn, hkn, k1, k2⟩ | hno
      · have his := law_is_yes k (by omega) (by omega)
        have hroot := fun w (ho : Owns w L) => engine_Root bs br c hc q L hS kn k1 k2 (hq kn).1 (by have := (hq kn).2; omega) n hn'.out w ho
        rw [← hkn] at hroot
        clear hc hS hq hkk k1 k2 hkn d1' hlt
        generalize rootQ n = x1 at *
        generalize rootM n = x2 at *
        generalize rootE n = x3 at *
        go_wp2_with ((first | (refine kZ (o := ⟨some 75, _, _, _, _, _⟩) (fun L' => (b2, .cells (wc 8 n) 24) :: L') gf12 hst (fun w hst => hroot w (hst.owns (L := L) (.there .here))) rfl rfl rfl rfl ?_; clear hst; intro v75 L1 w hR1 hnew1 hst; obtain ⟨rfl, c1, c2, c3, c4, rfl⟩ := hR1) | (refine kf gf10 hst (his) rfl rfl rfl rfl ?_; clear hst; intro w hst) | (refine kf gf13 hst (hH) rfl rfl rfl rfl ?_; clear hst; intro w hst) | (refine kf gf11 hst (haw) rfl rfl rfl rfl ?_; clear hst; intro w hst) | (refine wl_guard (by rfl) ?_) | (refine kb 2 hst rfl rfl ?_; clear hst; intro b2 w hb2 hst) | (refine kl hst ta24 rfl ?_) | (refine klm hst ta24 rfl ?_) | (refine ka 7 hst tz24 rfl rfl ?_; clear hst; intro b7 w hb7 hst) | (refine ka 8 hst tz24 rfl rfl ?_; clear hst; intro b8 w hb8 hst) | (refine kt hst ta24 rfl rfl ?_; clear hst; intro w hst) | (refine ktm hst ta24 rfl rfl ?_; clear hst; intro w hst) | (refine ka 12 hst tz24 rfl rfl ?_; clear hst; intro b12 w hb12 hst) | (refine ka 13 hst tz24 rfl rfl ?_; clear hst; intro b13 w hb13 hst) | (refine kn tr24 tc22 rfl ?_) | (refine ka 15 hst tz24 rfl rfl ?_; clear hst; intro b15 w hb15 hst) | (refine ka 16 hst tz24 rfl rfl ?_; clear hst; intro b16 w hb16 hst) | (refine ke tr24 tc22 rfl ?_)); try simp only [pz, pn, sz, sc])
        refine bp_t rfl rfl (by rfl) ⟨?_, hst.keeps⟩
        rfl
      · have his := law_is_no k hno
        have hroot := engine_Root_no bs k hno n
        have d0 : decide (0 = 0) = true := rfl
        have m0 : 0 < M := M_pos
        clear hc hS hq hkk hno d1' hlt
        generalize rootQ n = x1 at *
        generalize rootM n = x2 at *
        generalize rootE n = x3 at *
        go_wp2_with ((first | (refine kf gf12 hst (hroot) rfl rfl rfl rfl ?_; clear hst; intro w hst) | (refine kf gf10 hst (his) rfl rfl rfl rfl ?_; clear hst; intro w hst) | (refine kf gf11 hst (haw) rfl rfl rfl rfl ?_; clear hst; intro w hst) | (refine wl_guard (by rfl) ?_) | (refine kb 2 hst rfl rfl ?_; clear hst; intro b2 w hb2 hst) | (refine kl hst ta24 rfl ?_) | (refine klm hst ta24 rfl ?_) | (refine ka 7 hst tz24 rfl rfl ?_; clear hst; intro b7 w hb7 hst) | (refine ka 8 hst tz24 rfl rfl ?_; clear hst; intro b8 w hb8 hst) | (refine kt hst ta24 rfl rfl ?_; clear hst; intro w hst) | (refine ktm hst ta24 rfl rfl ?_; clear hst; intro w hst) | (refine ka 12 hst tz24 rfl rfl ?_; clear hst; intro b12 w hb12 hst) | (refine ka 13 hst tz24 rfl rfl ?_; clear hst; intro b13 w hb13 hst) | (refine kn tr24 tc22 rfl ?_) | (refine ka 15 hst tz24 rfl rfl ?_; clear hst; intro b15 w hb15 hst) | (refine ka 16 hst tz24 rfl rfl ?_; clear hst; intro b16 w hb16 hst) | (refine ke tr24 tc22 rfl ?_)); try simp only [pz, pn, sz, sc])
        refine bp_t rfl rfl (by rfl) ⟨?_, hst.keeps⟩
        rfl

end Go.Proofs.YtmkeaedpfmblgaaGreat.Rd

namespace Go.Proofs.YtmkeaedpfmblgaaGreat.RwER
open Go Go.ChangeShapes Go.WideShapes Go.ChangeAt Go.RowKit Go.Proofs.YtmkeaedpfmblgaaGreat.Rd Go.Proofs.YtmkeaedpfmblgaaGreat.Rw

set_option maxRecDepth 100000 in
theorem lifted (os : Os) (started : os.Started) (H : Type) (enc : TypeId × Value → H) :
    ReturnsInHanded {} Tryz.checked os 4 .any (Rows.engineRootsSpec.pre6 enc Tryz.prog Tryz.f4 Rows.engineRootsRow.domain false)
      (Rows.engineRootsSpec.post enc Tryz.prog Tryz.f4 false true false false) := by
  refine returnsInHanded_of_change (C := Tryz.checked) own started (by kernel_rfl) Tryz.func4
    (ChangeSpec.witness6 (enc := enc) (C := Tryz.checked) false ⟨#[], #[W 0, .int .i64 0], []⟩ 8 (by kernel_rfl) (by kernel_rfl) (by kernel_rfl) (by kernel_rfl)) ?_
  intro W base args ds gs before hval0 hW hc _
  have hval : ∀ (j : Nat) t v, Tryz.f4.params[j]? = some t → args[j]? = some v → Value.okWide Tryz.prog W .any base t v := hval0
  have hW' := hW
  obtain ⟨p, q, hA0, hV, rfl, _, _⟩ := hW
  have hA : DataW.TrodAll enc Tryz.prog W 0 (fun _ => true) true Tryz.f4.params.toList args.toList ds p := hA0
  rw [Tryz.params4] at hA hval
  obtain ⟨v0, v1, d0, d1, p0, p1, rfl, rfl, rfl, h0, h1⟩ := trodAll_two hA
  obtain ⟨rfl, rfl⟩ := trodVars_none hV
  obtain ⟨n, hn, rfl, rfl, rfl⟩ := open_words (t := 24) (e := 22) (k := 8) (by kernel_rfl) (by kernel_rfl) (by kernel_rfl) (by kernel_rfl) (hval 0 24 v0 rfl rfl) h0
  obtain ⟨k, rfl, rfl, rfl, hki⟩ := open_int Tryz.underlying3 (hval 1 3 v1 rfl rfl) h1
  simp only [List.append_nil] at hW'
  refine (law_EngineRoots n (by rw [M_eq]; exact hn) k W).mono fun e W' ⟨he, hk⟩ => ?_
  subst he
  exact ⟨_, rfl, post_of_keeps (pa := []) (pv := []) hW' (fun _ _ _ => trodAll_mk1 (shut_bool Tryz.underlying4 _)) (fun sp _ => trodAll_mk2 (shut_words (t := 24) (e := 22) (k := 8) (by kernel_rfl) (by kernel_rfl) (by kernel_rfl) (by kernel_rfl)) (shut_int Tryz.underlying3 hki)) (fun _ _ => rfl) rfl hk (ok_one (by kernel_rfl) rfl (okWide_bool_mk Tryz.underlying4 _))⟩

theorem holds : Rows.EngineRootsSaid :=
  OpenClaim.holds_of_wide 4 Tryz.f4 rfl rfl rfl rfl rfl rfl rfl ⟨rfl, rfl, rfl, rfl, rfl⟩ rfl rfl rfl rfl rfl (by kernel_rfl) Tryz.func4 (by kernel_rfl)
    (of_decide_eq_true (by kernel_rfl)) (by unfold Func.isWrapper; first | (rw [if_pos (by decide +kernel)]; kernel_rfl) | (rw [if_neg (by decide +kernel)]; exact ⟨rfl, rfl⟩))
    (fun os started H enc _ => lifted os started H enc)

end Go.Proofs.YtmkeaedpfmblgaaGreat.RwER
