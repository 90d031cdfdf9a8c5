/- What fix.right, told answer. -/
import Derived.Test.YtggchelniblipaaGreatDoorJ14
namespace Go.Proofs.YtggchelniblipaaGreatDoor.Rd
open Go Go.RowKit
set_option linter.unusedVariables false
set_option linter.unusedSimpArgs false
set_option maxRecDepth 100000

theorem one_of : ∀ b w, w.heap[b]? = some (.cells (wc 1 1) 22 (0, 0)) → GivesAt Tryz.prog 88 #[.slice (some ⟨b, 0, none⟩) 1 1] (W 1) w := fun b w h => by
  have := wide_Of b 0 1 1 1 1 22 (0, 0) (by omega) w h
  rwa [Nat.pow_zero, Nat.div_one, show min 1 8 = 1 from rfl, show 1 % B ^ 1 = 1 from rfl] at this

/-- How many steps there are from a guess to what is right. -/
def off (g t : Nat) : Nat := if g = t then 0 else 1

set_option maxHeartbeats 8000000 in
theorem fix_right (g t m : Nat) (h1 : g ≤ t + 1) (h2 : t ≤ g + 1) (hm : 2 ≤ m) (hm2 : m ≤ 100) (htM : t + 1 < M) (f : FuncId) (hf : GoF Tryz.prog f) (cap : Array Value) (w0 : World)
    (ha : ∀ q w, Keeps [] w0 w → q ≤ t + 1 → GivesAt Tryz.prog f ([W q] ++ cap.toList).toArray (.bool (decide (t < q))) w) :
    GivesAt Tryz.prog 169 #[W g, .int .i64 m, .func (.func f) #[] cap] (.tuple #[W t, .int .i64 (off g t : Nat), .bool true]) w0 := by
  have hst := St.start [] w0
  have h1' := Lib.hid (wc_1 1 (by decide))
  have hob := one_of
  have hA := Lib.hid ha
  have d1 : off g t ≤ 1 := by unfold off; split <;> omega
  have d2 : g ≤ t → off g t = t - g := by unfold off; intro h; split <;> omega
  have d3 : t < g → off g t = 1 := by unfold off; intro h; split <;> omega
  have hD2 := Lib.hid d2
  have hD3 := Lib.hid d3
  have hgM : g < M := by omega
  obtain ⟨m', hm', hm1⟩ : ∃ m' : Int, m' = (m : Int) ∧ 2 ≤ m' := ⟨m, rfl, by omega⟩
  rw [← hm']
  obtain ⟨d, hd⟩ : ∃ d, off g t = d := ⟨_, rfl⟩
  rw [hd] at d1 ⊢
  have hd := Lib.hid hd
  clear ha d2 d3
  go_enter Tryz.func169, Tryz.ntmps169
  go_wp2_with ((first | (refine kg gf88 hst (fun w hst => hob _ w (by rw [← h1'.out]; exact hst.own _ _ (by simp))) rfl rfl rfl rfl ?_; clear hst; intro w hst) | (refine kb 3 hst rfl rfl ?_; clear hst; intro b3 w hb3 hst) | (refine ka 6 hst tz24 rfl rfl ?_; clear hst; intro b6 w hb6 hst) | (refine wl_slice1 (o := ⟨some 13, _, _, _, _, _⟩) hst ts148 te22 rfl rfl (by (simp only [eval_lit, eval_k, eval_f, eval_g, List.getD_cons_succ, List.getD_cons_zero]) <;> rfl) (by rfl) ?_; clear hst; intro b13 w hb13 hst) | (refine ka 10 hst tz24 rfl rfl ?_; clear hst; intro b10 w hb10 hst) | (refine kt hst ta24 rfl rfl ?_; clear hst; intro w hst) | (refine ktm hst ta24 rfl rfl ?_; clear hst; intro w hst) | (refine kl hst ta24 rfl ?_) | (refine klm hst ta24 rfl ?_) | (refine ka 11 hst tz24 rfl rfl ?_; clear hst; intro b11 w hb11 hst)); try simp only [pz, pn, sz, sc])
  go_step3
  go_wp2_with ((first | (refine kg gf88 hst (fun w hst => hob _ w (by rw [← h1'.out]; exact hst.own _ _ (by simp))) rfl rfl rfl rfl ?_; clear hst; intro w hst) | (refine kb 3 hst rfl rfl ?_; clear hst; intro b3 w hb3 hst) | (refine ka 6 hst tz24 rfl rfl ?_; clear hst; intro b6 w hb6 hst) | (refine wl_slice1 (o := ⟨some 13, _, _, _, _, _⟩) hst ts148 te22 rfl rfl (by (simp only [eval_lit, eval_k, eval_f, eval_g, List.getD_cons_succ, List.getD_cons_zero]) <;> rfl) (by rfl) ?_; clear hst; intro b13 w hb13 hst) | (refine ka 10 hst tz24 rfl rfl ?_; clear hst; intro b10 w hb10 hst) | (refine kt hst ta24 rfl rfl ?_; clear hst; intro w hst) | (refine ktm hst ta24 rfl rfl ?_; clear hst; intro w hst) | (refine kl hst ta24 rfl ?_) | (refine klm hst ta24 rfl ?_) | (refine ka 11 hst tz24 rfl rfl ?_; clear hst; intro b11 w hb11 hst)); try simp only [pz, pn, sz, sc])
  go_step3
  go_wp2_with ((first | (refine kb 3 hst rfl rfl ?_; clear hst; intro b3 w hb3 hst) | (refine ka 6 hst tz24 rfl rfl ?_; clear hst; intro b6 w hb6 hst) | (refine wl_slice1 (o := ⟨some 13, _, _, _, _, _⟩) hst ts148 te22 rfl rfl (by (simp only [eval_lit, eval_k, eval_f, eval_g, List.getD_cons_succ, List.getD_cons_zero]) <;> rfl) (by rfl) ?_; clear hst; intro b13 w hb13 hst) | (refine ka 10 hst tz24 rfl rfl ?_; clear hst; intro b10 w hb10 hst) | (refine kt hst ta24 rfl rfl ?_; clear hst; intro w hst) | (refine ktm hst ta24 rfl rfl ?_; clear hst; intro w hst) | (refine kl hst ta24 rfl ?_) | (refine klm hst ta24 rfl ?_) | (refine ka 11 hst tz24 rfl rfl ?_; clear hst; intro b11 w hb11 hst)); try simp only [pz, pn, sz, sc])
  go_loopw [9] (fun nn wr => ∃ (k x : Nat), nn = .int .i64 k ∧ ((k = 0 ∧ x = g) ∨ (k = 1 ∧ x = t ∧ t < g)) ∧
    St w0 [] [(b10, .cells (wc 8 1) 24), (b6, .cells (wc 8 0) 24), (b3, .cells (wc 8 x) 24)] wr) (fun i _ => 1 - (intOf i).toNat)
  case atStart => exact ⟨0, g, rfl, .inl ⟨rfl, rfl⟩, hst.sub (by repeat (first | exact List.Sublist.refl _ | exact List.nil_sublist _ | refine List.Sublist.cons_cons _ ?_ | refine List.Sublist.cons _ ?_))⟩
  case round =>
    clear hst
    obtain ⟨k, x, rfl, hx, hst⟩ := hrel
    by_cases hlt : t < x
    · obtain ⟨rfl, rfl⟩ : k = 0 ∧ x = g := by omega
      have hab := fun w hst => hA.out x w hst (by omega)
      have hdd : decide (t < x) = true := by simpa using hlt
      rw [hdd] at hab
      have hsub := wide_Sub x 1 hgM (by omega)
      rw [show (x + M - 1) % M = t by rw [show x + M - 1 = x - 1 + M by omega, Nat.add_mod_right, Nat.mod_eq_of_lt (by omega)]; omega] at hsub
      clear hdd hx
      go_wp2_with ((first | (refine kg hf hst (fun w hst => hab w hst.keeps) rfl rfl rfl rfl ?_; clear hst; intro w hst) | (refine kf gf95 hst (hsub) rfl rfl rfl rfl ?_; clear hst; intro w hst) | (refine kb 3 hst rfl rfl ?_; clear hst; intro b3 w hb3 hst) | (refine ka 6 hst tz24 rfl rfl ?_; clear hst; intro b6 w hb6 hst) | (refine wl_slice1 (o := ⟨some 13, _, _, _, _, _⟩) hst ts148 te22 rfl rfl (by (simp only [eval_lit, eval_k, eval_f, eval_g, List.getD_cons_succ, List.getD_cons_zero]) <;> rfl) (by rfl) ?_; clear hst; intro b13 w hb13 hst) | (refine ka 10 hst tz24 rfl rfl ?_; clear hst; intro b10 w hb10 hst) | (refine kt hst ta24 rfl rfl ?_; clear hst; intro w hst) | (refine ktm hst ta24 rfl rfl ?_; clear hst; intro w hst) | (refine kl hst ta24 rfl ?_) | (refine klm hst ta24 rfl ?_) | (refine ka 11 hst tz24 rfl rfl ?_; clear hst; intro b11 w hb11 hst)); try simp only [pz, pn, sz, sc])
      exact ⟨⟨1, t, by go_num, .inr ⟨rfl, rfl, hlt⟩, hst.sub (by repeat (first | exact List.Sublist.refl _ | exact List.nil_sublist _ | refine List.Sublist.cons_cons _ ?_ | refine List.Sublist.cons _ ?_))⟩, by simp [intOf]⟩
    · have hab := fun w hst => hA.out x w hst (by omega)
      have hdd : decide (t < x) = false := by simpa using hlt
      rw [hdd] at hab
      have hinv : k + (t - x) = d ∧ x ≤ t := by
        rw [← hd.out]
        rcases hx with ⟨rfl, rfl⟩ | ⟨rfl, rfl, h⟩
        · rw [hD2.out (by omega)]; omega
        · rw [hD3.out h]; omega
      have hd1 : d ≤ 1 := by omega
      clear hdd hx hlt d1 hD2 hD3 hd
      go_wp2_with ((first | (refine kg hf hst (fun w hst => hab w hst.keeps) rfl rfl rfl rfl ?_; clear hst; intro w hst) | (refine kb 3 hst rfl rfl ?_; clear hst; intro b3 w hb3 hst) | (refine ka 6 hst tz24 rfl rfl ?_; clear hst; intro b6 w hb6 hst) | (refine wl_slice1 (o := ⟨some 13, _, _, _, _, _⟩) hst ts148 te22 rfl rfl (by (simp only [eval_lit, eval_k, eval_f, eval_g, List.getD_cons_succ, List.getD_cons_zero]) <;> rfl) (by rfl) ?_; clear hst; intro b13 w hb13 hst) | (refine ka 10 hst tz24 rfl rfl ?_; clear hst; intro b10 w hb10 hst) | (refine kt hst ta24 rfl rfl ?_; clear hst; intro w hst) | (refine ktm hst ta24 rfl rfl ?_; clear hst; intro w hst) | (refine kl hst ta24 rfl ?_) | (refine klm hst ta24 rfl ?_) | (refine ka 11 hst tz24 rfl rfl ?_; clear hst; intro b11 w hb11 hst)); try simp only [pz, pn, sz, sc])
      go_step3
      go_wp2_with ((first | (refine kb 3 hst rfl rfl ?_; clear hst; intro b3 w hb3 hst) | (refine ka 6 hst tz24 rfl rfl ?_; clear hst; intro b6 w hb6 hst) | (refine wl_slice1 (o := ⟨some 13, _, _, _, _, _⟩) hst ts148 te22 rfl rfl (by (simp only [eval_lit, eval_k, eval_f, eval_g, List.getD_cons_succ, List.getD_cons_zero]) <;> rfl) (by rfl) ?_; clear hst; intro b13 w hb13 hst) | (refine ka 10 hst tz24 rfl rfl ?_; clear hst; intro b10 w hb10 hst) | (refine kt hst ta24 rfl rfl ?_; clear hst; intro w hst) | (refine ktm hst ta24 rfl rfl ?_; clear hst; intro w hst) | (refine kl hst ta24 rfl ?_) | (refine klm hst ta24 rfl ?_) | (refine ka 11 hst tz24 rfl rfl ?_; clear hst; intro b11 w hb11 hst)); try simp only [pz, pn, sz, sc])
      clear hab
      go_loopw [9] (fun nn wr => ∃ (k x : Nat), nn = .int .i64 k ∧ k + (t - x) = d ∧ x ≤ t ∧
        St w0 [] [(b10, .cells (wc 8 1) 24), (b6, .cells (wc 8 0) 24), (b3, .cells (wc 8 x) 24)] wr) (fun i _ => 1 - (intOf i).toNat)
      case atStart => exact ⟨k, x, rfl, hinv.1, hinv.2, hst.sub (by repeat (first | exact List.Sublist.refl _ | exact List.nil_sublist _ | refine List.Sublist.cons_cons _ ?_ | refine List.Sublist.cons _ ?_))⟩
      case round =>
        clear hst hinv
        obtain ⟨k, x, rfl, hkd, hxt, hst⟩ := hrel
        have hk : (k : Int) ≤ 1 := by omega
        have hadd := wide_Add x 1 (by omega) (by omega)
        rw [Nat.mod_eq_of_lt (by omega)] at hadd
        have hab := fun w hst => hA.out (x + 1) w hst (by omega)
        by_cases hlt : x < t
        · have hdd : decide (t < x + 1) = false := by simp; omega
          rw [hdd] at hab
          clear hdd
          go_wp2_with ((first | (refine kf gf96 hst (hadd) rfl rfl rfl rfl ?_; clear hst; intro w hst) | (refine kg hf hst (fun w hst => hab w hst.keeps) rfl rfl rfl rfl ?_; clear hst; intro w hst) | (refine kb 3 hst rfl rfl ?_; clear hst; intro b3 w hb3 hst) | (refine ka 6 hst tz24 rfl rfl ?_; clear hst; intro b6 w hb6 hst) | (refine wl_slice1 (o := ⟨some 13, _, _, _, _, _⟩) hst ts148 te22 rfl rfl (by (simp only [eval_lit, eval_k, eval_f, eval_g, List.getD_cons_succ, List.getD_cons_zero]) <;> rfl) (by rfl) ?_; clear hst; intro b13 w hb13 hst) | (refine ka 10 hst tz24 rfl rfl ?_; clear hst; intro b10 w hb10 hst) | (refine kt hst ta24 rfl rfl ?_; clear hst; intro w hst) | (refine ktm hst ta24 rfl rfl ?_; clear hst; intro w hst) | (refine kl hst ta24 rfl ?_) | (refine klm hst ta24 rfl ?_) | (refine ka 11 hst tz24 rfl rfl ?_; clear hst; intro b11 w hb11 hst)); try simp only [pz, pn, sz, sc])
          exact ⟨⟨k + 1, x + 1, by go_num, by omega, by omega, hst.sub (by repeat (first | exact List.Sublist.refl _ | exact List.nil_sublist _ | refine List.Sublist.cons_cons _ ?_ | refine List.Sublist.cons _ ?_))⟩, by simp [intOf]; omega⟩
        · have hdd : decide (t < x + 1) = true := by simp; omega
          rw [hdd] at hab
          obtain rfl : x = t := by omega
          obtain rfl : k = d := by omega
          clear hdd hkd hxt hlt
          go_wp2_with ((first | (refine kf gf96 hst (hadd) rfl rfl rfl rfl ?_; clear hst; intro w hst) | (refine kg hf hst (fun w hst => hab w hst.keeps) rfl rfl rfl rfl ?_; clear hst; intro w hst) | (refine kb 3 hst rfl rfl ?_; clear hst; intro b3 w hb3 hst) | (refine ka 6 hst tz24 rfl rfl ?_; clear hst; intro b6 w hb6 hst) | (refine wl_slice1 (o := ⟨some 13, _, _, _, _, _⟩) hst ts148 te22 rfl rfl (by (simp only [eval_lit, eval_k, eval_f, eval_g, List.getD_cons_succ, List.getD_cons_zero]) <;> rfl) (by rfl) ?_; clear hst; intro b13 w hb13 hst) | (refine ka 10 hst tz24 rfl rfl ?_; clear hst; intro b10 w hb10 hst) | (refine kt hst ta24 rfl rfl ?_; clear hst; intro w hst) | (refine ktm hst ta24 rfl rfl ?_; clear hst; intro w hst) | (refine kl hst ta24 rfl ?_) | (refine klm hst ta24 rfl ?_) | (refine ka 11 hst tz24 rfl rfl ?_; clear hst; intro b11 w hb11 hst)); try simp only [pz, pn, sz, sc])
          rw [Exit.noGoto_ret]
          refine bp_ctt rfl rfl (la hst ta24) (by rfl) (by rfl) ⟨?_, hst.keeps⟩
          rfl

end Go.Proofs.YtggchelniblipaaGreatDoor.Rd
