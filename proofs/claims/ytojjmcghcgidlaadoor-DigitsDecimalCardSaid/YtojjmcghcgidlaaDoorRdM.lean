/- What slices.Reverse does to a row of bytes; bytes to a string. -/
import Derived.Test.YtojjmcghcgidlaaDoorRdL
import Derived.Laws.IdiomStrings
namespace Go.Proofs.YtojjmcghcgidlaaDoor.Rd
open Go Go.RowKit
set_option linter.unusedVariables false
set_option linter.unusedSimpArgs false
set_option maxRecDepth 100000

set_option maxHeartbeats 4000000 in
theorem slices_Reverse (g l cap : Nat) (E : TypeId) (c : Nat → Nat) (cur : Array Value) (hl : l < 1000000) (hc : ∀ j, j < l → cur[j]? = some (.int .u8 (c j : Nat))) (w0 : World) (hb : w0.heap[g]? = some (.cells cur E (0, 0))) :
    Calls Tryd.prog 38 #[.slice (some ⟨g, 0, none⟩) l cap] w0 fun e w' => e = .returned (.tuple #[]) ∧ Keeps [g] w0 w' ∧ ∃ cur', w'.heap[g]? = some (.cells cur' E (0, 0)) ∧ cur'.size = cur.size ∧ ∀ j, j < l → cur'[j]? = some (.int .u8 (c (l - 1 - j) : Nat)) := by
  have hst := (St.start [g] w0).add hb (by simp)
  clear hb
  go_enter Tryd.func38, Tryd.ntmps38
  go_wp2_with (first | (refine wl_loadCell hst tc5 rfl rfl (by rfl) (by repeat (first | exact List.Mem.head _ | refine List.Mem.tail _ ?_)) (by first | exact wc_get _ _ _ (by omega) | assumption | rfl) ?_; (try simp only [Act.put, List.setIfInBounds_toArray, List.set_cons_zero, List.set_cons_succ])) | (refine wl_storeCell hst tc5 rfl rfl rfl (by rfl) (by (simp only [eval_lit, eval_k, eval_f, eval_g, List.getD_cons_succ, List.getD_cons_zero]) <;> rfl) (by rfl) (by repeat (first | exact At.head _ | apply At.tail)) (by first | (simp; done) | (simp; omega) | omega) (by first | exact Or.inl (by assumption) | (refine Or.inr ?_; simp)) ?_; clear hst; intro w hst; (try simp only [Act.put, List.setIfInBounds_toArray, List.set_cons_zero, List.set_cons_succ])) | fail)
  go_loopw [2, 3] (fun i j wr => ∃ (k : Nat) (cur' : Array Value), 2 * k ≤ l + 1 ∧ i = .int .i64 k ∧ j = .int .i64 ((l : Int) - 1 - k) ∧ cur'.size = cur.size ∧ (∀ j, j < l → cur'[j]? = some (.int .u8 (if j < k ∨ l < j + 1 + k then c (l - 1 - j) else c j : Nat))) ∧ St w0 [g] [(g, .cells cur' E (0, 0))] wr) (fun i _ _ => l - (intOf i).toNat)
  case atStart =>
    refine ⟨0, cur, by omega, rfl, by go_num, rfl, fun j hj => ?_, hst⟩
    rw [hc j hj, if_neg (by omega)]
  case round =>
    clear hst
    obtain ⟨k, cur', hk, rfl, rfl, hsz, hcur, hst⟩ := hrel
    by_cases h : 2 * k + 1 < l
    · have h1 : (0 : Int) ≤ (k : Int) := by omega
      have h2 : (k : Int) < (l : Int) := by omega
      obtain ⟨q, hq⟩ : ∃ q : Nat, q = l - 1 - k := ⟨_, rfl⟩
      have eq : (l : Int) - 1 - (k : Int) = (q : Int) := by omega
      have h3 : (0 : Int) ≤ (q : Int) := by omega
      have h4 : (q : Int) < (l : Int) := by omega
      have h5 : (k : Int) < (q : Int) := by omega
      have g1 := hcur k (by omega)
      have g2 := hcur q (by omega)
      rw [if_neg (by omega)] at g1 g2
      have s1 : k < cur'.size := by
        rcases Nat.lt_or_ge k cur'.size with h | h
        · exact h
        · rw [Array.getElem?_eq_none h] at g1; cases g1
      have s2 : q < cur'.size := by
        rcases Nat.lt_or_ge q cur'.size with h | h
        · exact h
        · rw [Array.getElem?_eq_none h] at g2; cases g2
      have hcur' := Lib.hid hcur
      have hq' := Lib.hid hq
      rw [eq]
      clear eq hq hcur hk
      go_wp2_with (first | (refine wl_loadCell hst tc5 rfl rfl (by rfl) (by repeat (first | exact List.Mem.head _ | refine List.Mem.tail _ ?_)) (by first | exact wc_get _ _ _ (by omega) | assumption | rfl) ?_; (try simp only [Act.put, List.setIfInBounds_toArray, List.set_cons_zero, List.set_cons_succ])) | (refine wl_storeCell hst tc5 rfl rfl rfl (by rfl) (by (simp only [eval_lit, eval_k, eval_f, eval_g, List.getD_cons_succ, List.getD_cons_zero]) <;> rfl) (by rfl) (by repeat (first | exact At.head _ | apply At.tail)) (by first | (simp; done) | (simp; omega) | omega) (by first | exact Or.inl (by assumption) | (refine Or.inr ?_; simp)) ?_; clear hst; intro w hst; (try simp only [Act.put, List.setIfInBounds_toArray, List.set_cons_zero, List.set_cons_succ])) | fail)
      refine wp_region_T 13 hst (by kernel_rfl) ?_; clear hst; intro w hst; (try dsimp only [List.length_cons, List.length_nil]); (try simp only [List.length_cons, List.length_nil, Nat.reduceAdd, Array.replicate_succ, Array.replicate_zero, List.push_toArray, List.nil_append, List.cons_append])
      refine anyT_take0 0 rfl (by kernel_rfl) (fun _ _ _ h => h) (.inr (hst.sub (by repeat (first | exact List.Sublist.refl _ | refine List.Sublist.cons _ ?_)))) (by rfl) (fun _ => by go_simp <;> rfl) ?_; (try simp only [Act.put, List.setIfInBounds_toArray, List.set_cons_zero, List.set_cons_succ])
      refine anyT_take0 1 rfl (by kernel_rfl) (fun _ _ _ h => h) (.inr (hst.sub (by repeat (first | exact List.Sublist.refl _ | refine List.Sublist.cons _ ?_)))) (by rfl) (fun _ => by go_simp <;> rfl) ?_; (try simp only [Act.put, List.setIfInBounds_toArray, List.set_cons_zero, List.set_cons_succ])
      refine anyT_take0 2 rfl (by kernel_rfl) (fun _ _ _ h => h) (.inr (hst.sub (by repeat (first | exact List.Sublist.refl _ | refine List.Sublist.cons _ ?_)))) (by rfl) (fun _ => by go_simp <;> rfl) ?_; (try simp only [Act.put, List.setIfInBounds_toArray, List.set_cons_zero, List.set_cons_succ])
      refine anyT_take0 3 rfl (by kernel_rfl) (fun _ _ _ h => h) (.inr (hst.sub (by repeat (first | exact List.Sublist.refl _ | refine List.Sublist.cons _ ?_)))) (by rfl) (fun _ => by go_simp <;> rfl) ?_; (try simp only [Act.put, List.setIfInBounds_toArray, List.set_cons_zero, List.set_cons_succ])
      refine anyT_take0 4 rfl (by kernel_rfl) (fun _ _ _ h => h) (.inr (hst.sub (by repeat (first | exact List.Sublist.refl _ | refine List.Sublist.cons _ ?_)))) (by rfl) (fun _ => by go_simp <;> rfl) ?_; (try simp only [Act.put, List.setIfInBounds_toArray, List.set_cons_zero, List.set_cons_succ])
      refine anyT_take0 5 rfl (by kernel_rfl) (fun _ _ _ h => h) (.inr (hst.sub (by repeat (first | exact List.Sublist.refl _ | refine List.Sublist.cons _ ?_)))) (by rfl) (fun _ => by go_simp <;> rfl) ?_; (try simp only [Act.put, List.setIfInBounds_toArray, List.set_cons_zero, List.set_cons_succ])
      refine anyT_take0 6 rfl (by kernel_rfl) (fun _ _ _ h => h) (.inr (hst.sub (by repeat (first | exact List.Sublist.refl _ | refine List.Sublist.cons _ ?_)))) (by rfl) (fun _ => by go_simp <;> rfl) ?_; (try simp only [Act.put, List.setIfInBounds_toArray, List.set_cons_zero, List.set_cons_succ])
      refine anyT_take0 8 rfl (by kernel_rfl) (fun _ _ _ h => h) (.inr (hst.sub (by repeat (first | exact List.Sublist.refl _ | refine List.Sublist.cons _ ?_)))) (by rfl) (fun _ => by go_simp <;> rfl) ?_; (try simp only [Act.put, List.setIfInBounds_toArray, List.set_cons_zero, List.set_cons_succ])
      refine anyT_take0 9 rfl (by kernel_rfl) (fun _ _ _ h => h) (.inr (hst.sub (by repeat (first | exact List.Sublist.refl _ | refine List.Sublist.cons _ ?_)))) (by rfl) (fun _ => by go_simp <;> rfl) ?_; (try simp only [Act.put, List.setIfInBounds_toArray, List.set_cons_zero, List.set_cons_succ])
      refine anyT_take0 10 rfl (by kernel_rfl) (fun _ _ _ h => h) (.inr (hst.sub (by repeat (first | exact List.Sublist.refl _ | refine List.Sublist.cons _ ?_)))) (by rfl) (fun _ => by go_simp <;> rfl) ?_; (try simp only [Act.put, List.setIfInBounds_toArray, List.set_cons_zero, List.set_cons_succ])
      refine anyT_take 7 rfl (by kernel_rfl) (fun _ _ _ h => h) (hst.sub (by repeat (first | exact List.Sublist.refl _ | refine List.Sublist.cons _ ?_))) (by rfl) (fun w hw => run_opLoadCell hw tc5 rfl rfl (by repeat (first | exact List.Mem.head _ | refine List.Mem.tail _ ?_)) (by first | exact wc_get _ _ _ (by omega) | assumption | rfl)) ?_; (try simp only [Act.put, List.setIfInBounds_toArray, List.set_cons_zero, List.set_cons_succ])
      refine anyT_take 11 rfl (by kernel_rfl) (fun _ _ _ h => h) (hst.sub (by repeat (first | exact List.Sublist.refl _ | refine List.Sublist.cons _ ?_))) (by rfl) (fun w hw => run_opLoadCell hw tc5 rfl rfl (by repeat (first | exact List.Mem.head _ | refine List.Mem.tail _ ?_)) (by first | exact wc_get _ _ _ (by omega) | assumption | rfl)) ?_; (try simp only [Act.put, List.setIfInBounds_toArray, List.set_cons_zero, List.set_cons_succ])
      refine anyT_take0 12 rfl (by kernel_rfl) (fun _ _ _ h => h) (.inr (hst.sub (by repeat (first | exact List.Sublist.refl _ | refine List.Sublist.cons _ ?_)))) (by rfl) (fun _ => by go_simp <;> rfl) ?_; (try simp only [Act.put, List.setIfInBounds_toArray, List.set_cons_zero, List.set_cons_succ])
      refine anyT_one 13 rfl (by kernel_rfl) ?_; (first | (refine wl_loadCell hst tc5 rfl rfl (by rfl) (by repeat (first | exact List.Mem.head _ | refine List.Mem.tail _ ?_)) (by first | exact wc_get _ _ _ (by omega) | assumption | rfl) ?_; (try simp only [Act.put, List.setIfInBounds_toArray, List.set_cons_zero, List.set_cons_succ])) | (refine wl_storeCell hst tc5 rfl rfl rfl (by rfl) (by (simp only [eval_lit, eval_k, eval_f, eval_g, List.getD_cons_succ, List.getD_cons_zero]) <;> rfl) (by rfl) (by repeat (first | exact At.head _ | apply At.tail)) (by first | (simp; done) | (simp; omega) | omega) (by first | exact Or.inl (by assumption) | (refine Or.inr ?_; simp)) ?_; clear hst; intro w hst; (try simp only [Act.put, List.setIfInBounds_toArray, List.set_cons_zero, List.set_cons_succ])) | (refine wl_pure rfl (fun _ => by first | rfl | (go_simp; done) | (go_simp; rfl)) ?_; (try simp only [Act.put, List.setIfInBounds_toArray, List.set_cons_zero, List.set_cons_succ]))); refine wpList_nil ?_; show _ ∧ _; refine ⟨(.inl (by decide)), ?_⟩
      refine anyT_take0 14 rfl (by kernel_rfl) (fun _ _ _ h => h) (.inl (by decide)) (by rfl) (fun _ => by go_simp <;> rfl) ?_; (try simp only [Act.put, List.setIfInBounds_toArray, List.set_cons_zero, List.set_cons_succ])
      refine anyT_one 15 rfl (by kernel_rfl) ?_; (first | (refine wl_loadCell hst tc5 rfl rfl (by rfl) (by repeat (first | exact List.Mem.head _ | refine List.Mem.tail _ ?_)) (by first | exact wc_get _ _ _ (by omega) | assumption | rfl) ?_; (try simp only [Act.put, List.setIfInBounds_toArray, List.set_cons_zero, List.set_cons_succ])) | (refine wl_storeCell hst tc5 rfl rfl rfl (by rfl) (by (simp only [eval_lit, eval_k, eval_f, eval_g, List.getD_cons_succ, List.getD_cons_zero]) <;> rfl) (by rfl) (by repeat (first | exact At.head _ | apply At.tail)) (by first | (simp; done) | (simp; omega) | omega) (by first | exact Or.inl (by assumption) | (refine Or.inr ?_; simp)) ?_; clear hst; intro w hst; (try simp only [Act.put, List.setIfInBounds_toArray, List.set_cons_zero, List.set_cons_succ])) | (refine wl_pure rfl (fun _ => by first | rfl | (go_simp; done) | (go_simp; rfl)) ?_; (try simp only [Act.put, List.setIfInBounds_toArray, List.set_cons_zero, List.set_cons_succ]))); refine wpList_nil ?_; show _ ∧ _; refine ⟨(.inl (by decide)), ?_⟩
      refine anyT_done (by kernel_rfl) ?_
      go_wp2_with (first | (refine wl_loadCell hst tc5 rfl rfl (by rfl) (by repeat (first | exact List.Mem.head _ | refine List.Mem.tail _ ?_)) (by first | exact wc_get _ _ _ (by omega) | assumption | rfl) ?_; (try simp only [Act.put, List.setIfInBounds_toArray, List.set_cons_zero, List.set_cons_succ])) | (refine wl_storeCell hst tc5 rfl rfl rfl (by rfl) (by (simp only [eval_lit, eval_k, eval_f, eval_g, List.getD_cons_succ, List.getD_cons_zero]) <;> rfl) (by rfl) (by repeat (first | exact At.head _ | apply At.tail)) (by first | (simp; done) | (simp; omega) | omega) (by first | exact Or.inl (by assumption) | (refine Or.inr ?_; simp)) ?_; clear hst; intro w hst; (try simp only [Act.put, List.setIfInBounds_toArray, List.set_cons_zero, List.set_cons_succ])) | fail)
      have hcur := hcur'.out
      have hq := hq'.out
      go_roundw
      case rel => 
        refine ⟨k + 1, _, by omega, by go_num, by go_num, ?_, ?_, hst⟩
        · simp [hsz]
        · intro j hj
          rw [Array.getElem?_setIfInBounds, Array.getElem?_setIfInBounds]
          by_cases e1 : q = j
          · subst e1
            rw [if_pos rfl, if_pos (by simpa using s2), if_pos (by omega)]
            congr 3; congr 1; omega
          · rw [if_neg e1]
            by_cases e2 : k = j
            · subst e2
              rw [if_pos rfl, if_pos s1, if_pos (by omega)]
              congr 3; congr 1
            · rw [if_neg e2, hcur j hj]
              congr 3
              by_cases e3 : j < k ∨ l < j + 1 + k
              · rw [if_pos e3, if_pos (by omega)]
              · rw [if_neg e3, if_neg (by omega)]
      case measure => simp [intOf]; omega
    · have h5 : ¬ ((k : Int) < (l : Int) - 1 - (k : Int)) := by omega
      have h6 : decide ((k : Int) < (l : Int) - 1 - (k : Int)) = false := by simpa using h5
      have hcur' := Lib.hid hcur
      clear hcur
      go_wp2_with (first | (refine wl_loadCell hst tc5 rfl rfl (by rfl) (by repeat (first | exact List.Mem.head _ | refine List.Mem.tail _ ?_)) (by first | exact wc_get _ _ _ (by omega) | assumption | rfl) ?_; (try simp only [Act.put, List.setIfInBounds_toArray, List.set_cons_zero, List.set_cons_succ])) | (refine wl_storeCell hst tc5 rfl rfl rfl (by rfl) (by (simp only [eval_lit, eval_k, eval_f, eval_g, List.getD_cons_succ, List.getD_cons_zero]) <;> rfl) (by rfl) (by repeat (first | exact At.head _ | apply At.tail)) (by first | (simp; done) | (simp; omega) | omega) (by first | exact Or.inl (by assumption) | (refine Or.inr ?_; simp)) ?_; clear hst; intro w hst; (try simp only [Act.put, List.setIfInBounds_toArray, List.set_cons_zero, List.set_cons_succ])) | fail)
      refine bp_0 rfl rfl ⟨rfl, hst.keeps, cur', hst.own _ _ (by simp), hsz, fun j hj => ?_⟩
      rw [hcur'.out j hj]
      congr 3
      split
      · rfl
      · congr 1; omega

theorem slices_Reverse' (g l cap : Nat) (E : TypeId) (c : Nat → Nat) (cur : Array Value) (hl : l < 1000000) (hc : ∀ j, j < l → cur[j]? = some (.int .u8 (c j : Nat))) (w0 : World) (hb : w0.heap[g]? = some (.cells cur E (0, 0))) :
    Calls Tryd.prog 38 #[.slice (some ⟨g, 0, none⟩) l cap] w0 fun e w' => e = .returned (.tuple #[]) ∧ Keeps [g] w0 w' ∧ ∃ ob', w'.heap[g]? = some ob' ∧ ∃ cur', ob' = .cells cur' E (0, 0) ∧ ∀ j, j < l → cur'[j]? = some (.int .u8 (c (l - 1 - j) : Nat)) := by
  refine (slices_Reverse g l cap E c cur hl hc w0 hb).mono fun e w' h => ?_
  obtain ⟨h1, h2, cur', h3, h4, h5⟩ := h
  exact ⟨h1, h2, _, h3, cur', rfl, h5⟩

end Go.Proofs.YtojjmcghcgidlaaDoor.Rd
