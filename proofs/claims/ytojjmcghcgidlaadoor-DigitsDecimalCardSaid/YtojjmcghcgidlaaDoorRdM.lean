/- What slices.Reverse does to a row of bytes; bytes to a string. -/
import Derived.Test.YtojjmcghcgidlaaDoorRdE
import Derived.Laws.IdiomStrings
namespace Go.Proofs.YtojjmcghcgidlaaDoor.Rd
open Go Go.RowKit
set_option linter.unusedVariables false
set_option linter.unusedSimpArgs false
set_option maxRecDepth 100000

set_option maxHeartbeats 4000000 in
theorem slices_Reverse (g l cap : Nat) (E : TypeId) (c : Nat → Nat) (cur : Array Value) (hl : l < 1000000) (hc : ∀ j, j < l → cur[j]? = some (.int .u8 (c j : Nat))) (w0 : World) (hb : w0.heap[g]? = some (.cells cur E (0, 0))) :
    Calls Tryd.prog 38 #[.slice (some ⟨g, 0, none⟩) l cap] w0 fun e w' => e = .returned (.tuple #[]) ∧ Keeps [g] w0 w' ∧ ∃ cur', w'.heap[g]? = some (.cells cur' E (0, 0)) ∧ cur'.size = cur.size ∧ ∀ j, j < l → cur'[j]? = some (.int .u8 (c (l - 1 - j) : Nat)) := by
  have hst := (St.start [g] w0).add hb (by simp)
  clear hb
  go_enter Tryd.func38, Tryd.ntmps38
  go_wp2_with ((first | (refine kc hst tc5 rfl ?_) | (refine ks hst tc5 rfl rfl ?_; clear hst; intro w hst)); try simp only [pz, pn, sz, sc])
  go_loopw [2, 3] (fun i j wr => ∃ (k : Nat) (cur' : Array Value), 2 * k ≤ l + 1 ∧ i = .int .i64 k ∧ j = .int .i64 ((l : Int) - 1 - k) ∧ cur'.size = cur.size ∧ (∀ j, j < l → cur'[j]? = some (.int .u8 (if j < k ∨ l < j + 1 + k then c (l - 1 - j) else c j : Nat))) ∧ St w0 [g] [(g, .cells cur' E (0, 0))] wr) (fun i _ _ => l - (intOf i).toNat)
  case atStart =>
    refine ⟨0, cur, by omega, rfl, by go_num, rfl, fun j hj => ?_, hst⟩
    rw [hc j hj, if_neg (by omega)]
  case round =>
    clear hst
    obtain ⟨k, cur', hk, rfl, rfl, hsz, hcur, hst⟩ := hrel
    by_cases h : 2 * k + 1 < l
    · have h1 : (0 : Int) ≤ (k : Int) := by omega
      have h2 : (k : Int) < (l : Int) := by omega
      obtain ⟨q, hq⟩ : ∃ q : Nat, q = l - 1 - k := ⟨_, rfl⟩
      have eq : (l : Int) - 1 - (k : Int) = (q : Int) := by omega
      have h3 : (0 : Int) ≤ (q : Int) := by omega
      have h4 : (q : Int) < (l : Int) := by omega
      have h5 : (k : Int) < (q : Int) := by omega
      have g1 := hcur k (by omega)
      have g2 := hcur q (by omega)
      rw [if_neg (by omega)] at g1 g2
      have s1 : k < cur'.size := by
        rcases Nat.lt_or_ge k cur'.size with h | h
        · exact h
        · rw [Array.getElem?_eq_none h] at g1; cases g1
      have s2 : q < cur'.size := by
        rcases Nat.lt_or_ge q cur'.size with h | h
        · exact h
        · rw [Array.getElem?_eq_none h] at g2; cases g2
      have hcur' := Lib.hid hcur
      have hq' := Lib.hid hq
      rw [eq]
      clear eq hq hcur hk
      go_wp2_with ((first | (refine kc hst tc5 rfl ?_) | (refine ks hst tc5 rfl rfl ?_; clear hst; intro w hst)); try simp only [pz, pn, sz, sc])
      refine wp_region_T 13  hst (by kernel_rfl) ?_; clear hst; intro w hst; (try dsimp only [List.length_cons, List.length_nil]); (try simp only [List.length_cons, List.length_nil, Nat.reduceAdd, Array.replicate_succ, Array.replicate_zero, List.push_toArray, List.nil_append, List.cons_append])
      refine r0 0 ?_; simp only [pz, pn, sz, sc]
      refine r0 1 ?_; simp only [pz, pn, sz, sc]
      refine r0 2 ?_; simp only [pz, pn, sz, sc]
      refine r0 3 ?_; simp only [pz, pn, sz, sc]
      refine r0 4 ?_; simp only [pz, pn, sz, sc]
      refine r0 5 ?_; simp only [pz, pn, sz, sc]
      refine r0 6 ?_; simp only [pz, pn, sz, sc]
      refine r0 8 ?_; simp only [pz, pn, sz, sc]
      refine r0 9 ?_; simp only [pz, pn, sz, sc]
      refine r0 10 ?_; simp only [pz, pn, sz, sc]
      refine rl 7 rfl ?_ (ylC tc5); simp only [pz, pn, sz, sc]
      refine rl 11 rfl ?_ (ylC tc5); simp only [pz, pn, sz, sc]
      refine r0 12 ?_; simp only [pz, pn, sz, sc]
      refine r1 13 ?_; (refine ks hst tc5 rfl rfl ?_; clear hst; intro w hst); (try simp only [pz, pn, sz, sc]); refine re ?_
      refine r0 14 ?_; simp only [pz, pn, sz, sc]
      refine r1 15 ?_; (refine ks hst tc5 rfl rfl ?_; clear hst; intro w hst); (try simp only [pz, pn, sz, sc]); refine re ?_
      refine rd_ ?_
      go_wp2_with ((first | (refine kc hst tc5 rfl ?_) | (refine ks hst tc5 rfl rfl ?_; clear hst; intro w hst)); try simp only [pz, pn, sz, sc])
      have hcur := hcur'.out
      have hq := hq'.out
      go_roundw
      case rel => 
        refine ⟨k + 1, _, by omega, by go_num, by go_num, ?_, ?_, hst⟩
        · simp [hsz]
        · intro j hj
          rw [Array.getElem?_setIfInBounds, Array.getElem?_setIfInBounds]
          by_cases e1 : q = j
          · subst e1
            rw [if_pos rfl, if_pos (by simpa using s2), if_pos (by omega)]
            congr 3; congr 1; omega
          · rw [if_neg e1]
            by_cases e2 : k = j
            · subst e2
              rw [if_pos rfl, if_pos s1, if_pos (by omega)]
              congr 3; congr 1
            · rw [if_neg e2, hcur j hj]
              congr 3
              by_cases e3 : j < k ∨ l < j + 1 + k
              · rw [if_pos e3, if_pos (by omega)]
              · rw [if_neg e3, if_neg (by omega)]
      case measure => simp [intOf]; omega
    · have h5 : ¬ ((k : Int) < (l : Int) - 1 - (k : Int)) := by omega
      have h6 : decide ((k : Int) < (l : Int) - 1 - (k : Int)) = false := by simpa using h5
      have hcur' := Lib.hid hcur
      clear hcur
      go_wp2_with ((first | (refine kc hst tc5 rfl ?_) | (refine ks hst tc5 rfl rfl ?_; clear hst; intro w hst)); try simp only [pz, pn, sz, sc])
      refine bp_0 rfl rfl ⟨rfl, hst.keeps, cur', hst.own _ _ (by simp), hsz, fun j hj => ?_⟩
      rw [hcur'.out j hj]
      congr 3
      split
      · rfl
      · congr 1; omega

theorem slices_Reverse' (g l cap : Nat) (E : TypeId) (c : Nat → Nat) (cur : Array Value) (hl : l < 1000000) (hc : ∀ j, j < l → cur[j]? = some (.int .u8 (c j : Nat))) (w0 : World) (hb : w0.heap[g]? = some (.cells cur E (0, 0))) :
    Calls Tryd.prog 38 #[.slice (some ⟨g, 0, none⟩) l cap] w0 fun e w' => e = .returned (.tuple #[]) ∧ Keeps [g] w0 w' ∧ ∃ ob', w'.heap[g]? = some ob' ∧ ∃ cur', ob' = .cells cur' E (0, 0) ∧ ∀ j, j < l → cur'[j]? = some (.int .u8 (c (l - 1 - j) : Nat)) := by
  refine (slices_Reverse g l cap E c cur hl hc w0 hb).mono fun e w' h => ?_
  obtain ⟨h1, h2, cur', h3, h4, h5⟩ := h
  exact ⟨h1, h2, _, h3, cur', rfl, h5⟩

end Go.Proofs.YtojjmcghcgidlaaDoor.Rd
