/- What (*Batch).Counts answers. -/
import Derived.Test.YtoakmlopjeecoaaGreatDoorK10
namespace Go.Proofs.YtoakmlopjeecoaaGreatDoor.Rd
open Go Go.RowKit
set_option linter.unusedVariables false
set_option linter.unusedSimpArgs false
set_option maxRecDepth 100000

def ctk (t : Nat → Int) (k i : Nat) : Int := if i < k then t i else 0
theorem ctk_set (n m : Int) (t : Nat → Int) (k : Nat) (hk : k < 5) : (ctC n m (ctk t k)).setIfInBounds (2 + k) (.int .i64 (t k)) = ctC n m (ctk t (k + 1)) := by
  obtain rfl | rfl | rfl | rfl | rfl : k = 0 ∨ k = 1 ∨ k = 2 ∨ k = 3 ∨ k = 4 := by omega
  all_goals rfl
theorem batC_t (d : Int) (p : Option Addr) (n m : Int) (t : Nat → Int) (k : Nat) (hk : k < 5) : (batC d 0 p n m t)[6 + k]? = some (.int .i64 (t k)) := by
  obtain rfl | rfl | rfl | rfl | rfl : k = 0 ∨ k = 1 ∨ k = 2 ∨ k = 3 ∨ k = 4 := by omega
  all_goals rfl
theorem ctC_size (n m : Int) (f : Nat → Int) : (ctC n m f).size = 7 := rfl
theorem ctC_one (n m : Int) (f : Nat → Int) : OneC (ctC n m f) := ⟨by simp [ctC, Value.oneCell']⟩

set_option maxHeartbeats 4000000 in
theorem batch_Counts (bb : Nat) (d : Int) (p : Option Addr) (n m : Int) (t : Nat → Int) (w0 : World) (hb : w0.heap[bb]? = some (.cells (batC d 0 p n m t) 62)) :
    GivesAt Tryz.prog 7 #[.pointer (some ⟨bb, 0, none⟩)] (.agg (ctC n m t)) w0 := by
  have hst := (St.start [] w0).add hb (by simp)
  have h4 := Lib.hid (fun (w : World) (h : w.heap[bb]? = some (.cells (batC d 0 p n m t) 62)) => int64_Load bb 4 n _ 62 (0, 0) (show (batC d 0 p n m t)[4]? = _ from rfl) w h)
  have h5 := Lib.hid (fun (w : World) (h : w.heap[bb]? = some (.cells (batC d 0 p n m t) 62)) => int64_Load bb 5 m _ 62 (0, 0) (show (batC d 0 p n m t)[5]? = _ from rfl) w h)
  have h6 := Lib.hid (fun (k : Nat) (hk : k < 5) (w : World) (h : w.heap[bb]? = some (.cells (batC d 0 p n m t) 62)) => int64_Load bb (6 + k) (t k) _ 62 (0, 0) (batC_t d p n m t k hk) w h)
  clear hb
  generalize batC d 0 p n m t = cB at *
  have z1 := ctC_size 0 0 (fun _ => 0)
  have z2 := ctC_one 0 0 (fun _ => 0)
  have hz : ZeroT Tryz.prog 36 (ctC 0 0 (fun _ => 0)) := ZeroT.of (z := .agg (ctC 0 0 (fun _ => 0))) (by kernel_rfl) rfl
  have s1 : (ctC 0 0 (fun _ => 0)).setIfInBounds 0 (.int .i64 n) = ctC n 0 (fun _ => 0) := rfl
  have s2 : (ctC n 0 (fun _ => 0)).setIfInBounds 1 (.int .i64 m) = ctC n m (ctk t 0) := rfl
  have s3 : (ctC 0 0 (fun _ => 0)).setIfInBounds 1 (.int .i64 m) = ctC 0 m (fun _ => 0) := rfl
  have s4 : (ctC 0 m (fun _ => 0)).setIfInBounds 0 (.int .i64 n) = ctC n m (ctk t 0) := rfl
  have s1' := Lib.hid s1
  have s2' := Lib.hid s2
  have s3' := Lib.hid s3
  have s4' := Lib.hid s4
  clear s1 s2 s3 s4
  have zn := ctC_size n 0 (fun _ => 0)
  have zm := ctC_size 0 m (fun _ => 0)
  generalize ctC 0 0 (fun _ => 0) = c0 at *
  generalize ctC n 0 (fun _ => 0) = c1 at *
  generalize ctC 0 m (fun _ => 0) = c2 at *
  go_enter Tryz.func7, Tryz.ntmps7
  go_wp2_with ((first | (go_big_skip) | (refine ka 2 hst hz rfl rfl ?_; clear hst; intro b2 w hb2 hst) | (refine ka 3 hst hz rfl rfl ?_; clear hst; intro b3 w hb3 hst) | (refine ka 2 hst tz36 rfl rfl ?_; clear hst; intro b2 w hb2 hst) | (refine ka 3 hst tz36 rfl rfl ?_; clear hst; intro b3 w hb3 hst) | (refine kl hst ta36 rfl ?_) | (refine kt hst ta36 rfl rfl ?_; clear hst; intro w hst) | (refine ks hst tc3 rfl rfl ?_; clear hst; intro w hst)); try simp only [pz, pn, sz, sc])
  refine wp_region_T 9  hst (by kernel_rfl) ?_; clear hst; intro w hst; (try simp only [List.length_cons, List.length_nil, Nat.reduceAdd, Array.replicate_succ, Array.replicate_zero, List.push_toArray, List.nil_append, List.cons_append])
  refine r0 0 ?_; simp only [pz, pn, sz, sc]
  refine r0 1 ?_; simp only [pz, pn, sz, sc]
  refine r0 2 ?_; simp only [pz, pn, sz, sc]
  refine r0 4 ?_; simp only [pz, pn, sz, sc]
  refine r0 5 ?_; simp only [pz, pn, sz, sc]
  refine r0 6 ?_; simp only [pz, pn, sz, sc]
  refine r1 3 ?_; (first | (refine kg gf12 hst (fun w hst => h4.out w (hst.own _ _ (by repeat (first | exact List.Mem.head _ | refine List.Mem.tail _ ?_)))) rfl rfl rfl rfl ?_; clear hst; intro w hst) | (refine kg gf12 hst (fun w hst => h5.out w (hst.own _ _ (by repeat (first | exact List.Mem.head _ | refine List.Mem.tail _ ?_)))) rfl rfl rfl rfl ?_; clear hst; intro w hst) | (refine kp ?_)); (try simp only [pz, pn, sz, sc]); refine re ?_
  refine r0 8 ?_; simp only [pz, pn, sz, sc]
  refine r1 7 ?_; (first | (refine kg gf12 hst (fun w hst => h4.out w (hst.own _ _ (by repeat (first | exact List.Mem.head _ | refine List.Mem.tail _ ?_)))) rfl rfl rfl rfl ?_; clear hst; intro w hst) | (refine kg gf12 hst (fun w hst => h5.out w (hst.own _ _ (by repeat (first | exact List.Mem.head _ | refine List.Mem.tail _ ?_)))) rfl rfl rfl rfl ?_; clear hst; intro w hst) | (refine kp ?_)); (try simp only [pz, pn, sz, sc]); refine re ?_
  refine r1 9 ?_; (refine ks hst tc3 rfl rfl ?_; clear hst; intro w hst; (try (first|rw [s1'.out] at hst|rw [s2'.out] at hst|rw [s3'.out] at hst|rw [s4'.out] at hst))); (try simp only [pz, pn, sz, sc]); refine re ?_
  refine r0 10 ?_; simp only [pz, pn, sz, sc]
  refine r1 11 ?_; (refine ks hst tc3 rfl rfl ?_; clear hst; intro w hst; (try (first|rw [s1'.out] at hst|rw [s2'.out] at hst|rw [s3'.out] at hst|rw [s4'.out] at hst))); (try simp only [pz, pn, sz, sc]); refine re ?_
  refine rd_ ?_
  all_goals
    go_wp2_with ((first | (refine ka 2 hst tz36 rfl rfl ?_; clear hst; intro b2 w hb2 hst) | (refine ka 3 hst tz36 rfl rfl ?_; clear hst; intro b3 w hb3 hst) | (refine kl hst ta36 rfl ?_) | (refine kt hst ta36 rfl rfl ?_; clear hst; intro w hst) | (refine ks hst tc3 rfl rfl ?_; clear hst; intro w hst)); try simp only [pz, pn, sz, sc])
    go_loopw [4, 18] (fun _ i wr => ∃ k : Nat, k ≤ 5 ∧ i = .int .i64 k ∧ St w0 [] [(b3, .cells (ctC n m (ctk t k)) 36), (b2, .cells c0 36), (bb, .cells cB 62)] wr) (fun _ i _ => 5 - (intOf i).toNat)
    case atStart => exact ⟨0, by omega, rfl, hst⟩
    case round =>
      clear hst
      obtain ⟨k, hk5, rfl, hst⟩ := hrel
      have zk := ctC_size n m (ctk t k)
      by_cases hlt : k < 5
      · have i1 : (0 : Int) ≤ (k : Int) := by omega
        have i2 : (k : Int) < 5 := by omega
        have hAk := h6.out k hlt
        have hset := Lib.hid (ctk_set n m t k hlt)
        clear h4 h5 h6 hz s1' s2' s3' s4'
        generalize ctC n m (ctk t k) = ck at *
        generalize hn : ctC n m (ctk t (k + 1)) = cn at *
        have hn' := Lib.hid hn
        clear hn
        go_wp2_with ((first | (refine kg gf12 hst (fun w hst => hAk w (hst.own _ _ (by repeat (first | exact List.Mem.head _ | refine List.Mem.tail _ ?_)))) rfl rfl rfl rfl ?_; clear hst; intro w hst) | (refine ka 2 hst tz36 rfl rfl ?_; clear hst; intro b2 w hb2 hst) | (refine ka 3 hst tz36 rfl rfl ?_; clear hst; intro b3 w hb3 hst) | (refine kl hst ta36 rfl ?_) | (refine kt hst ta36 rfl rfl ?_; clear hst; intro w hst; (try rw [hset.out] at hst)) | (refine ks hst tc3 rfl rfl ?_; clear hst; intro w hst; (try rw [hset.out] at hst))); try simp only [pz, pn, sz, sc])
        go_roundw
        case rel => exact ⟨k + 1, by omega, by go_num, by rw [hn'.out]; exact hst⟩
        case measure => simp [intOf]; omega
      · have : k = 5 := by omega
        subst this
        have q : decide (((5 : Nat) : Int) < 5) = false := by decide
        have zo := ctC_one n m (ctk t 5)
        have hn' := Lib.hid (show ctC n m (ctk t 5) = ctC n m t from rfl)
        clear h4 h5 h6 hz s1' s2' s3' s4'
        generalize ctC n m (ctk t 5) = ck at *
        go_wp2_with ((first | (refine ka 2 hst tz36 rfl rfl ?_; clear hst; intro b2 w hb2 hst) | (refine ka 3 hst tz36 rfl rfl ?_; clear hst; intro b3 w hb3 hst) | (refine kl hst ta36 rfl ?_) | (refine kt hst ta36 rfl rfl ?_; clear hst; intro w hst) | (refine ks hst tc3 rfl rfl ?_; clear hst; intro w hst)); try simp only [pz, pn, sz, sc])
        refine bp_c rfl rfl (la hst ta36) ⟨?_, hst.keeps⟩
        rw [hn'.out]

end Go.Proofs.YtoakmlopjeecoaaGreatDoor.Rd
