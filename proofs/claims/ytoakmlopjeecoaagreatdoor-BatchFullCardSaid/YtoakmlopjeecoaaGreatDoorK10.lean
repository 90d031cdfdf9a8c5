/- What batch.Tally, (*Batch).Do, Counts answer. -/
import Derived.Test.YtoakmlopjeecoaaGreatDoorK09
namespace Go.Proofs.YtoakmlopjeecoaaGreatDoor.Rd
open Go Go.RowKit
set_option linter.unusedVariables false
set_option linter.unusedSimpArgs false
set_option maxRecDepth 100000

theorem oneC_size (g : Int) : (oneC g).size = 7 := by unfold oneC; split <;> rfl
theorem oneC_one (g : Int) : OneC (oneC g) := by unfold oneC; split <;> exact ⟨by kernel_rfl⟩

set_option maxHeartbeats 2000000 in
theorem batch_Tally (b : Nat) (E : TypeId) (x : Nat) (g s : Int) (h : ResOk g s) (w0 : World) (hF : FlIn w0) (hb : w0.heap[b]? = some (.cells (resC x g s) E)) :
    GivesAt Tryz.prog 16 #[.slice (some ⟨b, 0, none⟩) 1 1] (.agg (oneC g)) w0 := by
  have hst := (St.start [] w0).add hb (by simp)
  have hadd := Lib.hid (fun w (k : Keeps [] w0 w) => counts_add x g s h w (hF.keep k (by simp)))
  have y1 := resC_size x g s
  have y2 := resC_one x g s
  have z1 := oneC_size g
  have z2 := oneC_one g
  clear hb hF h
  generalize resC x g s = cs at *
  generalize hO : oneC g = cO at *
  have hO' := Lib.hid hO
  clear hO
  have c1 : (ctC 0 0 (fun _ => 0)).size = 7 := rfl
  have c2 : OneC (ctC 0 0 (fun _ => 0)) := ⟨by kernel_rfl⟩
  have hz : ZeroT Tryz.prog 36 (ctC 0 0 (fun _ => 0)) := ZeroT.of (z := .agg (ctC 0 0 (fun _ => 0))) (by kernel_rfl) rfl
  generalize ctC 0 0 (fun _ => 0) = c0 at *
  go_enter Tryz.func16, Tryz.ntmps16
  go_wp2_with ((first | (refine ka 2 hst hz rfl rfl ?_; clear hst; intro b2 w hb2 hst) | (refine ka 3 hst hz rfl rfl ?_; clear hst; intro b3 w hb3 hst) | (refine ka 2 hst tz36 rfl rfl ?_; clear hst; intro b2 w hb2 hst) | (refine ka 3 hst tz36 rfl rfl ?_; clear hst; intro b3 w hb3 hst) | (refine kl hst ta41 rfl ?_) | (refine klm hst ta41 rfl ?_) | (refine ka 5 hst tz41 rfl rfl ?_; clear hst; intro b5 w hb5 hst) | (refine kt hst ta41 rfl rfl ?_; clear hst; intro w hst) | (refine kl hst ta36 rfl ?_) | (refine kt hst ta36 rfl rfl ?_; clear hst; intro w hst)); try simp only [pz, pn, sz, sc])
  go_loopw [5, 8] (fun _ i wr => ∃ (k : Nat) (c : Array Value), k ≤ 1 ∧ i = .int .i64 k ∧ ((k = 0 ∧ c = c0) ∨ (k = 1 ∧ c = cO)) ∧ St w0 [] [(b3, .cells c 36), (b2, .cells c0 36), (b, .cells cs E)] wr) (fun _ i _ => 1 - (intOf i).toNat)
  case atStart => exact ⟨0, c0, by omega, rfl, .inl ⟨rfl, rfl⟩, hst⟩
  case round =>
    clear hst
    obtain ⟨k, c, hk, rfl, hc, hst⟩ := hrel
    rcases hc with ⟨rfl, rfl⟩ | ⟨rfl, rfl⟩
    · go_wp2_with ((first | (refine kg gf25 hst (fun w hst => hadd.out w hst.keeps) rfl rfl rfl rfl ?_; clear hst; intro w hst) | (refine ka 2 hst tz36 rfl rfl ?_; clear hst; intro b2 w hb2 hst) | (refine ka 3 hst tz36 rfl rfl ?_; clear hst; intro b3 w hb3 hst) | (refine kl hst ta41 rfl ?_) | (refine klm hst ta41 rfl ?_) | (refine ka 5 hst tz41 rfl rfl ?_; clear hst; intro b5 w hb5 hst) | (refine kt hst ta41 rfl rfl ?_; clear hst; intro w hst) | (refine kl hst ta36 rfl ?_) | (refine kt hst ta36 rfl rfl ?_; clear hst; intro w hst)); try simp only [pz, pn, sz, sc])
      go_roundw
      case rel => exact ⟨1, cO, by omega, by go_num, .inr ⟨rfl, rfl⟩, hst.sub (by repeat (first | exact List.Sublist.refl _ | refine List.Sublist.cons_cons _ ?_ | refine List.Sublist.cons _ ?_))⟩
      case measure => simp [intOf]
    · go_wp2_with ((first | (refine ka 2 hst tz36 rfl rfl ?_; clear hst; intro b2 w hb2 hst) | (refine ka 3 hst tz36 rfl rfl ?_; clear hst; intro b3 w hb3 hst) | (refine kl hst ta41 rfl ?_) | (refine klm hst ta41 rfl ?_) | (refine ka 5 hst tz41 rfl rfl ?_; clear hst; intro b5 w hb5 hst) | (refine kt hst ta41 rfl rfl ?_; clear hst; intro w hst) | (refine kl hst ta36 rfl ?_) | (refine kt hst ta36 rfl rfl ?_; clear hst; intro w hst)); try simp only [pz, pn, sz, sc])
      refine bp_c rfl rfl (la hst ta36) ⟨?_, hst.keeps⟩
      rfl

/-- A batch's cells, its fpu there. -/
def batR (bu : Nat) (n m : Int) (t : Nat → Int) : Array Value := batC 1 0 (some ⟨bu, 0, none⟩) n m t
theorem batR_n (bu : Nat) (n m : Int) (t : Nat → Int) (y : Int) : (batR bu n m t).setIfInBounds 4 (.int .i64 (n + y)) = batR bu (n + y) m t ∧ (batR bu n m t)[4]? = some (.int .i64 n) := ⟨rfl, rfl⟩
theorem batR_m (bu : Nat) (n m : Int) (t : Nat → Int) (y : Int) : (batR bu n m t).setIfInBounds 5 (.int .i64 (m + y)) = batR bu n (m + y) t ∧ (batR bu n m t)[5]? = some (.int .i64 m) := ⟨rfl, rfl⟩
/-- The counts of the flags, some of them with what is added. -/
def tkN (t f : Nat → Int) (k i : Nat) : Int := if i < k then t i + f i else t i
theorem batR_t (bu : Nat) (n m : Int) (t f : Nat → Int) (k : Nat) (hk : k < 5) : (batR bu n m (tkN t f k)).setIfInBounds (6 + k) (.int .i64 (t k + f k)) = batR bu n m (tkN t f (k + 1)) ∧ (batR bu n m (tkN t f k))[6 + k]? = some (.int .i64 (t k)) := by
  obtain rfl | rfl | rfl | rfl | rfl : k = 0 ∨ k = 1 ∨ k = 2 ∨ k = 3 ∨ k = 4 := by omega
  all_goals exact ⟨rfl, rfl⟩
theorem tk_end (bu : Nat) (n m : Int) (t f : Nat → Int) : batR bu n m (tkN t f 5) = batR bu n m (fun i => t i + f i) := rfl
theorem tk_start (bu : Nat) (n m : Int) (t f : Nat → Int) : batR bu n m (tkN t f 0) = batR bu n m t := rfl
theorem oneC_get (g s : Int) (h : ResOk g s) : (oneC g)[0 + 1]? = some (.int .i64 (bd s)) ∧ ∀ k, k < 5 → (oneC g)[2 + k]? = some (.int .i64 (ft g k)) := by
  rw [oneC_eq g s h]
  refine ⟨rfl, fun k hk => ?_⟩
  obtain rfl | rfl | rfl | rfl | rfl : k = 0 ∨ k = 1 ∨ k = 2 ∨ k = 3 ∨ k = 4 := by omega
  all_goals rfl
theorem ft_in (g : Int) (k : Nat) : 0 ≤ ft g k ∧ ft g k ≤ 1 := by unfold ft; split <;> omega
theorem bd_in (s : Int) : 0 ≤ bd s ∧ bd s ≤ 1 := by unfold bd; split <;> omega

set_option maxHeartbeats 8000000 in
theorem batch_Do (bb : Nat) (d : Int) (p : Option Addr) (hp : BatP d p) (n m : Int) (t : Nat → Int) (n0 : 0 ≤ n) (n1 : n ≤ 100000) (m0 : 0 ≤ m) (m1 : m ≤ 100000) (t0 : ∀ i, 0 ≤ t i) (t1 : ∀ i, t i ≤ 100000)
    (cs : Array Value) (y1 : cs.size = 8) (y2 : OneC cs) (x : Nat) (g s : Int) (h : ResOk g s) (w0 : World) (hF : FlIn w0) (hbb : bb ≠ 0) (hb : w0.heap[bb]? = some (.cells (batC d 0 p n m t) 62))
    (hdo : ∀ bu w, Keeps [bb] w0 w → GivesAt Tryz.prog 15 #[.pointer (some ⟨bu, 0, none⟩), .agg cs] (.agg (resC x g s)) w) :
    GivesE Tryz.prog 10 #[.pointer (some ⟨bb, 0, none⟩), .agg cs] bb (fun v ob => v = .agg (resC x g s) ∧ ∃ bu, ob = .cells (batR bu (n + 1) (m + bd s) (fun i => t i + ft g i)) 62) w0 := by
  have hst : St w0 [bb] [(bb, .cells (batC d 0 p n m t) 62)] w0 := (St.start [bb] w0).add hb (by simp)
  have hun := Lib.hid (fun w hb => batch_unit bb d p hp n m t w hb)
  have hdo' := Lib.hid hdo
  have hta := Lib.hid (fun b w (k : Keeps [bb] w0 w) hb => batch_Tally b 41 x g s h w (hF.keep k (by simpa using hbb.symm)) hb)
  have hq := Lib.hid (oneC_get g s h)
  have x1 := resC_size x g s
  have x2 := resC_one x g s
  have z1 := oneC_size g
  have z2 := oneC_one g
  have hbs : Tryz.prog.builtSlice 41 1 [(0, .agg (resC x g s))] = some (resC x g s) := by kernel_rfl
  have hA4 := Lib.hid (fun bu (w : World) (hb : w.heap[bb]? = some (.cells (batR bu n m t) 62)) => (batR_n bu n m t 1).1 ▸ int64_AddY bb 4 n 1 n0 (by omega) (by omega) (by omega) (batR bu n m t) 62 (batR_n bu n m t 1).2 w hb)
  have hA5 := Lib.hid (fun bu (w : World) (hb : w.heap[bb]? = some (.cells (batR bu (n + 1) m t) 62)) => (batR_m bu (n + 1) m t (bd s)).1 ▸ int64_AddY bb 5 m (bd s) m0 (by omega) (bd_in s).1 (by have := (bd_in s).2; omega) (batR bu (n + 1) m t) 62 (batR_m bu (n + 1) m t 0).2 w hb)
  have hA6 := Lib.hid (fun bu (k : Nat) (hk : k < 5) (w : World) (hb : w.heap[bb]? = some (.cells (batR bu (n + 1) (m + bd s) (tkN t (ft g) k)) 62)) => (batR_t bu (n + 1) (m + bd s) t (ft g) k hk).1 ▸ int64_AddY bb (6 + k) (t k) (ft g k) (t0 k) (by have := t1 k; omega) (ft_in g k).1 (by have := (ft_in g k).2; omega) (batR bu (n + 1) (m + bd s) (tkN t (ft g) k)) 62 (batR_t bu (n + 1) (m + bd s) t (ft g) k hk).2 w hb)
  have hR0 : ∀ bu, batC 1 0 (some ⟨bu, 0, none⟩) n m t = batR bu n m t := fun bu => rfl
  clear hdo hF hb hp t0 t1 n0 n1 m0 m1 hbb h
  simp only [hR0] at hun
  clear hR0
  generalize batC d 0 p n m t = cB at *
  generalize hrs : resC x g s = rs at *
  generalize oneC g = cO at *
  clear hrs
  go_enter Tryz.func10, Tryz.ntmps10
  go_wp2_with ((first | (go_big_skip) | (refine kb 3 hst rfl rfl ?_; clear hst; intro b3 w hb3 hst) | (refine ka 4 hst tz41 rfl rfl ?_; clear hst; intro b4 w hb4 hst) | (refine kB (tb41_2 _) rfl ?_) | (refine kt hst ta41 rfl rfl ?_; clear hst; intro w hst) | (refine kl hst ta26 rfl ?_) | (refine ka 5 hst tz41 rfl rfl ?_; clear hst; intro b5 w hb5 hst) | (refine kl hst ta41 rfl ?_) | (refine wl_slice1 (o := ⟨some 16, _, _, _, _, _⟩) hst ts30 te41 rfl rfl (by (simp only [eval_lit, eval_k, eval_f, eval_g, List.getD_cons_succ, List.getD_cons_zero]) <;> rfl) (by rfl) ?_; clear hst; intro b16 w hb16 hst) | (refine ka 6 hst tz36 rfl rfl ?_; clear hst; intro b6 w hb6 hst) | (refine kt hst ta36 rfl rfl ?_; clear hst; intro w hst) | (refine kc hst tc3 rfl ?_)); try simp only [pz, pn, sz, sc])
  have hst : St w0 [bb] [(b4, .cells #[.int .u64 0, .int .u64 0, .int .i64 0, .int .i64 0] 41), (b3, .cells cs 26), (bb, .cells cB 62)] w := hst
  refine wp_region_TV 6 [(b4, .cells #[.int .u64 0, .int .u64 0, .int .i64 0, .int .i64 0] 41), (b3, .cells cs 26)] hst (by kernel_rfl) ?_; clear hst; intro w hst; (try simp only [List.length_cons, List.length_nil, Nat.reduceAdd, Array.replicate_succ, Array.replicate_zero, List.push_toArray, List.nil_append, List.cons_append])
  refine r0 0 ?_; simp only [pz, pn, sz, sc]
  refine rl 2 rfl ?_ (by first | exact ylA ta26 | exact ylM ta26); simp only [pz, pn, sz, sc]
  refine r2 1 4 ?_ ?_
  (first | (refine kE (o := ⟨some 12, _, _, _, _, _⟩) (fun ob => [(b5, .cells #[.int .u64 0, .int .u64 0, .int .i64 0, .int .i64 0] 41), (b4, .cells #[.int .u64 0, .int .u64 0, .int .i64 0, .int .i64 0] 41), (b3, .cells cs 26), (bb, ob)]) gf14 hst (fun w hst => hun.out w (hst.own _ _ (by repeat (first | exact List.Mem.head _ | refine List.Mem.tail _ ?_)))) rfl rfl rfl rfl ?_; clear hst; intro v12 ob w hR hst; obtain ⟨bu, rfl, rfl⟩ := hR) | (refine kE (o := ⟨some 12, _, _, _, _, _⟩) (fun ob => [(b4, .cells #[.int .u64 0, .int .u64 0, .int .i64 0, .int .i64 0] 41), (b3, .cells cs 26), (bb, ob)]) gf14 hst (fun w hst => hun.out w (hst.own _ _ (by repeat (first | exact List.Mem.head _ | refine List.Mem.tail _ ?_)))) rfl rfl rfl rfl ?_; clear hst; intro v12 ob w hR hst; obtain ⟨bu, rfl, rfl⟩ := hR) | (refine kg gf15 hst (fun w hst => hdo'.out bu w hst.keeps) rfl rfl rfl rfl ?_; clear hst; intro w hst) | (refine kp ?_)); (try simp only [pz, pn, sz, sc]); refine re ?_
  refine r2 3 4 ?_ ?_
  (first | (refine kE (o := ⟨some 12, _, _, _, _, _⟩) (fun ob => [(b5, .cells #[.int .u64 0, .int .u64 0, .int .i64 0, .int .i64 0] 41), (b4, .cells #[.int .u64 0, .int .u64 0, .int .i64 0, .int .i64 0] 41), (b3, .cells cs 26), (bb, ob)]) gf14 hst (fun w hst => hun.out w (hst.own _ _ (by repeat (first | exact List.Mem.head _ | refine List.Mem.tail _ ?_)))) rfl rfl rfl rfl ?_; clear hst; intro v12 ob w hR hst; obtain ⟨bu, rfl, rfl⟩ := hR) | (refine kE (o := ⟨some 12, _, _, _, _, _⟩) (fun ob => [(b4, .cells #[.int .u64 0, .int .u64 0, .int .i64 0, .int .i64 0] 41), (b3, .cells cs 26), (bb, ob)]) gf14 hst (fun w hst => hun.out w (hst.own _ _ (by repeat (first | exact List.Mem.head _ | refine List.Mem.tail _ ?_)))) rfl rfl rfl rfl ?_; clear hst; intro v12 ob w hR hst; obtain ⟨bu, rfl, rfl⟩ := hR) | (refine kg gf15 hst (fun w hst => hdo'.out bu w hst.keeps) rfl rfl rfl rfl ?_; clear hst; intro w hst) | (refine kp ?_)); (try simp only [pz, pn, sz, sc]); refine re ?_
  refine r1 4 ?_; (refine ka 5 hst tz41 rfl rfl ?_; clear hst; intro b5 w hb5 hst); (try simp only [pz, pn, sz, sc]); refine re ?_
  refine r1 5 ?_; (refine kt hst ta41 rfl rfl ?_; clear hst; intro w hst); (try simp only [pz, pn, sz, sc]); refine re ?_
  refine rd_ ?_
  rotate_left 1
  (refine ka 5 hst tz41 rfl rfl ?_; clear hst; intro b5 w hb5 hst); (try simp only [pz, pn, sz, sc]); refine re ?_
  refine r1 3 ?_; (first | (refine kE (o := ⟨some 12, _, _, _, _, _⟩) (fun ob => [(b5, .cells #[.int .u64 0, .int .u64 0, .int .i64 0, .int .i64 0] 41), (b4, .cells #[.int .u64 0, .int .u64 0, .int .i64 0, .int .i64 0] 41), (b3, .cells cs 26), (bb, ob)]) gf14 hst (fun w hst => hun.out w (hst.own _ _ (by repeat (first | exact List.Mem.head _ | refine List.Mem.tail _ ?_)))) rfl rfl rfl rfl ?_; clear hst; intro v12 ob w hR hst; obtain ⟨bu, rfl, rfl⟩ := hR) | (refine kE (o := ⟨some 12, _, _, _, _, _⟩) (fun ob => [(b4, .cells #[.int .u64 0, .int .u64 0, .int .i64 0, .int .i64 0] 41), (b3, .cells cs 26), (bb, ob)]) gf14 hst (fun w hst => hun.out w (hst.own _ _ (by repeat (first | exact List.Mem.head _ | refine List.Mem.tail _ ?_)))) rfl rfl rfl rfl ?_; clear hst; intro v12 ob w hR hst; obtain ⟨bu, rfl, rfl⟩ := hR) | (refine kg gf15 hst (fun w hst => hdo'.out bu w hst.keeps) rfl rfl rfl rfl ?_; clear hst; intro w hst) | (refine kp ?_)); (try simp only [pz, pn, sz, sc]); refine re ?_
  refine r1 5 ?_; (refine kt hst ta41 rfl rfl ?_; clear hst; intro w hst); (try simp only [pz, pn, sz, sc]); refine re ?_
  refine rd_ ?_
  rotate_right 1
  rotate_left 2
  (refine ka 5 hst tz41 rfl rfl ?_; clear hst; intro b5 w hb5 hst); (try simp only [pz, pn, sz, sc]); refine re ?_
  refine r1 1 ?_; (first | (refine kE (o := ⟨some 12, _, _, _, _, _⟩) (fun ob => [(b5, .cells #[.int .u64 0, .int .u64 0, .int .i64 0, .int .i64 0] 41), (b4, .cells #[.int .u64 0, .int .u64 0, .int .i64 0, .int .i64 0] 41), (b3, .cells cs 26), (bb, ob)]) gf14 hst (fun w hst => hun.out w (hst.own _ _ (by repeat (first | exact List.Mem.head _ | refine List.Mem.tail _ ?_)))) rfl rfl rfl rfl ?_; clear hst; intro v12 ob w hR hst; obtain ⟨bu, rfl, rfl⟩ := hR) | (refine kE (o := ⟨some 12, _, _, _, _, _⟩) (fun ob => [(b4, .cells #[.int .u64 0, .int .u64 0, .int .i64 0, .int .i64 0] 41), (b3, .cells cs 26), (bb, ob)]) gf14 hst (fun w hst => hun.out w (hst.own _ _ (by repeat (first | exact List.Mem.head _ | refine List.Mem.tail _ ?_)))) rfl rfl rfl rfl ?_; clear hst; intro v12 ob w hR hst; obtain ⟨bu, rfl, rfl⟩ := hR) | (refine kg gf15 hst (fun w hst => hdo'.out bu w hst.keeps) rfl rfl rfl rfl ?_; clear hst; intro w hst) | (refine kp ?_)); (try simp only [pz, pn, sz, sc]); refine re ?_
  refine r1 3 ?_; (first | (refine kE (o := ⟨some 12, _, _, _, _, _⟩) (fun ob => [(b5, .cells #[.int .u64 0, .int .u64 0, .int .i64 0, .int .i64 0] 41), (b4, .cells #[.int .u64 0, .int .u64 0, .int .i64 0, .int .i64 0] 41), (b3, .cells cs 26), (bb, ob)]) gf14 hst (fun w hst => hun.out w (hst.own _ _ (by repeat (first | exact List.Mem.head _ | refine List.Mem.tail _ ?_)))) rfl rfl rfl rfl ?_; clear hst; intro v12 ob w hR hst; obtain ⟨bu, rfl, rfl⟩ := hR) | (refine kE (o := ⟨some 12, _, _, _, _, _⟩) (fun ob => [(b4, .cells #[.int .u64 0, .int .u64 0, .int .i64 0, .int .i64 0] 41), (b3, .cells cs 26), (bb, ob)]) gf14 hst (fun w hst => hun.out w (hst.own _ _ (by repeat (first | exact List.Mem.head _ | refine List.Mem.tail _ ?_)))) rfl rfl rfl rfl ?_; clear hst; intro v12 ob w hR hst; obtain ⟨bu, rfl, rfl⟩ := hR) | (refine kg gf15 hst (fun w hst => hdo'.out bu w hst.keeps) rfl rfl rfl rfl ?_; clear hst; intro w hst) | (refine kp ?_)); (try simp only [pz, pn, sz, sc]); refine re ?_
  refine r1 5 ?_; (refine kt hst ta41 rfl rfl ?_; clear hst; intro w hst); (try simp only [pz, pn, sz, sc]); refine re ?_
  refine rd_ ?_
  rotate_right 2
  all_goals
    have hA4b := hA4.out bu
    have hA5b := hA5.out bu
    go_wp2_with ((first | (refine kS 16 hst ts30 hbs rfl rfl ?_; clear hst; intro b16 w hb16 hst) | (refine kg gf16 hst (fun w hst => hta.out b16 w hst.keeps (hst.own _ _ (by repeat (first | exact List.Mem.head _ | refine List.Mem.tail _ ?_)))) rfl rfl rfl rfl ?_; clear hst; intro w hst) | (refine kT gf17 hst (fun w hst => hA4b w (hst.own _ _ (by repeat (first | exact List.Mem.head _ | refine List.Mem.tail _ ?_)))) rfl rfl rfl rfl ?_; clear hst; intro w hst) | (refine kb 3 hst rfl rfl ?_; clear hst; intro b3 w hb3 hst) | (refine ka 4 hst tz41 rfl rfl ?_; clear hst; intro b4 w hb4 hst) | (refine kB (tb41_2 _) rfl ?_) | (refine kt hst ta41 rfl rfl ?_; clear hst; intro w hst) | (refine kl hst ta26 rfl ?_) | (refine ka 5 hst tz41 rfl rfl ?_; clear hst; intro b5 w hb5 hst) | (refine kl hst ta41 rfl ?_) | (refine wl_slice1 (o := ⟨some 16, _, _, _, _, _⟩) hst ts30 te41 rfl rfl (by (simp only [eval_lit, eval_k, eval_f, eval_g, List.getD_cons_succ, List.getD_cons_zero]) <;> rfl) (by rfl) ?_; clear hst; intro b16 w hb16 hst) | (refine ka 6 hst tz36 rfl rfl ?_; clear hst; intro b6 w hb6 hst) | (refine kt hst ta36 rfl rfl ?_; clear hst; intro w hst) | (refine kc hst tc3 rfl ?_)); try simp only [pz, pn, sz, sc])
    have hq1 := hq.out.1
    refine wp_region_TV 6 [(b6, .cells cO 36)] hst (by kernel_rfl) ?_; clear hst; intro w hst; (try simp only [List.length_cons, List.length_nil, Nat.reduceAdd, Array.replicate_succ, Array.replicate_zero, List.push_toArray, List.nil_append, List.cons_append])
    refine r0 0 ?_; simp only [pz, pn, sz, sc]
    refine r0 1 ?_; simp only [pz, pn, sz, sc]
    refine r0 2 ?_; simp only [pz, pn, sz, sc]
    refine r0 3 ?_; simp only [pz, pn, sz, sc]
    refine rl 4 rfl ?_ (ylC tc3); simp only [pz, pn, sz, sc]
    refine r1 5 ?_; (first | (refine kT gf17 hst (fun w hst => hA5b w (hst.own _ _ (by repeat (first | exact List.Mem.head _ | refine List.Mem.tail _ ?_)))) rfl rfl rfl rfl ?_; clear hst; intro w hst) | (refine kp ?_)); (try simp only [pz, pn, sz, sc]); refine re ?_
    refine rd_ ?_
    all_goals
      go_wp2_with ((first | (refine kb 3 hst rfl rfl ?_; clear hst; intro b3 w hb3 hst) | (refine ka 4 hst tz41 rfl rfl ?_; clear hst; intro b4 w hb4 hst) | (refine kB (tb41_2 _) rfl ?_) | (refine kt hst ta41 rfl rfl ?_; clear hst; intro w hst) | (refine kl hst ta26 rfl ?_) | (refine ka 5 hst tz41 rfl rfl ?_; clear hst; intro b5 w hb5 hst) | (refine kl hst ta41 rfl ?_) | (refine wl_slice1 (o := ⟨some 16, _, _, _, _, _⟩) hst ts30 te41 rfl rfl (by (simp only [eval_lit, eval_k, eval_f, eval_g, List.getD_cons_succ, List.getD_cons_zero]) <;> rfl) (by rfl) ?_; clear hst; intro b16 w hb16 hst) | (refine ka 6 hst tz36 rfl rfl ?_; clear hst; intro b6 w hb6 hst) | (refine kt hst ta36 rfl rfl ?_; clear hst; intro w hst) | (refine kc hst tc3 rfl ?_)); try simp only [pz, pn, sz, sc])
      go_loopw [7, 28] (fun _ i wr => ∃ k : Nat, k ≤ 5 ∧ i = .int .i64 k ∧ St w0 [bb] [(b6, .cells cO 36), (b16, .cells rs 41), (b5, .cells rs 41), (b4, .cells #[.int .u64 0, .int .u64 0, .int .i64 0, .int .i64 0] 41), (b3, .cells cs 26), (bb, .cells (batR bu (n + 1) (m + bd s) (tkN t (ft g) k)) 62)] wr) (fun _ i _ => 5 - (intOf i).toNat)
      case atStart => exact ⟨0, by omega, rfl, by rw [tk_start]; exact hst⟩
      case round =>
        clear hst
        obtain ⟨k, hk5, rfl, hst⟩ := hrel
        by_cases hlt : k < 5
        · have i1 : (0 : Int) ≤ (k : Int) := by omega
          have i2 : (k : Int) < 5 := by omega
          have hAk := hA6.out bu k hlt
          have hqk := hq.out.2 k hlt
          clear hA4 hA5 hA6 hq hq1 hA4b hA5b hdo' hun hta hbs
          go_wp2_with ((first | (refine kb 3 hst rfl rfl ?_; clear hst; intro b3 w hb3 hst) | (refine ka 4 hst tz41 rfl rfl ?_; clear hst; intro b4 w hb4 hst) | (refine kB (tb41_2 _) rfl ?_) | (refine kt hst ta41 rfl rfl ?_; clear hst; intro w hst) | (refine kl hst ta26 rfl ?_) | (refine ka 5 hst tz41 rfl rfl ?_; clear hst; intro b5 w hb5 hst) | (refine kl hst ta41 rfl ?_) | (refine wl_slice1 (o := ⟨some 16, _, _, _, _, _⟩) hst ts30 te41 rfl rfl (by (simp only [eval_lit, eval_k, eval_f, eval_g, List.getD_cons_succ, List.getD_cons_zero]) <;> rfl) (by rfl) ?_; clear hst; intro b16 w hb16 hst) | (refine ka 6 hst tz36 rfl rfl ?_; clear hst; intro b6 w hb6 hst) | (refine kt hst ta36 rfl rfl ?_; clear hst; intro w hst) | (refine kc hst tc3 rfl ?_)); try simp only [pz, pn, sz, sc])
          refine wp_region_TV 10 [(b6, .cells cO 36)] hst (by kernel_rfl) ?_; clear hst; intro w hst; (try simp only [List.length_cons, List.length_nil, Nat.reduceAdd, Array.replicate_succ, Array.replicate_zero, List.push_toArray, List.nil_append, List.cons_append])
          refine r0 0 ?_; simp only [pz, pn, sz, sc]
          refine r0 1 ?_; simp only [pz, pn, sz, sc]
          refine r0 2 ?_; simp only [pz, pn, sz, sc]
          refine r0 3 ?_; simp only [pz, pn, sz, sc]
          refine r0 4 ?_; simp only [pz, pn, sz, sc]
          refine r0 5 ?_; simp only [pz, pn, sz, sc]
          refine r0 6 ?_; simp only [pz, pn, sz, sc]
          refine r0 7 ?_; simp only [pz, pn, sz, sc]
          refine rl 8 rfl ?_ (ylC tc3); simp only [pz, pn, sz, sc]
          refine r1 9 ?_; (first | (refine kT gf17 hst (fun w hst => hAk w (hst.own _ _ (by repeat (first | exact List.Mem.head _ | refine List.Mem.tail _ ?_)))) rfl rfl rfl rfl ?_; clear hst; intro w hst) | (refine kp ?_)); (try simp only [pz, pn, sz, sc]); refine re ?_
          refine rd_ ?_
          all_goals
            go_wp2_with ((first | (refine kb 3 hst rfl rfl ?_; clear hst; intro b3 w hb3 hst) | (refine ka 4 hst tz41 rfl rfl ?_; clear hst; intro b4 w hb4 hst) | (refine kB (tb41_2 _) rfl ?_) | (refine kt hst ta41 rfl rfl ?_; clear hst; intro w hst) | (refine kl hst ta26 rfl ?_) | (refine ka 5 hst tz41 rfl rfl ?_; clear hst; intro b5 w hb5 hst) | (refine kl hst ta41 rfl ?_) | (refine wl_slice1 (o := ⟨some 16, _, _, _, _, _⟩) hst ts30 te41 rfl rfl (by (simp only [eval_lit, eval_k, eval_f, eval_g, List.getD_cons_succ, List.getD_cons_zero]) <;> rfl) (by rfl) ?_; clear hst; intro b16 w hb16 hst) | (refine ka 6 hst tz36 rfl rfl ?_; clear hst; intro b6 w hb6 hst) | (refine kt hst ta36 rfl rfl ?_; clear hst; intro w hst) | (refine kc hst tc3 rfl ?_)); try simp only [pz, pn, sz, sc])
            go_roundw
            case rel => exact ⟨k + 1, by omega, by go_num, hst⟩
            case measure => simp [intOf]; omega
        · have : k = 5 := by omega
          subst this
          rw [tk_end] at hst
          clear hA4 hA5 hA6 hq hq1 hA4b hA5b hdo' hun hta hbs
          have q : decide (((5 : Nat) : Int) < 5) = false := by decide
          go_wp2_with ((first | (refine kb 3 hst rfl rfl ?_; clear hst; intro b3 w hb3 hst) | (refine ka 4 hst tz41 rfl rfl ?_; clear hst; intro b4 w hb4 hst) | (refine kB (tb41_2 _) rfl ?_) | (refine kt hst ta41 rfl rfl ?_; clear hst; intro w hst) | (refine kl hst ta26 rfl ?_) | (refine ka 5 hst tz41 rfl rfl ?_; clear hst; intro b5 w hb5 hst) | (refine kl hst ta41 rfl ?_) | (refine wl_slice1 (o := ⟨some 16, _, _, _, _, _⟩) hst ts30 te41 rfl rfl (by (simp only [eval_lit, eval_k, eval_f, eval_g, List.getD_cons_succ, List.getD_cons_zero]) <;> rfl) (by rfl) ?_; clear hst; intro b16 w hb16 hst) | (refine ka 6 hst tz36 rfl rfl ?_; clear hst; intro b6 w hb6 hst) | (refine kt hst ta36 rfl rfl ?_; clear hst; intro w hst) | (refine kc hst tc3 rfl ?_)); try simp only [pz, pn, sz, sc])
          exact bp_c rfl rfl (la hst ta41) (GivesE.of hst ⟨rfl, bu, rfl⟩ (by simp))

end Go.Proofs.YtoakmlopjeecoaaGreatDoor.Rd
