/- Numbers of digits by 2^32, as cells that are set; what the reference's Mul answers. -/
import Derived.Test.YtefpoconpeggpaaGreatDoorK08
import Derived.Test.YtefpoconpeggpaaGreatDoorK06
import Derived.Defers
import Derived.Laws.Pointers
import Derived.Laws.LoneSync
import Derived.RegionCalls
import Derived.Laws.NewBlocks
import Derived.Test.YtefpoconpeggpaaGreatDoorK04
import Derived.Laws.MakeOwn
namespace Go.Proofs.YtefpoconpeggpaaGreatDoor.Rd
open Go Go.RowKit
set_option linter.unusedVariables false
set_option linter.unusedSimpArgs false
set_option maxRecDepth 100000

theorem wExp_in (f m : Nat) : -100000 ≤ wExp f m ∧ wExp f m ≤ 100000 := by
  have := wField_lt f m
  have := fE_in f
  have := fP_in f
  unfold wExp
  omega
theorem unpack_Unpack (f : Nat) (h1 : 1 ≤ f) (h4 : f ≤ 4) (m : Nat) (hm : m < 2 ^ fB f) (hfin : finB f m = true) (h0 : wSig f m ≠ 0) (w0 : World) (hF : FmtIn w0) :
    GivesAt Tryz.prog 69 #[.int .i64 f, Wd m] (.tuple #[.agg (nbC (wNeg f m) (wExp f m - (fP f - bl (wSig f m) : Nat)) (wSig f m * 2 ^ (fP f - bl (wSig f m)))), .bool true]) w0 := by
  have hst := St.start [] w0
  have hk := Lib.hid (fun w (k : Keeps [] w0 w) => hF.keep k (by simp))
  have h := fun w hw => unpack_made f h1 h4 m hm hfin 102 gf102 _ true (nbC_size _ _ _) (nbC_one _ _ _) w hw (fun w' _ => (unpack_Unpack_1 f (wNeg f m) (wExp f m) (wSig f m) (wExp_in f m).1 (wExp_in f m).2 h0 (wSig_lt f m)).at w')
  have y1 := nbC_size (wNeg f m) (wExp f m - (fP f - bl (wSig f m) : Nat)) (wSig f m * 2 ^ (fP f - bl (wSig f m)))
  have y2 := nbC_one (wNeg f m) (wExp f m - (fP f - bl (wSig f m) : Nat)) (wSig f m * 2 ^ (fP f - bl (wSig f m)))
  clear hF hfin hm h0
  generalize nbC (wNeg f m) (wExp f m - (fP f - bl (wSig f m) : Nat)) (wSig f m * 2 ^ (fP f - bl (wSig f m))) = r at *
  go_enter Tryz.func69, Tryz.ntmps69
  go_wp2_with ((first | (refine kg gf101 hst (fun w hst => h w (hk.out w hst.keeps)) rfl rfl rfl rfl ?_; clear hst; intro w hst) | (refine kb 3 hst rfl rfl ?_; clear hst; intro b3 w hb3 hst) | (refine ka 4 hst tz46 rfl rfl ?_; clear hst; intro b4 w hb4 hst) | (refine kl hst ta24 rfl ?_) | (refine kt hst ta46 rfl rfl ?_; clear hst; intro w hst)); try simp only [pz, pn, sz, sc])
  refine bp_ct rfl rfl (la hst ta46) (by rfl) ⟨?_, hst.keeps⟩
  rfl

theorem unpack_Unpack_zero (f : Nat) (h1 : 1 ≤ f) (h4 : f ≤ 4) (m : Nat) (hm : m < 2 ^ fB f) (hfin : finB f m = true) (h0 : wSig f m = 0) (w0 : World) (hF : FmtIn w0) :
    GivesAt Tryz.prog 69 #[.int .i64 f, Wd m] (.tuple #[.agg (nbC false 0 0), .bool false]) w0 := by
  have hst := St.start [] w0
  have hk := Lib.hid (fun w (k : Keeps [] w0 w) => hF.keep k (by simp))
  have h := fun w hw => unpack_made f h1 h4 m hm hfin 102 gf102 _ false (nbC_size _ _ _) (nbC_one _ _ _) w hw (fun w' _ => by rw [h0]; exact (unpack_Unpack_0 f (wNeg f m) (wExp f m)).at w')
  have y1 := nbC_size false 0 0
  have y2 := nbC_one false 0 0
  clear hF hfin hm h0
  generalize nbC false 0 0 = r at *
  go_enter Tryz.func69, Tryz.ntmps69
  go_wp2_with ((first | (refine kg gf101 hst (fun w hst => h w (hk.out w hst.keeps)) rfl rfl rfl rfl ?_; clear hst; intro w hst) | (refine kb 3 hst rfl rfl ?_; clear hst; intro b3 w hb3 hst) | (refine ka 4 hst tz46 rfl rfl ?_; clear hst; intro b4 w hb4 hst) | (refine kl hst ta24 rfl ?_) | (refine kt hst ta46 rfl rfl ?_; clear hst; intro w hst)); try simp only [pz, pn, sz, sc])
  refine bp_ct rfl rfl (la hst ta46) (by rfl) ⟨?_, hst.keeps⟩
  rfl

theorem unpack_Unpack_no (f : Nat) (h1 : 1 ≤ f) (h4 : f ≤ 4) (m : Nat) (hm2 : m < M2) (hfin : finB f m = false) (w0 : World) (hF : FmtIn w0) :
    GivesAt Tryz.prog 69 #[.int .i64 f, Wd m] (.tuple #[.agg (nbC false 0 0), .bool false]) w0 := by
  have hst := St.start [] w0
  have hk := Lib.hid (fun w (k : Keeps [] w0 w) => hF.keep k (by simp))
  have h := fun g w hw => unpack_made_no f h1 h4 m hm2 hfin g w hw
  have y1 := nbC_size false 0 0
  have y2 := nbC_one false 0 0
  clear hF hfin
  generalize nbC false 0 0 = r at *
  go_enter Tryz.func69, Tryz.ntmps69
  go_wp2_with ((first | (refine kg gf101 hst (fun w hst => h _ w (hk.out w hst.keeps)) rfl rfl rfl rfl ?_; clear hst; intro w hst) | (refine kb 3 hst rfl rfl ?_; clear hst; intro b3 w hb3 hst) | (refine ka 4 hst tz46 rfl rfl ?_; clear hst; intro b4 w hb4 hst) | (refine kl hst ta24 rfl ?_) | (refine kt hst ta46 rfl rfl ?_; clear hst; intro w hst)); try simp only [pz, pn, sz, sc])
  refine bp_ct rfl rfl (la hst ta46) (by rfl) ⟨?_, hst.keeps⟩
  rfl

theorem unpack_Unpack_non (f : Int) (h : f < 1 ∨ 4 < f) (m : Nat) : Gives Tryz.prog 69 #[.int .i64 f, Wd m] (.tuple #[.agg (nbC false 0 0), .bool false]) := by
  intro w0
  have hst := St.start [] w0
  have h := fun g => unpack_made_non f h m g
  have y1 := nbC_size false 0 0
  have y2 := nbC_one false 0 0
  generalize nbC false 0 0 = r at *
  go_enter Tryz.func69, Tryz.ntmps69
  go_wp2_with ((first | (refine kf gf101 hst (h _) rfl rfl rfl rfl ?_; clear hst; intro w hst) | (refine kb 3 hst rfl rfl ?_; clear hst; intro b3 w hb3 hst) | (refine ka 4 hst tz46 rfl rfl ?_; clear hst; intro b4 w hb4 hst) | (refine kl hst ta24 rfl ?_) | (refine kt hst ta46 rfl rfl ?_; clear hst; intro w hst)); try simp only [pz, pn, sz, sc])
  refine bp_ct rfl rfl (la hst ta46) (by rfl) ⟨?_, hst.keeps⟩
  rfl

section
variable (b5 b6 b7 : Nat) (w0 : World)
theorem grows_1 (r : Nat) (odd : Bool) (hr : r ≤ 3) (hne : b6 ≠ b7) (h7 : w0.heap[b7]? = some (.cells #[.int .i64 r] 3)) (h6 : w0.heap[b6]? = some (.cells #[.bool odd] 4)) :
    GivesAt Tryz.prog 140 #[.pointer (some ⟨b7, 0, none⟩), .pointer (some ⟨b6, 0, none⟩)] (.bool (decide (r = 3) || (decide (r = 2) && odd))) w0 := by
  have hst : St w0 [] [(b6, .cells #[.bool odd] 4), (b7, .cells #[.int .i64 r] 3)] w0 := ((St.start [] w0).add h7 (by simp)).add h6 (by simpa using hne)
  clear h7 h6
  by_cases e3 : r = 3
  · subst e3
    rw [show ((3 : Nat) : Int) = 3 from rfl] at hst
    go_enter Tryz.func140, Tryz.ntmps140
    go_wp2_with ((first | (refine kc hst tc3 rfl ?_)); try simp only [pz, pn, sz, sc])
    refine bp_t rfl rfl (by rfl) ⟨?_, hst.keeps⟩
    rfl
  · by_cases e2 : r = 2
    · subst e2
      rw [show ((2 : Nat) : Int) = 2 from rfl] at hst
      go_enter Tryz.func140, Tryz.ntmps140
      go_wp2_with ((first | (refine wl_guard (by rfl) ?_) | (refine kc hst tc3 rfl ?_) | (refine kc hst tc4 rfl ?_)); try simp only [pz, pn, sz, sc])
      refine bp_t rfl rfl (by rfl) ⟨?_, hst.keeps⟩
      simp
    · have q3 : ((r : Int) == 3) = false := by simp; omega
      have q2 : ((r : Int) == 2) = false := by simp; omega
      have d3 : decide (r = 3) = false := by simpa using e3
      have d2 : decide (r = 2) = false := by simpa using e2
      rw [d3, d2]
      clear e2 e3 d3 d2
      go_enter Tryz.func140, Tryz.ntmps140
      go_wp2_with ((first | (refine wl_guard (by rfl) ?_) | (refine kc hst tc3 rfl ?_)); try simp only [pz, pn, sz, sc])
      refine bp_t rfl rfl (by rfl) ⟨?_, hst.keeps⟩
      rfl

theorem grows_2 (r : Nat) (hr : r ≠ 0) (h7 : w0.heap[b7]? = some (.cells #[.int .i64 r] 3)) : GivesAt Tryz.prog 141 #[.pointer (some ⟨b7, 0, none⟩)] (.bool (decide (2 ≤ r))) w0 := by
  have hst := (St.start [] w0).add h7 (by simp)
  clear h7
  by_cases e1 : r = 1
  · subst e1
    rw [show ((1 : Nat) : Int) = 1 from rfl] at hst
    go_enter Tryz.func141, Tryz.ntmps141
    go_wp2_with ((first | (refine kc hst tc3 rfl ?_)); try simp only [pz, pn, sz, sc])
    refine bp_t rfl rfl (by rfl) ⟨?_, hst.keeps⟩
    rfl
  · have q1 : ((r : Int) == 1) = false := by simp; omega
    have q2 : ((r : Int) != 1) = true := by simp; omega
    have d : decide (2 ≤ r) = true := decide_eq_true (by omega)
    rw [d]
    clear d e1 hr
    go_enter Tryz.func141, Tryz.ntmps141
    go_wp2_with ((first | (refine kc hst tc3 rfl ?_)); try simp only [pz, pn, sz, sc])
    refine bp_t rfl rfl (by rfl) ⟨?_, hst.keeps⟩
    rfl

theorem grows_3 : GivesAt Tryz.prog 142 #[] (.bool false) w0 := by
  have hst := St.start [] w0
  go_enter Tryz.func142, Tryz.ntmps142
  go_wp2_with fail
  refine bp_t rfl rfl (by rfl) ⟨?_, hst.keeps⟩
  rfl

theorem grows_4 (ng : Bool) (h5 : w0.heap[b5]? = some (.cells #[.bool ng] 4)) : GivesAt Tryz.prog 143 #[.pointer (some ⟨b5, 0, none⟩)] (.bool (!ng)) w0 := by
  have hst := (St.start [] w0).add h5 (by simp)
  clear h5
  go_enter Tryz.func143, Tryz.ntmps143
  go_wp2_with ((first | (refine kc hst tc4 rfl ?_)); try simp only [pz, pn, sz, sc])
  refine bp_t rfl rfl (by rfl) ⟨?_, hst.keeps⟩
  rfl

theorem grows_5 (ng : Bool) (h5 : w0.heap[b5]? = some (.cells #[.bool ng] 4)) : GivesAt Tryz.prog 144 #[.pointer (some ⟨b5, 0, none⟩)] (.bool ng) w0 := by
  have hst := (St.start [] w0).add h5 (by simp)
  clear h5
  go_enter Tryz.func144, Tryz.ntmps144
  go_wp2_with ((first | (refine kc hst tc4 rfl ?_)); try simp only [pz, pn, sz, sc])
  refine bp_t rfl rfl (by rfl) ⟨?_, hst.keeps⟩
  rfl
end

/-- The cells of the functions of the modes. -/
def dsC (b5 b6 b7 : Nat) : Array Value := #[.nilFunc, .func (.func 140) #[] #[.pointer (some ⟨b7, 0, none⟩), .pointer (some ⟨b6, 0, none⟩)], .func (.func 141) #[] #[.pointer (some ⟨b7, 0, none⟩)], .func (.func 142) #[] #[], .func (.func 143) #[] #[.pointer (some ⟨b5, 0, none⟩)], .func (.func 144) #[] #[.pointer (some ⟨b5, 0, none⟩)]]
theorem build_does (b5 b6 b7 : Nat) (w : World) : (Instr.build 217 (List.toArray [(1, .func (.func 140) #[] #[.pointer (some ⟨b7, 0, none⟩), .pointer (some ⟨b6, 0, none⟩)]), (2, .func (.func 141) #[] #[.pointer (some ⟨b7, 0, none⟩)]), (3, .func (.func 142) #[] #[]), (4, .func (.func 143) #[] #[.pointer (some ⟨b5, 0, none⟩)]), (5, .func (.func 144) #[] #[.pointer (some ⟨b5, 0, none⟩)])])).run Tryz.prog w = .ok (.agg (dsC b5 b6 b7)) w := by kernel_rfl

set_option maxHeartbeats 4000000 in
theorem mode_Grows (m : Nat) (h1 : 1 ≤ m) (h5 : m ≤ 5) (ng odd : Bool) (r : Nat) (hr : r ≤ 3) : Gives Tryz.prog 118 #[.int .i64 m, .bool ng, .bool odd, .int .i64 r] (.bool (growsB m ng odd r)) := by
  intro w0
  have hst := St.start [] w0
  have his := mode_Is_yes m (by omega) (by omega)
  by_cases h0 : r = 0
  · subst h0
    rw [show growsB m ng odd 0 = false from if_pos rfl, show ((0 : Nat) : Int) = 0 from rfl]
    clear h1 h5
    go_enter Tryz.func118, Tryz.ntmps118
    go_wp2_with ((first | (refine kf gf62 hst (his) rfl rfl rfl rfl ?_; clear hst; intro w hst) | (refine wl_guard (by rfl) ?_) | (refine kb 5 hst rfl rfl ?_; clear hst; intro b5 w hb5 hst) | (refine kb 6 hst rfl rfl ?_; clear hst; intro b6 w hb6 hst) | (refine kb 7 hst rfl rfl ?_; clear hst; intro b7 w hb7 hst) | (refine kc hst tc3 rfl ?_)); try simp only [pz, pn, sz, sc])
    refine bp_t rfl rfl (by rfl) ⟨?_, hst.keeps⟩
    rfl
  · have r1 : ¬ (r : Int) < 1 := by omega
    have r3 : ¬ (3 : Int) < (r : Int) := by omega
    have hb := build_does
    have k1 := fun b6 b7 (hne : b6 ≠ b7) w q7 q6 => grows_1 b6 b7 w r odd hr hne q7 q6
    have k2 := fun b7 w q7 => grows_2 b7 w r h0 q7
    have k3 := fun w => grows_3 w
    have k4 := fun b5 w q5 => grows_4 b5 w ng q5
    have k5 := fun b5 w q5 => grows_5 b5 w ng q5
    have e : growsB m ng odd r = if m = 1 then decide (r = 3) || (decide (r = 2) && odd) else if m = 2 then decide (2 ≤ r) else if m = 4 then !ng else if m = 5 then ng else false := by unfold growsB; rw [if_neg h0]
    rw [e]
    clear e h0 hr
    generalize (decide (r = 3) || (decide (r = 2) && odd)) = x1 at *
    generalize decide (2 ≤ r) = x2 at *
    have f1 := gf140
    have f2 := gf141
    have f3 := gf142
    have f4 := gf143
    have f5 := gf144
    unfold dsC at hb
    obtain rfl | rfl | rfl | rfl | rfl : m = 1 ∨ m = 2 ∨ m = 3 ∨ m = 4 ∨ m = 5 := by omega
    · rw [if_pos rfl, show ((1 : Nat) : Int) = 1 from rfl] at *
      go_enter Tryz.func118, Tryz.ntmps118
      go_wp2_with ((first | (refine kf gf62 hst (his) rfl rfl rfl rfl ?_; clear hst; intro w hst) | (refine kB (hb _ _ _) rfl ?_) | (refine kg f1 hst (fun w hst => k1 b6 b7 (by have q := hst.nodup; simp only [List.map_cons, List.map_nil, List.nodup_cons, List.mem_cons, List.not_mem_nil, or_false, not_or] at q; omega) w (hst.own _ _ (by repeat (first | exact List.Mem.head _ | refine List.Mem.tail _ ?_))) (hst.own _ _ (by repeat (first | exact List.Mem.head _ | refine List.Mem.tail _ ?_)))) rfl rfl rfl rfl ?_; clear hst; intro w hst) | (refine wl_guard (by rfl) ?_) | (refine kb 5 hst rfl rfl ?_; clear hst; intro b5 w hb5 hst) | (refine kb 6 hst rfl rfl ?_; clear hst; intro b6 w hb6 hst) | (refine kb 7 hst rfl rfl ?_; clear hst; intro b7 w hb7 hst) | (refine kc hst tc3 rfl ?_) | (refine ka 9 hst tz217 rfl rfl ?_; clear hst; intro b9 w hb9 hst) | (refine kt hst ta217 rfl rfl ?_; clear hst; intro w hst) | (refine kc hst tc32 rfl ?_)); try simp only [pz, pn, sz, sc])
      refine bp_t rfl rfl (by rfl) ⟨?_, hst.keeps⟩
      rfl
    · rw [if_neg (by decide), if_pos rfl, show ((2 : Nat) : Int) = 2 from rfl] at *
      go_enter Tryz.func118, Tryz.ntmps118
      go_wp2_with ((first | (refine kf gf62 hst (his) rfl rfl rfl rfl ?_; clear hst; intro w hst) | (refine kB (hb _ _ _) rfl ?_) | (refine kg f2 hst (fun w hst => k2 b7 w (hst.own _ _ (by repeat (first | exact List.Mem.head _ | refine List.Mem.tail _ ?_)))) rfl rfl rfl rfl ?_; clear hst; intro w hst) | (refine wl_guard (by rfl) ?_) | (refine kb 5 hst rfl rfl ?_; clear hst; intro b5 w hb5 hst) | (refine kb 6 hst rfl rfl ?_; clear hst; intro b6 w hb6 hst) | (refine kb 7 hst rfl rfl ?_; clear hst; intro b7 w hb7 hst) | (refine kc hst tc3 rfl ?_) | (refine ka 9 hst tz217 rfl rfl ?_; clear hst; intro b9 w hb9 hst) | (refine kt hst ta217 rfl rfl ?_; clear hst; intro w hst) | (refine kc hst tc32 rfl ?_)); try simp only [pz, pn, sz, sc])
      refine bp_t rfl rfl (by rfl) ⟨?_, hst.keeps⟩
      rfl
    · rw [if_neg (by decide), if_neg (by decide), if_neg (by decide), if_neg (by decide), show ((3 : Nat) : Int) = 3 from rfl] at *
      go_enter Tryz.func118, Tryz.ntmps118
      go_wp2_with ((first | (refine kf gf62 hst (his) rfl rfl rfl rfl ?_; clear hst; intro w hst) | (refine kB (hb _ _ _) rfl ?_) | (refine kg f3 hst (fun w hst => k3 w) rfl rfl rfl rfl ?_; clear hst; intro w hst) | (refine wl_guard (by rfl) ?_) | (refine kb 5 hst rfl rfl ?_; clear hst; intro b5 w hb5 hst) | (refine kb 6 hst rfl rfl ?_; clear hst; intro b6 w hb6 hst) | (refine kb 7 hst rfl rfl ?_; clear hst; intro b7 w hb7 hst) | (refine kc hst tc3 rfl ?_) | (refine ka 9 hst tz217 rfl rfl ?_; clear hst; intro b9 w hb9 hst) | (refine kt hst ta217 rfl rfl ?_; clear hst; intro w hst) | (refine kc hst tc32 rfl ?_)); try simp only [pz, pn, sz, sc])
      refine bp_t rfl rfl (by rfl) ⟨?_, hst.keeps⟩
      rfl
    · rw [if_neg (by decide), if_neg (by decide), if_pos rfl, show ((4 : Nat) : Int) = 4 from rfl] at *
      go_enter Tryz.func118, Tryz.ntmps118
      go_wp2_with ((first | (refine kf gf62 hst (his) rfl rfl rfl rfl ?_; clear hst; intro w hst) | (refine kB (hb _ _ _) rfl ?_) | (refine kg f4 hst (fun w hst => k4 b5 w (hst.own _ _ (by repeat (first | exact List.Mem.head _ | refine List.Mem.tail _ ?_)))) rfl rfl rfl rfl ?_; clear hst; intro w hst) | (refine wl_guard (by rfl) ?_) | (refine kb 5 hst rfl rfl ?_; clear hst; intro b5 w hb5 hst) | (refine kb 6 hst rfl rfl ?_; clear hst; intro b6 w hb6 hst) | (refine kb 7 hst rfl rfl ?_; clear hst; intro b7 w hb7 hst) | (refine kc hst tc3 rfl ?_) | (refine ka 9 hst tz217 rfl rfl ?_; clear hst; intro b9 w hb9 hst) | (refine kt hst ta217 rfl rfl ?_; clear hst; intro w hst) | (refine kc hst tc32 rfl ?_)); try simp only [pz, pn, sz, sc])
      refine bp_t rfl rfl (by rfl) ⟨?_, hst.keeps⟩
      rfl
    · rw [if_neg (by decide), if_neg (by decide), if_neg (by decide), if_pos rfl, show ((5 : Nat) : Int) = 5 from rfl] at *
      go_enter Tryz.func118, Tryz.ntmps118
      go_wp2_with ((first | (refine kf gf62 hst (his) rfl rfl rfl rfl ?_; clear hst; intro w hst) | (refine kB (hb _ _ _) rfl ?_) | (refine kg f5 hst (fun w hst => k5 b5 w (hst.own _ _ (by repeat (first | exact List.Mem.head _ | refine List.Mem.tail _ ?_)))) rfl rfl rfl rfl ?_; clear hst; intro w hst) | (refine wl_guard (by rfl) ?_) | (refine kb 5 hst rfl rfl ?_; clear hst; intro b5 w hb5 hst) | (refine kb 6 hst rfl rfl ?_; clear hst; intro b6 w hb6 hst) | (refine kb 7 hst rfl rfl ?_; clear hst; intro b7 w hb7 hst) | (refine kc hst tc3 rfl ?_) | (refine ka 9 hst tz217 rfl rfl ?_; clear hst; intro b9 w hb9 hst) | (refine kt hst ta217 rfl rfl ?_; clear hst; intro w hst) | (refine kc hst tc32 rfl ?_)); try simp only [pz, pn, sz, sc])
      refine bp_t rfl rfl (by rfl) ⟨?_, hst.keeps⟩
      rfl

end Go.Proofs.YtefpoconpeggpaaGreatDoor.Rd

namespace Go.Proofs.YtefpoconpeggpaaGreatDoor.Rd
open Go Go.RowKit
set_option linter.unusedVariables false
set_option linter.unusedSimpArgs false
set_option maxRecDepth 100000

theorem on_disable (w : World) : (callFunc 177 #[]).run Tryz.prog w = .ok (.value (.tuple #[])) w := run_call_mark0 Tryz.func177 (by kernel_rfl) (by kernel_rfl) (by kernel_rfl) .disable (by kernel_rfl) w
theorem on_enable (w : World) : (callFunc 179 #[]).run Tryz.prog w = .ok (.value (.tuple #[])) w := run_call_mark0 Tryz.func179 (by kernel_rfl) (by kernel_rfl) (by kernel_rfl) .enable (by kernel_rfl) w
theorem on_acquire (a : Addr) (w : World) : (callFunc 180 #[.pointer (some a)]).run Tryz.prog w = .ok (.value (.tuple #[])) w := run_call_marked Tryz.func180 (by kernel_rfl) (by kernel_rfl) (by kernel_rfl) .acquire (by kernel_rfl) a w
theorem on_release (a : Addr) (w : World) : (callFunc 182 #[.pointer (some a)]).run Tryz.prog w = .ok (.value (.tuple #[])) w := run_call_marked Tryz.func182 (by kernel_rfl) (by kernel_rfl) (by kernel_rfl) .releaseMerge (by kernel_rfl) a w

theorem on_store (a : Addr) (x : Value) (u : FrameMode) (w : World) (hc : w.cell? a = some x) (hz : w.frozen? a = false) :
    CallsD Tryz.prog 165 #[.pointer (some a), .bool true] u w fun e u' w' => u' = u ∧ (e = .returned (.tuple #[]) ∧ w' = w.drew.setCell a (.int .u32 1)) := by
  have hc' : w.drew.cell? a = some x := by go_simp
  have hz' : w.drew.frozen? a = false := by go_simp
  have hst := run_call_store (P := Tryz.prog) Tryz.func174 (by kernel_rfl) (by kernel_rfl) (by kernel_rfl) (by kernel_rfl) (k := .u32) (y := 1) hc' hz'
  go_enter_d Tryz.func165, Tryz.ntmps165
  go_wp2
  go_region_calls
  all_goals (go_end0; exact ⟨rfl, rfl⟩)

theorem on_unlock (a : Addr) (u : FrameMode) (w : World) (hc : w.cell? a = some (.int .i32 1)) (hz : w.frozen? a = false) :
    CallsD Tryz.prog 164 #[.pointer (some a)] u w fun e u' w' => u' = u ∧ (e = .returned (.tuple #[]) ∧ w' = w.setCell a (.int .i32 0)) := by
  have hd := on_disable
  have he := on_enable
  have hr := on_release
  have hadd := run_call_add (P := Tryz.prog) Tryz.func183 (by kernel_rfl) (by kernel_rfl) (by kernel_rfl) .i32 (by kernel_rfl) (y := -1) (s := 0) hc hz (by simp [go_sem]; rfl)
  have hcv := run_convert_to_unsafe (P := Tryz.prog) (src := 243) (dst := 247) Tryz.underlying243 Tryz.underlying247 (by kernel_rfl) hc
  go_enter_d Tryz.func164, Tryz.ntmps164
  go_wp2
  go_end0
  go_wp2
  go_end0
  exact ⟨rfl, rfl⟩

theorem on_lock (a : Addr) (w : World) (hc : w.cell? a = some (.int .i32 0)) (hz : w.frozen? a = false) :
    Calls Tryz.prog 163 #[.pointer (some a)] w fun e w' => e = .returned (.tuple #[]) ∧ w' = w.setCell a (.int .i32 1) := by
  have hd := on_disable
  have he := on_enable
  have ha := on_acquire
  have hcas := run_call_cas_hit (P := Tryz.prog) Tryz.func178 (by kernel_rfl) (by kernel_rfl) (by kernel_rfl) .i32 (by kernel_rfl) (y := 1) hc hz
  have hc' : (w.setCell a (.int .i32 1)).cell? a = some (.int .i32 1) := World.cell?_setCell_same w a _ hc
  have hcv := run_convert_to_unsafe (P := Tryz.prog) (src := 243) (dst := 247) Tryz.underlying243 Tryz.underlying247 (by kernel_rfl) hc'
  go_enter Tryz.func163, Tryz.ntmps163
  go_wp2
  first | go_end0 | (simp only [Exit.inBlock, Exit.then]; refine bodyPost_ret (results_none rfl _ _ _) rfl ?_) | refine bodyPost_ret (results_none rfl _ _ _) rfl ?_
  go_wp2
  go_end0
  exact ⟨rfl, rfl⟩

set_option maxHeartbeats 1600000 in
theorem on_slow (f : FuncId) (hf : GoF Tryz.prog f) (cap : Array Value) (b off : Nat) (R : World → Prop) (w : World)
    (h0 : w.cell? ⟨b, off, none⟩ = some (.int .u32 0)) (h1 : w.cell? ⟨b, off + 1, none⟩ = some (.int .i32 0)) (f0 : w.frozen? ⟨b, off, none⟩ = false) (f1 : w.frozen? ⟨b, off + 1, none⟩ = false)
    (hc : Calls Tryz.prog f cap (w.setCell ⟨b, off + 1, none⟩ (.int .i32 1)) fun e w2 => e = .returned (.tuple #[]) ∧ (∃ x, w2.cell? ⟨b, off, none⟩ = some x) ∧ w2.frozen? ⟨b, off, none⟩ = false ∧ w2.cell? ⟨b, off + 1, none⟩ = some (.int .i32 1) ∧ w2.frozen? ⟨b, off + 1, none⟩ = false ∧ R w2) :
    Calls Tryz.prog 138 #[.pointer (some ⟨b, off, none⟩), .func (.func f) #[] cap] w fun e w' => e = .returned (.tuple #[]) ∧ ∃ w2, R w2 ∧ w' = (w2.drew.setCell ⟨b, off, none⟩ (.int .u32 1)).setCell ⟨b, off + 1, none⟩ (.int .i32 0) := by
  have hl := run_call_load (P := Tryz.prog) Tryz.func162 (by kernel_rfl) (by kernel_rfl) (by kernel_rfl) .u32 (by kernel_rfl) (w := w.setCell ⟨b, off + 1, none⟩ (.int .i32 1)) (a := ⟨b, off, none⟩) (x := 0) ((World.cell?_setCell_other _ ⟨b, off + 1, none⟩ ⟨b, off, none⟩ _ (by simp)).trans h0)
  have hnot : ∀ (x : Bool) (w : World), (Op.unary .not (.bool x)).run Tryz.prog w = .ok (.bool (!x)) w := fun _ _ => rfl
  go_enter_defers Tryz.func138, Tryz.ntmps138
  go_wp2_with (go_at_call 163; refine (on_lock ⟨b, off + 1, none⟩ _ (by go_simp) (by go_simp)).mono ?_; rintro e w' ⟨rfl, rfl⟩)
  go_wp2
  rw [run_callFunc_go hf, Oper.upon_enter]
  refine hc.mono ?_
  rintro e w2 ⟨rfl, ⟨x, hx⟩, z0, c1, z1, hR⟩
  go_wp2
  -- the door: two deferred calls, the last laid first
  refine leaves_cons (f := 165) (args := #[.pointer (some ⟨b, off, none⟩), .bool true]) (by simp) (by simp [go_sem]) ?_
  refine (on_store ⟨b, off, none⟩ x .returning _ hx z0).mono ?_
  rintro e u' w'' ⟨rfl, rfl, rfl⟩
  refine leaves_cons (f := 164) (args := #[.pointer (some ⟨b, off + 1, none⟩)]) (by simp [settle]) (by simp [go_sem]) ?_
  refine (on_unlock ⟨b, off + 1, none⟩ _ _ ?_ (by simp [z1])).mono ?_
  · refine (World.cell?_setCell_other _ ⟨b, off, none⟩ ⟨b, off + 1, none⟩ _ (by simp)).trans ?_
    rw [World.cell?_drew]; exact c1
  rintro e u' w'' ⟨rfl, rfl, rfl⟩
  simp [Leaves, settle, results, Tryz.results138]
  exact ⟨w2, hR, rfl⟩

/-- Do, not yet done, the lock free. -/
theorem on_do (f : FuncId) (hf : GoF Tryz.prog f) (cap : Array Value) (b off : Nat) (R : World → Prop) (w : World)
    (h0 : w.cell? ⟨b, off, none⟩ = some (.int .u32 0)) (h1 : w.cell? ⟨b, off + 1, none⟩ = some (.int .i32 0)) (f0 : w.frozen? ⟨b, off, none⟩ = false) (f1 : w.frozen? ⟨b, off + 1, none⟩ = false)
    (hc : Calls Tryz.prog f cap (w.setCell ⟨b, off + 1, none⟩ (.int .i32 1)) fun e w2 => e = .returned (.tuple #[]) ∧ (∃ x, w2.cell? ⟨b, off, none⟩ = some x) ∧ w2.frozen? ⟨b, off, none⟩ = false ∧ w2.cell? ⟨b, off + 1, none⟩ = some (.int .i32 1) ∧ w2.frozen? ⟨b, off + 1, none⟩ = false ∧ R w2) :
    Calls Tryz.prog 110 #[.pointer (some ⟨b, off, none⟩), .func (.func f) #[] cap] w fun e w' => e = .returned (.tuple #[]) ∧ ∃ w2, R w2 ∧ w' = (w2.drew.setCell ⟨b, off, none⟩ (.int .u32 1)).setCell ⟨b, off + 1, none⟩ (.int .i32 0) := by
  have hl := run_call_load (P := Tryz.prog) Tryz.func162 (by kernel_rfl) (by kernel_rfl) (by kernel_rfl) .u32 (by kernel_rfl) h0
  have hnot : ∀ (x : Bool) (w : World), (Op.unary .not (.bool x)).run Tryz.prog w = .ok (.bool (!x)) w := fun _ _ => rfl
  go_enter Tryz.func110, Tryz.ntmps110
  go_wp2_with (first | (go_at_call 138; refine (on_slow f hf cap b off R _ h0 h1 f0 f1 hc).mono ?_; rintro e w' ⟨rfl, w2, hR, rfl⟩) | (go_at_call 137; go_in))
  go_end0
  exact ⟨rfl, w2, hR, rfl⟩

/-- Do, done already. -/
theorem on_done (a : Addr) (d : Int) (hd : ¬ d = 0) (fv : Value) (w : World) (h0 : w.cell? a = some (.int .u32 d)) :
    Calls Tryz.prog 110 #[.pointer (some a), fv] w fun e w' => e = .returned (.tuple #[]) ∧ w' = w := by
  have hl := run_call_load (P := Tryz.prog) Tryz.func162 (by kernel_rfl) (by kernel_rfl) (by kernel_rfl) .u32 (by kernel_rfl) h0
  have hnot : ∀ (x : Bool) (w : World), (Op.unary .not (.bool x)).run Tryz.prog w = .ok (.bool (!x)) w := fun _ _ => rfl
  have hd' : (d != 0) = true := by simp [hd]
  go_enter Tryz.func110, Tryz.ntmps110
  go_wp2
  go_end0
  exact ⟨rfl, rfl⟩

end Go.Proofs.YtefpoconpeggpaaGreatDoor.Rd

namespace Go.Proofs.YtefpoconpeggpaaGreatDoor.Rd
open Go Go.RowKit
set_option linter.unusedVariables false
set_option linter.unusedSimpArgs false
set_option maxRecDepth 100000

/-- The cells of a number of k digits. -/
def uw (k n : Nat) : Array Value := (Array.range k).map fun i => .int .u32 (dg n i : Nat)
@[simp] theorem uw_size (k n : Nat) : (uw k n).size = k := by simp [uw]
theorem uw_get (k n i : Nat) (h : i < k) : (uw k n)[i]? = some (.int .u32 (dg n i : Nat)) := by simp [uw, h]

theorem dg_add_at (n d k i : Nat) (hn : n < C ^ k) (hd : d < C) : dg (n + d * C ^ k) i = if i = k then d else dg n i := by
  unfold dg
  rcases Nat.lt_trichotomy i k with h | h | h
  · rw [if_neg (by omega)]
    have e : C ^ k = C ^ i * (C * C ^ (k - i - 1)) := by
      rw [← Nat.pow_succ', ← Nat.pow_add]; congr 1; omega
    rw [e, show n + d * (C ^ i * (C * C ^ (k - i - 1))) = n + C ^ i * (C * (d * C ^ (k - i - 1))) by
      rw [Nat.mul_left_comm, Nat.mul_left_comm d], Nat.add_mul_div_left _ _ (Cp_pos i), Nat.add_mul_mod_self_left]
  · subst h
    rw [if_pos rfl, Nat.add_mul_div_right _ _ (Cp_pos i), Nat.div_eq_of_lt hn, Nat.zero_add, Nat.mod_eq_of_lt hd]
  · rw [if_neg (by omega)]
    have h1 : n + d * C ^ k < C ^ (k + 1) := by
      rw [Nat.pow_succ, Nat.mul_comm (C ^ k)]
      calc n + d * C ^ k < C ^ k + d * C ^ k := by omega
        _ = (d + 1) * C ^ k := by rw [Nat.add_mul, Nat.one_mul, Nat.add_comm]
        _ ≤ C * C ^ k := Nat.mul_le_mul_right _ hd
    have h2 : C ^ (k + 1) ≤ C ^ i := Nat.pow_le_pow_right C_pos h
    have h3 : C ^ k ≤ C ^ i := Nat.pow_le_pow_right C_pos (by omega)
    rw [Nat.div_eq_of_lt (by omega), Nat.div_eq_of_lt (by omega)]

theorem dg_part (n o len i : Nat) (h : i < len) : dg (n / C ^ o % C ^ len) i = dg n (o + i) := by
  unfold dg
  have e : C ^ len = C ^ i * C ^ (len - i) := by rw [← Nat.pow_add]; congr 1; omega
  rw [e, Nat.mod_mul_right_div_self, Nat.div_div_eq_div_mul, ← Nat.pow_add, Nat.mod_mod_of_dvd]
  exact ⟨C ^ (len - i - 1), by rw [← Nat.pow_succ']; congr 1; omega⟩

/-- A number with another digit at a place. -/
def setC (m j d : Nat) : Nat := m % C ^ j + d * C ^ j + m / C ^ (j + 1) * C ^ (j + 1)

theorem setC_eq (m j d : Nat) : setC m j d + dg m j * C ^ j = m + d * C ^ j := by
  have h1 := Nat.div_add_mod m (C ^ (j + 1))
  have h2 := dg_split m j
  unfold setC
  rw [Nat.mul_comm] at h1
  omega

theorem dg_setC (m j d i : Nat) (hd : d < C) : dg (setC m j d) i = if i = j then d else dg m i := by
  have hlo : m % C ^ j < C ^ j := Nat.mod_lt _ (Cp_pos j)
  have hlow : m % C ^ j + d * C ^ j < C ^ (j + 1) := by
    rw [Nat.pow_succ, Nat.mul_comm (C ^ j)]
    have : (d + 1) * C ^ j ≤ C * C ^ j := Nat.mul_le_mul_right _ hd
    rw [Nat.add_mul, Nat.one_mul] at this
    omega
  unfold setC
  rcases Nat.lt_or_ge j i with h | h
  · rw [if_neg (by omega)]
    unfold dg
    have e : C ^ i = C ^ (j + 1) * C ^ (i - (j + 1)) := by rw [← Nat.pow_add]; congr 1; omega
    rw [e, ← Nat.div_div_eq_div_mul, ← Nat.div_div_eq_div_mul, Nat.add_mul_div_right _ _ (Cp_pos (j + 1)), Nat.div_eq_of_lt hlow, Nat.zero_add]
  · have e : m / C ^ (j + 1) * C ^ (j + 1) = C ^ i * (C * (m / C ^ (j + 1) * C ^ (j - i))) := by
      have : C ^ (j + 1) = C ^ i * (C * C ^ (j - i)) := by rw [← Nat.pow_succ', ← Nat.pow_add]; congr 1; omega
      rw [Nat.mul_comm (m / C ^ (j + 1)) (C ^ (j - i)), ← Nat.mul_assoc C, ← Nat.mul_assoc (C ^ i), ← this, Nat.mul_comm]
    have h2 : dg (m % C ^ j + d * C ^ j + m / C ^ (j + 1) * C ^ (j + 1)) i = dg (m % C ^ j + d * C ^ j) i := by
      unfold dg
      rw [e, Nat.add_mul_div_left _ _ (Cp_pos i), Nat.add_mul_mod_self_left]
    rw [h2, dg_add_at _ _ _ _ hlo hd]
    by_cases hij : i = j
    · rw [if_pos hij, if_pos hij]
    · rw [if_neg hij, if_neg hij]
      have := dg_part m 0 j i (by omega)
      simpa using this

theorem uw_setC (k m j d : Nat) (hd : d < C) : (uw k m).setIfInBounds j (.int .u32 (d : Nat)) = uw k (setC m j d) := by
  apply Array.ext_getElem?
  intro i
  rw [Array.getElem?_setIfInBounds]
  by_cases hk : i < k
  · rw [uw_get k _ i hk, uw_get k _ i hk, dg_setC m j d i hd, uw_size]
    by_cases h : j = i
    · subst h; simp [hk]
    · rw [if_neg h, if_neg (by omega)]
  · have e1 : (uw k m)[i]? = none := Array.getElem?_eq_none (by simp; omega)
    have e2 : (uw k (setC m j d))[i]? = none := Array.getElem?_eq_none (by simp; omega)
    rw [e1, e2, uw_size]
    split
    · rename_i h; subst h; rw [if_neg hk]
    · rfl

theorem setC_lt (m j d k : Nat) (hm : m < C ^ k) (hd : d < C) (hj : j < k) : setC m j d < C ^ k := by
  have h : setC m j d % C ^ k = setC m j d := by
    have : setC m j d / C ^ k = 0 := by
      have e : C ^ k = C ^ (j + 1) * C ^ (k - (j + 1)) := by rw [← Nat.pow_add]; congr 1; omega
      have hlow : m % C ^ j + d * C ^ j < C ^ (j + 1) := by
        have hlo : m % C ^ j < C ^ j := Nat.mod_lt _ (Cp_pos j)
        rw [Nat.pow_succ, Nat.mul_comm (C ^ j)]
        have : (d + 1) * C ^ j ≤ C * C ^ j := Nat.mul_le_mul_right _ hd
        rw [Nat.add_mul, Nat.one_mul] at this
        omega
      unfold setC
      rw [e, ← Nat.div_div_eq_div_mul, Nat.add_mul_div_right _ _ (Cp_pos (j + 1)), Nat.div_eq_of_lt hlow, Nat.zero_add, Nat.div_div_eq_div_mul, ← e]
      exact Nat.div_eq_of_lt hm
    rw [Nat.mod_eq_of_lt]
    exact (Nat.div_eq_zero_iff_lt (Cp_pos k)).1 this
  rw [← h]
  exact Nat.mod_lt _ (Cp_pos k)

section
variable {P : Program} {ops : Array Oper} {rest : List Oper} {Q : Exit → Act → World → Prop} {a : Act} {w w0 : World} {S : List Nat} {L : List (Nat × Obj)}
theorem run_opLoadOld {o : Oper} {T : TypeId} {x : Operand} {b i : Nat} {cs : Array Value} {E : TypeId} {fr : Nat × Nat} {v : Value} (hk : Keeps [] w0 w) (hT : CellT P T) (ho : o.op = .load T x) (hx : a.eval x = .pointer (some ⟨b, i, none⟩))
    (hb : w0.heap[b]? = some (.cells cs E fr)) (hv : cs[i]? = some v) : (execOp a.eval o).run P w = .ok (.value v) w := by
  have hb' : w.heap[b]? = some (.cells cs E fr) := by rw [hk.block b (lt_of_some hb) (by simp)]; exact hb
  unfold execOp
  simp only [ho, hx, Sem.run_bind, run_loadCell hT hb' hv, Sem.run_pure, Result.andThen_ok]
/-- make, of elements of one cell. -/
theorem wl_make {o : Oper} {T e : TypeId} {x y : Operand} {z : Value} {n bytes : Nat} {cs : Array Value} (hst : St w0 S L w) (hT : SliceT P T e) (he : ElemT P e 1 z) (hby : BytesT P e bytes) (hg : o.guard = none) (ho : o.op = .makeSlice T x y)
    (hx : a.eval x = .int .i64 (n : Int)) (hy : a.eval y = .int .i64 (n : Int)) (hcs : madeCells z.cells n = cs) (hroom : bytes * n ≤ 281474976710656) (hn : n ≤ 9223372036854775807)
    (h : ∀ b w', w0.heap.size ≤ b → St w0 S ((b, .cells cs e) :: L) w' → wpList P ops Q rest (a.put o.dst (.slice (some ⟨b, 0, none⟩) n n)) w') : wpList P ops Q (o :: rest) a w := by
  obtain ⟨i, hi, hisz, hz⟩ := he
  have hby' : i.bytes = bytes := by simpa [BytesT, hi] using hby
  have hr := run_make (P := P) w T e i z hT hi hz .i64 .i64 n n (by omega) (by omega) (by rw [hby']; have : ((bytes * n : Nat) : Int) ≤ 281474976710656 := by omega
                                                                                          rwa [Int.natCast_mul] at this) (by omega)
  simp only [Int.toNat_natCast, hisz, Nat.mul_one, hcs] at hr
  refine wpList_plain hg fun K hK => ?_
  unfold Oper.wp execOp
  simp only [ho, hx, hy, Sem.run_bind, hr, Sem.run_pure, Result.andThen_ok]
  exact hK _ _ (h _ _ hst.keeps.size (hst.alloc _))
end

theorem made_u32 (n : Nat) : madeCells #[.int .u32 0] n = uw n 0 := by
  unfold madeCells uw
  apply Array.ext
  · simp
  · intro i h1 h2
    simp [dg, Nat.mod_one]

/-- A slice of a block of digits. -/
theorem big_of_uw {w0 : World} {L : List (Nat × Obj)} {g l n : Nat} {E : TypeId} (hn : n < C ^ l) (hl : l ≤ 1000000) (hg : w0.heap.size ≤ g) (hm : (g, .cells (uw l n) E (0, 0)) ∈ L) :
    (∀ S w, St w0 S L w → BigAt w (.slice (some ⟨g, 0, none⟩) l l) l n) ∧ BigIn w0.heap.size [(g, .cells (uw l n) E (0, 0))] (.slice (some ⟨g, 0, none⟩) (dl n) l) n := by
  have hd : dl n ≤ l := dl_le.2 hn
  exact ⟨fun S w hst => ⟨hn, hl, _, l, rfl, Nat.le_refl _, fun _ => ⟨g, _, E, rfl, hst.own _ _ hm, fun j hj => uw_get l n j hj⟩⟩, by simpa using hg, by simp, by omega, _, l, rfl, hd, fun _ => ⟨g, _, E, rfl, by simp, fun j hj => uw_get l n j (by omega)⟩⟩

/-- A step of a product's carry. -/
theorem mul_step (m j c x y : Nat) (hc : c < C) (hx : x < C) (hy : y < C) :
    c + dg m j + x * y < C * C ∧ (c + dg m j + x * y) / C < C ∧ setC m j ((c + dg m j + x * y) % C) + (c + dg m j + x * y) / C * C ^ (j + 1) = m + c * C ^ j + x * y * C ^ j := by
  have hd := dg_lt m j
  have h := setC_eq m j ((c + dg m j + x * y) % C)
  have hlt : c + dg m j + x * y < C * C := by
    have h1 : x * y ≤ (C - 1) * (C - 1) := Nat.mul_le_mul (by omega) (by omega)
    have h2 : (C - 1) * (C - 1) + (C - 1) + (C - 1) < C * C := by decide
    omega
  have e := Nat.div_add_mod (c + dg m j + x * y) C
  refine ⟨hlt, (Nat.div_lt_iff_lt_mul C_pos).2 hlt, ?_⟩
  generalize (c + dg m j + x * y) / C = q at *
  generalize (c + dg m j + x * y) % C = r at *
  have e2 : (C * q + r) * C ^ j = (c + dg m j + x * y) * C ^ j := by rw [e]
  rw [Nat.add_mul, Nat.add_mul, Nat.add_mul] at e2
  have e3 : q * C ^ (j + 1) = C * q * C ^ j := by rw [Nat.pow_succ', ← Nat.mul_assoc, Nat.mul_comm q]
  omega

end Go.Proofs.YtefpoconpeggpaaGreatDoor.Rd
