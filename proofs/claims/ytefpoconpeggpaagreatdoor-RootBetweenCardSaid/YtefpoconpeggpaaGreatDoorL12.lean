/- What prod.whole, Mul and Small answer, as numbers. -/
import Derived.Test.YtefpoconpeggpaaGreatDoorL09
import Derived.Test.YtefpoconpeggpaaGreatDoorL06
import Derived.Defers
import Derived.Laws.Pointers
import Derived.Laws.LoneSync
import Derived.RegionCalls
import Derived.Laws.NewBlocks
import Derived.Test.YtefpoconpeggpaaGreatDoorL05
import Derived.Test.YtefpoconpeggpaaGreatDoorL11
import Derived.Test.YtefpoconpeggpaaGreatDoorL08
namespace Go.Proofs.YtefpoconpeggpaaGreatDoor.Rd
open Go Go.RowKit
set_option linter.unusedVariables false
set_option linter.unusedSimpArgs false
set_option maxRecDepth 100000

theorem wExp_in (f m : Nat) : -100000 ≤ wExp f m ∧ wExp f m ≤ 100000 := by
  have := wField_lt f m
  have := fE_in f
  have := fP_in f
  unfold wExp
  omega
theorem unpack_Unpack (f : Nat) (h1 : 1 ≤ f) (h4 : f ≤ 4) (m : Nat) (hm : m < 2 ^ fB f) (hfin : finB f m = true) (h0 : wSig f m ≠ 0) (w0 : World) (hF : FmtIn w0) :
    GivesAt Tryz.prog 69 #[.int .i64 f, Wd m] (.tuple #[.agg (nbC (wNeg f m) (wExp f m - (fP f - bl (wSig f m) : Nat)) (wSig f m * 2 ^ (fP f - bl (wSig f m)))), .bool true]) w0 := by
  have hst := St.start [] w0
  have hk := Lib.hid (fun w (k : Keeps [] w0 w) => hF.keep k (by simp))
  have h := fun w hw => unpack_made f h1 h4 m hm hfin 102 gf102 _ true (nbC_size _ _ _) (nbC_one _ _ _) w hw (fun w' _ => (unpack_Unpack_1 f (wNeg f m) (wExp f m) (wSig f m) (wExp_in f m).1 (wExp_in f m).2 h0 (wSig_lt f m)).at w')
  have y1 := nbC_size (wNeg f m) (wExp f m - (fP f - bl (wSig f m) : Nat)) (wSig f m * 2 ^ (fP f - bl (wSig f m)))
  have y2 := nbC_one (wNeg f m) (wExp f m - (fP f - bl (wSig f m) : Nat)) (wSig f m * 2 ^ (fP f - bl (wSig f m)))
  clear hF hfin hm h0
  generalize nbC (wNeg f m) (wExp f m - (fP f - bl (wSig f m) : Nat)) (wSig f m * 2 ^ (fP f - bl (wSig f m))) = r at *
  go_enter Tryz.func69, Tryz.ntmps69
  go_wp2_with ((first | (refine kg gf101 hst (fun w hst => h w (hk.out w hst.keeps)) rfl rfl rfl rfl ?_; clear hst; intro w hst) | (refine kb 3 hst rfl rfl ?_; clear hst; intro b3 w hb3 hst) | (refine ka 4 hst tz46 rfl rfl ?_; clear hst; intro b4 w hb4 hst) | (refine kl hst ta24 rfl ?_) | (refine kt hst ta46 rfl rfl ?_; clear hst; intro w hst)); try simp only [pz, pn, sz, sc])
  refine bp_ct rfl rfl (la hst ta46) (by rfl) ⟨?_, hst.keeps⟩
  rfl

section
variable (b5 b6 b7 : Nat) (w0 : World)
theorem grows_1 (r : Nat) (odd : Bool) (hr : r ≤ 3) (hne : b6 ≠ b7) (h7 : w0.heap[b7]? = some (.cells #[.int .i64 r] 3)) (h6 : w0.heap[b6]? = some (.cells #[.bool odd] 4)) :
    GivesAt Tryz.prog 140 #[.pointer (some ⟨b7, 0, none⟩), .pointer (some ⟨b6, 0, none⟩)] (.bool (decide (r = 3) || (decide (r = 2) && odd))) w0 := by
  have hst : St w0 [] [(b6, .cells #[.bool odd] 4), (b7, .cells #[.int .i64 r] 3)] w0 := ((St.start [] w0).add h7 (by simp)).add h6 (by simpa using hne)
  clear h7 h6
  by_cases e3 : r = 3
  · subst e3
    rw [show ((3 : Nat) : Int) = 3 from rfl] at hst
    go_enter Tryz.func140, Tryz.ntmps140
    go_wp2_with ((first | (refine kc hst tc3 rfl ?_)); try simp only [pz, pn, sz, sc])
    refine bp_t rfl rfl (by rfl) ⟨?_, hst.keeps⟩
    rfl
  · by_cases e2 : r = 2
    · subst e2
      rw [show ((2 : Nat) : Int) = 2 from rfl] at hst
      go_enter Tryz.func140, Tryz.ntmps140
      go_wp2_with ((first | (refine wl_guard (by rfl) ?_) | (refine kc hst tc3 rfl ?_) | (refine kc hst tc4 rfl ?_)); try simp only [pz, pn, sz, sc])
      refine bp_t rfl rfl (by rfl) ⟨?_, hst.keeps⟩
      simp
    · have q3 : ((r : Int) == 3) = false := by simp; omega
      have q2 : ((r : Int) == 2) = false := by simp; omega
      have d3 : decide (r = 3) = false := by simpa using e3
      have d2 : decide (r = 2) = false := by simpa using e2
      rw [d3, d2]
      clear e2 e3 d3 d2
      go_enter Tryz.func140, Tryz.ntmps140
      go_wp2_with ((first | (refine wl_guard (by rfl) ?_) | (refine kc hst tc3 rfl ?_)); try simp only [pz, pn, sz, sc])
      refine bp_t rfl rfl (by rfl) ⟨?_, hst.keeps⟩
      rfl

theorem grows_2 (r : Nat) (hr : r ≠ 0) (h7 : w0.heap[b7]? = some (.cells #[.int .i64 r] 3)) : GivesAt Tryz.prog 141 #[.pointer (some ⟨b7, 0, none⟩)] (.bool (decide (2 ≤ r))) w0 := by
  have hst := (St.start [] w0).add h7 (by simp)
  clear h7
  by_cases e1 : r = 1
  · subst e1
    rw [show ((1 : Nat) : Int) = 1 from rfl] at hst
    go_enter Tryz.func141, Tryz.ntmps141
    go_wp2_with ((first | (refine kc hst tc3 rfl ?_)); try simp only [pz, pn, sz, sc])
    refine bp_t rfl rfl (by rfl) ⟨?_, hst.keeps⟩
    rfl
  · have q1 : ((r : Int) == 1) = false := by simp; omega
    have q2 : ((r : Int) != 1) = true := by simp; omega
    have d : decide (2 ≤ r) = true := decide_eq_true (by omega)
    rw [d]
    clear d e1 hr
    go_enter Tryz.func141, Tryz.ntmps141
    go_wp2_with ((first | (refine kc hst tc3 rfl ?_)); try simp only [pz, pn, sz, sc])
    refine bp_t rfl rfl (by rfl) ⟨?_, hst.keeps⟩
    rfl

theorem grows_3 : GivesAt Tryz.prog 142 #[] (.bool false) w0 := by
  have hst := St.start [] w0
  go_enter Tryz.func142, Tryz.ntmps142
  go_wp2_with fail
  refine bp_t rfl rfl (by rfl) ⟨?_, hst.keeps⟩
  rfl

theorem grows_4 (ng : Bool) (h5 : w0.heap[b5]? = some (.cells #[.bool ng] 4)) : GivesAt Tryz.prog 143 #[.pointer (some ⟨b5, 0, none⟩)] (.bool (!ng)) w0 := by
  have hst := (St.start [] w0).add h5 (by simp)
  clear h5
  go_enter Tryz.func143, Tryz.ntmps143
  go_wp2_with ((first | (refine kc hst tc4 rfl ?_)); try simp only [pz, pn, sz, sc])
  refine bp_t rfl rfl (by rfl) ⟨?_, hst.keeps⟩
  rfl

theorem grows_5 (ng : Bool) (h5 : w0.heap[b5]? = some (.cells #[.bool ng] 4)) : GivesAt Tryz.prog 144 #[.pointer (some ⟨b5, 0, none⟩)] (.bool ng) w0 := by
  have hst := (St.start [] w0).add h5 (by simp)
  clear h5
  go_enter Tryz.func144, Tryz.ntmps144
  go_wp2_with ((first | (refine kc hst tc4 rfl ?_)); try simp only [pz, pn, sz, sc])
  refine bp_t rfl rfl (by rfl) ⟨?_, hst.keeps⟩
  rfl
end

/-- The cells of the functions of the modes. -/
def dsC (b5 b6 b7 : Nat) : Array Value := #[.nilFunc, .func (.func 140) #[] #[.pointer (some ⟨b7, 0, none⟩), .pointer (some ⟨b6, 0, none⟩)], .func (.func 141) #[] #[.pointer (some ⟨b7, 0, none⟩)], .func (.func 142) #[] #[], .func (.func 143) #[] #[.pointer (some ⟨b5, 0, none⟩)], .func (.func 144) #[] #[.pointer (some ⟨b5, 0, none⟩)]]
theorem build_does (b5 b6 b7 : Nat) (w : World) : (Instr.build 217 (List.toArray [(1, .func (.func 140) #[] #[.pointer (some ⟨b7, 0, none⟩), .pointer (some ⟨b6, 0, none⟩)]), (2, .func (.func 141) #[] #[.pointer (some ⟨b7, 0, none⟩)]), (3, .func (.func 142) #[] #[]), (4, .func (.func 143) #[] #[.pointer (some ⟨b5, 0, none⟩)]), (5, .func (.func 144) #[] #[.pointer (some ⟨b5, 0, none⟩)])])).run Tryz.prog w = .ok (.agg (dsC b5 b6 b7)) w := by kernel_rfl

set_option maxHeartbeats 4000000 in
theorem mode_Grows (m : Nat) (h1 : 1 ≤ m) (h5 : m ≤ 5) (ng odd : Bool) (r : Nat) (hr : r ≤ 3) : Gives Tryz.prog 118 #[.int .i64 m, .bool ng, .bool odd, .int .i64 r] (.bool (growsB m ng odd r)) := by
  intro w0
  have hst := St.start [] w0
  have his := mode_Is_yes m (by omega) (by omega)
  by_cases h0 : r = 0
  · subst h0
    rw [show growsB m ng odd 0 = false from if_pos rfl, show ((0 : Nat) : Int) = 0 from rfl]
    clear h1 h5
    go_enter Tryz.func118, Tryz.ntmps118
    go_wp2_with ((first | (refine kf gf62 hst (his) rfl rfl rfl rfl ?_; clear hst; intro w hst) | (refine wl_guard (by rfl) ?_) | (refine kb 5 hst rfl rfl ?_; clear hst; intro b5 w hb5 hst) | (refine kb 6 hst rfl rfl ?_; clear hst; intro b6 w hb6 hst) | (refine kb 7 hst rfl rfl ?_; clear hst; intro b7 w hb7 hst) | (refine kc hst tc3 rfl ?_)); try simp only [pz, pn, sz, sc])
    refine bp_t rfl rfl (by rfl) ⟨?_, hst.keeps⟩
    rfl
  · have r1 : ¬ (r : Int) < 1 := by omega
    have r3 : ¬ (3 : Int) < (r : Int) := by omega
    have hb := build_does
    have k1 := fun b6 b7 (hne : b6 ≠ b7) w q7 q6 => grows_1 b6 b7 w r odd hr hne q7 q6
    have k2 := fun b7 w q7 => grows_2 b7 w r h0 q7
    have k3 := fun w => grows_3 w
    have k4 := fun b5 w q5 => grows_4 b5 w ng q5
    have k5 := fun b5 w q5 => grows_5 b5 w ng q5
    have e : growsB m ng odd r = if m = 1 then decide (r = 3) || (decide (r = 2) && odd) else if m = 2 then decide (2 ≤ r) else if m = 4 then !ng else if m = 5 then ng else false := by unfold growsB; rw [if_neg h0]
    rw [e]
    clear e h0 hr
    generalize (decide (r = 3) || (decide (r = 2) && odd)) = x1 at *
    generalize decide (2 ≤ r) = x2 at *
    have f1 := gf140
    have f2 := gf141
    have f3 := gf142
    have f4 := gf143
    have f5 := gf144
    unfold dsC at hb
    obtain rfl | rfl | rfl | rfl | rfl : m = 1 ∨ m = 2 ∨ m = 3 ∨ m = 4 ∨ m = 5 := by omega
    · rw [if_pos rfl, show ((1 : Nat) : Int) = 1 from rfl] at *
      go_enter Tryz.func118, Tryz.ntmps118
      go_wp2_with ((first | (refine kf gf62 hst (his) rfl rfl rfl rfl ?_; clear hst; intro w hst) | (refine kB (hb _ _ _) rfl ?_) | (refine kg f1 hst (fun w hst => k1 b6 b7 (by have q := hst.nodup; simp only [List.map_cons, List.map_nil, List.nodup_cons, List.mem_cons, List.not_mem_nil, or_false, not_or] at q; omega) w (hst.own _ _ (by repeat (first | exact List.Mem.head _ | refine List.Mem.tail _ ?_))) (hst.own _ _ (by repeat (first | exact List.Mem.head _ | refine List.Mem.tail _ ?_)))) rfl rfl rfl rfl ?_; clear hst; intro w hst) | (refine wl_guard (by rfl) ?_) | (refine kb 5 hst rfl rfl ?_; clear hst; intro b5 w hb5 hst) | (refine kb 6 hst rfl rfl ?_; clear hst; intro b6 w hb6 hst) | (refine kb 7 hst rfl rfl ?_; clear hst; intro b7 w hb7 hst) | (refine kc hst tc3 rfl ?_) | (refine ka 9 hst tz217 rfl rfl ?_; clear hst; intro b9 w hb9 hst) | (refine kt hst ta217 rfl rfl ?_; clear hst; intro w hst) | (refine kc hst tc32 rfl ?_)); try simp only [pz, pn, sz, sc])
      refine bp_t rfl rfl (by rfl) ⟨?_, hst.keeps⟩
      rfl
    · rw [if_neg (by decide), if_pos rfl, show ((2 : Nat) : Int) = 2 from rfl] at *
      go_enter Tryz.func118, Tryz.ntmps118
      go_wp2_with ((first | (refine kf gf62 hst (his) rfl rfl rfl rfl ?_; clear hst; intro w hst) | (refine kB (hb _ _ _) rfl ?_) | (refine kg f2 hst (fun w hst => k2 b7 w (hst.own _ _ (by repeat (first | exact List.Mem.head _ | refine List.Mem.tail _ ?_)))) rfl rfl rfl rfl ?_; clear hst; intro w hst) | (refine wl_guard (by rfl) ?_) | (refine kb 5 hst rfl rfl ?_; clear hst; intro b5 w hb5 hst) | (refine kb 6 hst rfl rfl ?_; clear hst; intro b6 w hb6 hst) | (refine kb 7 hst rfl rfl ?_; clear hst; intro b7 w hb7 hst) | (refine kc hst tc3 rfl ?_) | (refine ka 9 hst tz217 rfl rfl ?_; clear hst; intro b9 w hb9 hst) | (refine kt hst ta217 rfl rfl ?_; clear hst; intro w hst) | (refine kc hst tc32 rfl ?_)); try simp only [pz, pn, sz, sc])
      refine bp_t rfl rfl (by rfl) ⟨?_, hst.keeps⟩
      rfl
    · rw [if_neg (by decide), if_neg (by decide), if_neg (by decide), if_neg (by decide), show ((3 : Nat) : Int) = 3 from rfl] at *
      go_enter Tryz.func118, Tryz.ntmps118
      go_wp2_with ((first | (refine kf gf62 hst (his) rfl rfl rfl rfl ?_; clear hst; intro w hst) | (refine kB (hb _ _ _) rfl ?_) | (refine kg f3 hst (fun w hst => k3 w) rfl rfl rfl rfl ?_; clear hst; intro w hst) | (refine wl_guard (by rfl) ?_) | (refine kb 5 hst rfl rfl ?_; clear hst; intro b5 w hb5 hst) | (refine kb 6 hst rfl rfl ?_; clear hst; intro b6 w hb6 hst) | (refine kb 7 hst rfl rfl ?_; clear hst; intro b7 w hb7 hst) | (refine kc hst tc3 rfl ?_) | (refine ka 9 hst tz217 rfl rfl ?_; clear hst; intro b9 w hb9 hst) | (refine kt hst ta217 rfl rfl ?_; clear hst; intro w hst) | (refine kc hst tc32 rfl ?_)); try simp only [pz, pn, sz, sc])
      refine bp_t rfl rfl (by rfl) ⟨?_, hst.keeps⟩
      rfl
    · rw [if_neg (by decide), if_neg (by decide), if_pos rfl, show ((4 : Nat) : Int) = 4 from rfl] at *
      go_enter Tryz.func118, Tryz.ntmps118
      go_wp2_with ((first | (refine kf gf62 hst (his) rfl rfl rfl rfl ?_; clear hst; intro w hst) | (refine kB (hb _ _ _) rfl ?_) | (refine kg f4 hst (fun w hst => k4 b5 w (hst.own _ _ (by repeat (first | exact List.Mem.head _ | refine List.Mem.tail _ ?_)))) rfl rfl rfl rfl ?_; clear hst; intro w hst) | (refine wl_guard (by rfl) ?_) | (refine kb 5 hst rfl rfl ?_; clear hst; intro b5 w hb5 hst) | (refine kb 6 hst rfl rfl ?_; clear hst; intro b6 w hb6 hst) | (refine kb 7 hst rfl rfl ?_; clear hst; intro b7 w hb7 hst) | (refine kc hst tc3 rfl ?_) | (refine ka 9 hst tz217 rfl rfl ?_; clear hst; intro b9 w hb9 hst) | (refine kt hst ta217 rfl rfl ?_; clear hst; intro w hst) | (refine kc hst tc32 rfl ?_)); try simp only [pz, pn, sz, sc])
      refine bp_t rfl rfl (by rfl) ⟨?_, hst.keeps⟩
      rfl
    · rw [if_neg (by decide), if_neg (by decide), if_neg (by decide), if_pos rfl, show ((5 : Nat) : Int) = 5 from rfl] at *
      go_enter Tryz.func118, Tryz.ntmps118
      go_wp2_with ((first | (refine kf gf62 hst (his) rfl rfl rfl rfl ?_; clear hst; intro w hst) | (refine kB (hb _ _ _) rfl ?_) | (refine kg f5 hst (fun w hst => k5 b5 w (hst.own _ _ (by repeat (first | exact List.Mem.head _ | refine List.Mem.tail _ ?_)))) rfl rfl rfl rfl ?_; clear hst; intro w hst) | (refine wl_guard (by rfl) ?_) | (refine kb 5 hst rfl rfl ?_; clear hst; intro b5 w hb5 hst) | (refine kb 6 hst rfl rfl ?_; clear hst; intro b6 w hb6 hst) | (refine kb 7 hst rfl rfl ?_; clear hst; intro b7 w hb7 hst) | (refine kc hst tc3 rfl ?_) | (refine ka 9 hst tz217 rfl rfl ?_; clear hst; intro b9 w hb9 hst) | (refine kt hst ta217 rfl rfl ?_; clear hst; intro w hst) | (refine kc hst tc32 rfl ?_)); try simp only [pz, pn, sz, sc])
      refine bp_t rfl rfl (by rfl) ⟨?_, hst.keeps⟩
      rfl

end Go.Proofs.YtefpoconpeggpaaGreatDoor.Rd

namespace Go.Proofs.YtefpoconpeggpaaGreatDoor.Rd
open Go Go.RowKit
set_option linter.unusedVariables false
set_option linter.unusedSimpArgs false
set_option maxRecDepth 100000

theorem on_disable (w : World) : (callFunc 177 #[]).run Tryz.prog w = .ok (.value (.tuple #[])) w := run_call_mark0 Tryz.func177 (by kernel_rfl) (by kernel_rfl) (by kernel_rfl) .disable (by kernel_rfl) w
theorem on_enable (w : World) : (callFunc 179 #[]).run Tryz.prog w = .ok (.value (.tuple #[])) w := run_call_mark0 Tryz.func179 (by kernel_rfl) (by kernel_rfl) (by kernel_rfl) .enable (by kernel_rfl) w
theorem on_acquire (a : Addr) (w : World) : (callFunc 180 #[.pointer (some a)]).run Tryz.prog w = .ok (.value (.tuple #[])) w := run_call_marked Tryz.func180 (by kernel_rfl) (by kernel_rfl) (by kernel_rfl) .acquire (by kernel_rfl) a w
theorem on_release (a : Addr) (w : World) : (callFunc 182 #[.pointer (some a)]).run Tryz.prog w = .ok (.value (.tuple #[])) w := run_call_marked Tryz.func182 (by kernel_rfl) (by kernel_rfl) (by kernel_rfl) .releaseMerge (by kernel_rfl) a w

theorem on_store (a : Addr) (x : Value) (u : FrameMode) (w : World) (hc : w.cell? a = some x) (hz : w.frozen? a = false) :
    CallsD Tryz.prog 165 #[.pointer (some a), .bool true] u w fun e u' w' => u' = u ∧ (e = .returned (.tuple #[]) ∧ w' = w.drew.setCell a (.int .u32 1)) := by
  have hc' : w.drew.cell? a = some x := by go_simp
  have hz' : w.drew.frozen? a = false := by go_simp
  have hst := run_call_store (P := Tryz.prog) Tryz.func174 (by kernel_rfl) (by kernel_rfl) (by kernel_rfl) (by kernel_rfl) (k := .u32) (y := 1) hc' hz'
  go_enter_d Tryz.func165, Tryz.ntmps165
  go_wp2
  go_region_calls
  all_goals (go_end0; exact ⟨rfl, rfl⟩)

theorem on_unlock (a : Addr) (u : FrameMode) (w : World) (hc : w.cell? a = some (.int .i32 1)) (hz : w.frozen? a = false) :
    CallsD Tryz.prog 164 #[.pointer (some a)] u w fun e u' w' => u' = u ∧ (e = .returned (.tuple #[]) ∧ w' = w.setCell a (.int .i32 0)) := by
  have hd := on_disable
  have he := on_enable
  have hr := on_release
  have hadd := run_call_add (P := Tryz.prog) Tryz.func183 (by kernel_rfl) (by kernel_rfl) (by kernel_rfl) .i32 (by kernel_rfl) (y := -1) (s := 0) hc hz (by simp [go_sem]; rfl)
  have hcv := run_convert_to_unsafe (P := Tryz.prog) (src := 243) (dst := 247) Tryz.underlying243 Tryz.underlying247 (by kernel_rfl) hc
  go_enter_d Tryz.func164, Tryz.ntmps164
  go_wp2
  go_end0
  go_wp2
  go_end0
  exact ⟨rfl, rfl⟩

theorem on_lock (a : Addr) (w : World) (hc : w.cell? a = some (.int .i32 0)) (hz : w.frozen? a = false) :
    Calls Tryz.prog 163 #[.pointer (some a)] w fun e w' => e = .returned (.tuple #[]) ∧ w' = w.setCell a (.int .i32 1) := by
  have hd := on_disable
  have he := on_enable
  have ha := on_acquire
  have hcas := run_call_cas_hit (P := Tryz.prog) Tryz.func178 (by kernel_rfl) (by kernel_rfl) (by kernel_rfl) .i32 (by kernel_rfl) (y := 1) hc hz
  have hc' : (w.setCell a (.int .i32 1)).cell? a = some (.int .i32 1) := World.cell?_setCell_same w a _ hc
  have hcv := run_convert_to_unsafe (P := Tryz.prog) (src := 243) (dst := 247) Tryz.underlying243 Tryz.underlying247 (by kernel_rfl) hc'
  go_enter Tryz.func163, Tryz.ntmps163
  go_wp2
  first | go_end0 | (simp only [Exit.inBlock, Exit.then]; refine bodyPost_ret (results_none rfl _ _ _) rfl ?_) | refine bodyPost_ret (results_none rfl _ _ _) rfl ?_
  go_wp2
  go_end0
  exact ⟨rfl, rfl⟩

set_option maxHeartbeats 1600000 in
theorem on_slow (f : FuncId) (hf : GoF Tryz.prog f) (cap : Array Value) (b off : Nat) (R : World → Prop) (w : World)
    (h0 : w.cell? ⟨b, off, none⟩ = some (.int .u32 0)) (h1 : w.cell? ⟨b, off + 1, none⟩ = some (.int .i32 0)) (f0 : w.frozen? ⟨b, off, none⟩ = false) (f1 : w.frozen? ⟨b, off + 1, none⟩ = false)
    (hc : Calls Tryz.prog f cap (w.setCell ⟨b, off + 1, none⟩ (.int .i32 1)) fun e w2 => e = .returned (.tuple #[]) ∧ (∃ x, w2.cell? ⟨b, off, none⟩ = some x) ∧ w2.frozen? ⟨b, off, none⟩ = false ∧ w2.cell? ⟨b, off + 1, none⟩ = some (.int .i32 1) ∧ w2.frozen? ⟨b, off + 1, none⟩ = false ∧ R w2) :
    Calls Tryz.prog 138 #[.pointer (some ⟨b, off, none⟩), .func (.func f) #[] cap] w fun e w' => e = .returned (.tuple #[]) ∧ ∃ w2, R w2 ∧ w' = (w2.drew.setCell ⟨b, off, none⟩ (.int .u32 1)).setCell ⟨b, off + 1, none⟩ (.int .i32 0) := by
  have hl := run_call_load (P := Tryz.prog) Tryz.func162 (by kernel_rfl) (by kernel_rfl) (by kernel_rfl) .u32 (by kernel_rfl) (w := w.setCell ⟨b, off + 1, none⟩ (.int .i32 1)) (a := ⟨b, off, none⟩) (x := 0) ((World.cell?_setCell_other _ ⟨b, off + 1, none⟩ ⟨b, off, none⟩ _ (by simp)).trans h0)
  have hnot : ∀ (x : Bool) (w : World), (Op.unary .not (.bool x)).run Tryz.prog w = .ok (.bool (!x)) w := fun _ _ => rfl
  go_enter_defers Tryz.func138, Tryz.ntmps138
  go_wp2_with (go_at_call 163; refine (on_lock ⟨b, off + 1, none⟩ _ (by go_simp) (by go_simp)).mono ?_; rintro e w' ⟨rfl, rfl⟩)
  go_wp2
  rw [run_callFunc_go hf, Oper.upon_enter]
  refine hc.mono ?_
  rintro e w2 ⟨rfl, ⟨x, hx⟩, z0, c1, z1, hR⟩
  go_wp2
  -- the door: two deferred calls, the last laid first
  refine leaves_cons (f := 165) (args := #[.pointer (some ⟨b, off, none⟩), .bool true]) (by simp) (by simp [go_sem]) ?_
  refine (on_store ⟨b, off, none⟩ x .returning _ hx z0).mono ?_
  rintro e u' w'' ⟨rfl, rfl, rfl⟩
  refine leaves_cons (f := 164) (args := #[.pointer (some ⟨b, off + 1, none⟩)]) (by simp [settle]) (by simp [go_sem]) ?_
  refine (on_unlock ⟨b, off + 1, none⟩ _ _ ?_ (by simp [z1])).mono ?_
  · refine (World.cell?_setCell_other _ ⟨b, off, none⟩ ⟨b, off + 1, none⟩ _ (by simp)).trans ?_
    rw [World.cell?_drew]; exact c1
  rintro e u' w'' ⟨rfl, rfl, rfl⟩
  simp [Leaves, settle, results, Tryz.results138]
  exact ⟨w2, hR, rfl⟩

/-- Do, not yet done, the lock free. -/
theorem on_do (f : FuncId) (hf : GoF Tryz.prog f) (cap : Array Value) (b off : Nat) (R : World → Prop) (w : World)
    (h0 : w.cell? ⟨b, off, none⟩ = some (.int .u32 0)) (h1 : w.cell? ⟨b, off + 1, none⟩ = some (.int .i32 0)) (f0 : w.frozen? ⟨b, off, none⟩ = false) (f1 : w.frozen? ⟨b, off + 1, none⟩ = false)
    (hc : Calls Tryz.prog f cap (w.setCell ⟨b, off + 1, none⟩ (.int .i32 1)) fun e w2 => e = .returned (.tuple #[]) ∧ (∃ x, w2.cell? ⟨b, off, none⟩ = some x) ∧ w2.frozen? ⟨b, off, none⟩ = false ∧ w2.cell? ⟨b, off + 1, none⟩ = some (.int .i32 1) ∧ w2.frozen? ⟨b, off + 1, none⟩ = false ∧ R w2) :
    Calls Tryz.prog 110 #[.pointer (some ⟨b, off, none⟩), .func (.func f) #[] cap] w fun e w' => e = .returned (.tuple #[]) ∧ ∃ w2, R w2 ∧ w' = (w2.drew.setCell ⟨b, off, none⟩ (.int .u32 1)).setCell ⟨b, off + 1, none⟩ (.int .i32 0) := by
  have hl := run_call_load (P := Tryz.prog) Tryz.func162 (by kernel_rfl) (by kernel_rfl) (by kernel_rfl) .u32 (by kernel_rfl) h0
  have hnot : ∀ (x : Bool) (w : World), (Op.unary .not (.bool x)).run Tryz.prog w = .ok (.bool (!x)) w := fun _ _ => rfl
  go_enter Tryz.func110, Tryz.ntmps110
  go_wp2_with (first | (go_at_call 138; refine (on_slow f hf cap b off R _ h0 h1 f0 f1 hc).mono ?_; rintro e w' ⟨rfl, w2, hR, rfl⟩) | (go_at_call 137; go_in))
  go_end0
  exact ⟨rfl, w2, hR, rfl⟩

/-- Do, done already. -/
theorem on_done (a : Addr) (d : Int) (hd : ¬ d = 0) (fv : Value) (w : World) (h0 : w.cell? a = some (.int .u32 d)) :
    Calls Tryz.prog 110 #[.pointer (some a), fv] w fun e w' => e = .returned (.tuple #[]) ∧ w' = w := by
  have hl := run_call_load (P := Tryz.prog) Tryz.func162 (by kernel_rfl) (by kernel_rfl) (by kernel_rfl) .u32 (by kernel_rfl) h0
  have hnot : ∀ (x : Bool) (w : World), (Op.unary .not (.bool x)).run Tryz.prog w = .ok (.bool (!x)) w := fun _ _ => rfl
  have hd' : (d != 0) = true := by simp [hd]
  go_enter Tryz.func110, Tryz.ntmps110
  go_wp2
  go_end0
  exact ⟨rfl, rfl⟩

end Go.Proofs.YtefpoconpeggpaaGreatDoor.Rd

namespace Go.Proofs.YtefpoconpeggpaaGreatDoor.Rd
open Go Go.RowKit
set_option linter.unusedVariables false
set_option linter.unusedSimpArgs false
set_option maxRecDepth 100000

/-- New blocks: all from s on, each once. -/
def NewIn (s : Nat) (Lg : List (Nat × Obj)) : Prop := (∀ x ∈ Lg, s ≤ x.1) ∧ (Lg.map Prod.fst).Nodup
/-- What a call brings: a value and new blocks, as R says. -/
def PostN (R : List (Nat × Obj) → Value → Prop) (w0 : World) (e : Ending) (w' : World) : Prop := ∃ v Lg, e = .returned v ∧ Keeps [] w0 w' ∧ NewIn w0.heap.size Lg ∧ R Lg v ∧ ∀ b o, (b, o) ∈ Lg → w'.heap[b]? = some o
def GivesN (P : Program) (f : FuncId) (args : Array Value) (R : List (Nat × Obj) → Value → Prop) (w0 : World) : Prop := Calls P f args w0 (PostN R w0)
theorem PostN.of {R : List (Nat × Obj) → Value → Prop} {w0 w : World} {v : Value} {Lg L : List (Nat × Obj)} (hst : St w0 [] L w) (hn : NewIn w0.heap.size Lg) (hR : R Lg v) (hs : ∀ x ∈ Lg, x ∈ L) : PostN R w0 (.returned v) w := ⟨v, Lg, rfl, hst.keeps, hn, hR, fun b o h => hst.own b o (hs _ h)⟩

/-- In L the blocks of Ls hold what it says; with Ls' there it is L'. -/
inductive Swap : List (Nat × Obj) → List (Nat × Obj) → List (Nat × Obj) → List (Nat × Obj) → Prop
  | nil (L) : Swap [] [] L L
  | cons {b : Nat} {o o' : Obj} {Ls Ls' L L1 L'} : At b o o' L L1 → Swap Ls Ls' L1 L' → Swap ((b, o) :: Ls) ((b, o') :: Ls') L L'
theorem Swap.keys {Ls Ls' L L' : List (Nat × Obj)} (h : Swap Ls Ls' L L') : L'.map Prod.fst = L.map Prod.fst := by
  induction h with
  | nil => rfl
  | cons ha _ ih => rw [ih, ha.keys]
theorem Swap.mem {Ls Ls' L L' : List (Nat × Obj)} (h : Swap Ls Ls' L L') (hn : (L.map Prod.fst).Nodup) : ∀ b x, (b, x) ∈ L' → (b, x) ∈ Ls' ∨ (b ∉ Ls.map Prod.fst ∧ (b, x) ∈ L) := by
  induction h with
  | nil => intro b x hm; exact .inr ⟨by simp, hm⟩
  | cons ha hs ih =>
    intro b x hm
    rcases ih (by rw [ha.keys]; exact hn) b x hm with h' | ⟨h1, h2⟩
    · exact .inl (List.mem_cons_of_mem _ h')
    · rcases ha.mem' hn b x h2 with ⟨rfl, rfl⟩ | ⟨h3, h4⟩
      · exact .inl (List.mem_cons_self ..)
      · exact .inr ⟨by simp only [List.map_cons, List.mem_cons, not_or]; exact ⟨h3, h1⟩, h4⟩
theorem Swap.own {Ls Ls' L L' : List (Nat × Obj)} (h : Swap Ls Ls' L L') (hn : (Ls.map Prod.fst).Nodup) : ∀ x ∈ Ls, x ∈ L := by
  induction h with
  | nil => intro x hm; cases hm
  | @cons b o o' Ls Ls' L L1 L' ha hs ih =>
    simp only [List.map_cons, List.nodup_cons] at hn
    intro x hm
    rcases List.mem_cons.1 hm with rfl | hm
    · exact ha.mem
    · have h1 := ih hn.2 x hm
      have hne : x.1 ≠ b := fun e => hn.1 (e ▸ List.mem_map_of_mem (f := Prod.fst) hm)
      clear ih hs hm
      induction ha with
      | head L =>
        rcases List.mem_cons.1 h1 with rfl | h
        · exact absurd rfl hne
        · exact List.mem_cons_of_mem _ h
      | tail y L L' _ ih =>
        rcases List.mem_cons.1 h1 with rfl | h
        · exact List.mem_cons_self ..
        · exact List.mem_cons_of_mem _ (ih h)
theorem St.puts {w0 w w' : World} {S : List Nat} {Ls Ls' L L' : List (Nat × Obj)} (h : St w0 S L w) (hs : Swap Ls Ls' L L') (hb : ∀ x ∈ Ls, w0.heap.size ≤ x.1 ∨ x.1 ∈ S)
    (k : Keeps (Ls.map Prod.fst) w w') (hnew : ∀ b o, (b, o) ∈ Ls' → w'.heap[b]? = some o) : St w0 S L' w' :=
  ⟨h.keeps.trans k (fun x hx hlt => by
      obtain ⟨y, hy, rfl⟩ := List.mem_map.1 hx
      rcases hb y hy with h' | h'
      · omega
      · exact h'),
    fun b x hm => by
      rcases hs.mem h.nodup b x hm with h1 | ⟨h1, h2⟩
      · exact hnew _ _ h1
      · have hown := h.own b x h2
        rw [k.block b (lt_of_some hown) h1]
        exact hown,
    by rw [hs.keys]; exact h.nodup⟩

/-- Each of these blocks is new, or one that may turn. -/
inductive Mine (s : Nat) (S : List Nat) : List (Nat × Obj) → Prop
  | nil : Mine s S []
  | cons {b : Nat} {o : Obj} {L : List (Nat × Obj)} : (s ≤ b ∨ b ∈ S) → Mine s S L → Mine s S ((b, o) :: L)
theorem Mine.all {s : Nat} {S : List Nat} {L : List (Nat × Obj)} (h : Mine s S L) : ∀ x ∈ L, s ≤ x.1 ∨ x.1 ∈ S := by
  induction h with
  | nil => intro x hx; cases hx
  | cons h _ ih =>
    intro x hx
    rcases List.mem_cons.1 hx with rfl | hx
    · exact h
    · exact ih x hx

/-- A call that writes the blocks Ls, so that they are Ls' then. -/
def GivesT (P : Program) (f : FuncId) (args : Array Value) (v : Value) (Ls Ls' : List (Nat × Obj)) (w : World) : Prop := Calls P f args w fun e w' => e = .returned v ∧ Keeps (Ls.map Prod.fst) w w' ∧ ∀ b o, (b, o) ∈ Ls' → w'.heap[b]? = some o
theorem GivesT.of {S : List Nat} {w0 w : World} {v : Value} {Ls L' Ls' : List (Nat × Obj)} (hst : St w0 S L' w) (hS : S = Ls.map Prod.fst) (hs : ∀ x ∈ Ls', x ∈ L') : (Ending.returned v = .returned v) ∧ Keeps (Ls.map Prod.fst) w0 w ∧ ∀ b o, (b, o) ∈ Ls' → w.heap[b]? = some o :=
  ⟨rfl, hS ▸ hst.keeps, fun b o h => hst.own b o (hs _ h)⟩

section
variable {P : Program} {ops : Array Oper} {rest : List Oper} {Q : Exit → Act → World → Prop} {a : Act} {w w0 : World} {S : List Nat} {L L' : List (Nat × Obj)}
theorem kN {o : Oper} {c : Call} {x : Operand} {f : FuncId} {cap : Array Value} {args : List Value} {R : List (Nat × Obj) → Value → Prop} (hf : GoF P f) (hst : St w0 S L w) (hc : ∀ w, St w0 S L w → GivesN P f args.toArray R w)
    (ho : o.op = .call c) (hcal : c.callee = .value x) (hx : a.eval x = .func (.func f) #[] cap) (hargs : c.args.toList.map a.eval ++ cap.toList = args)
    (h : ∀ v Lg w', NewIn w0.heap.size Lg → R Lg v → St w0 S (L ++ Lg) w' → wpList P ops Q rest (a.put o.dst v) w') (hg : o.guard = none := by rfl) : wpList P ops Q (o :: rest) a w := by
  refine wpList_plain hg fun K hK => ?_
  unfold Oper.wp
  rw [run_execOp_call ho hcal hx, args_eq hargs, run_callFunc_go hf, Oper.upon_enter]
  refine (hc w hst).mono fun e w'' hh => ?_
  obtain ⟨v, Lg, rfl, hk, hn, hR, hown⟩ := hh
  exact hK _ _ (h v Lg w'' ⟨fun x hx => Nat.le_trans hst.keeps.size (hn.1 x hx), hn.2⟩ hR (hst.more hk hn.1 hn.2 hown))
theorem kT {o : Oper} {c : Call} {x : Operand} {f : FuncId} {cap : Array Value} {args : List Value} {v : Value} {Ls Ls' : List (Nat × Obj)} (hf : GoF P f) (hst : St w0 S L w) (hc : ∀ w, St w0 S L w → GivesT P f args.toArray v Ls Ls' w)
    (ho : o.op = .call c) (hcal : c.callee = .value x) (hx : a.eval x = .func (.func f) #[] cap) (hargs : c.args.toList.map a.eval ++ cap.toList = args)
    (h : ∀ w', St w0 S L' w' → wpList P ops Q rest (a.put o.dst v) w')
    (hsw : Swap Ls Ls' L L' := by repeat (first | exact Swap.nil _ | exact At.head _ | apply At.tail | apply Swap.cons))
    (hb : Mine w0.heap.size S Ls := by repeat (first | exact Mine.nil | refine Mine.cons (by first | exact Or.inl (by assumption) | (refine Or.inr ?_; simp)) ?_)) (hg : o.guard = none := by rfl) : wpList P ops Q (o :: rest) a w := by
  refine wpList_plain hg fun K hK => ?_
  unfold Oper.wp
  rw [run_execOp_call ho hcal hx, args_eq hargs, run_callFunc_go hf, Oper.upon_enter]
  refine (hc w hst).mono fun e w'' hh => ?_
  obtain ⟨rfl, hk, hown⟩ := hh
  exact hK _ _ (h w'' (hst.puts hsw hb.all hk hown))
end

/-- A slice of limbs in a block of its own. -/
def LimbIn (l n : Nat) (Lg : List (Nat × Obj)) (v : Value) : Prop := n < B ^ l ∧ l ≤ 100000 ∧ ∃ b cap k m E, v = .slice (some ⟨b, 0, none⟩) l cap ∧ l ≤ cap ∧ l ≤ k ∧ Lg = [(b, .cells (wc k m) E)] ∧ m % B ^ l = n
theorem LimbIn.at {l n : Nat} {Lg : List (Nat × Obj)} {v : Value} (h : LimbIn l n Lg v) {w0 w : World} {S : List Nat} {L : List (Nat × Obj)} (hst : St w0 S L w) (hs : ∀ x ∈ Lg, x ∈ L) : LimbAt w v l n := by
  obtain ⟨h1, h2, b, cap, k, m, E, rfl, h3, h4, rfl, h5⟩ := h
  exact ⟨h1, h2, b, cap, k, m, E, (0, 0), rfl, h3, h4, hst.own _ _ (hs _ (by simp)), h5⟩

theorem tl_mod (n : Nat) : ∀ k, n < B ^ k → n < B ^ tl n 0 k
  | 0, h => h
  | k + 1, h => by
    unfold tl
    split
    · rename_i h0
      rw [Nat.zero_add] at h0
      apply tl_mod n k
      have := lb_split n k
      rw [h0, Nat.zero_mul, Nat.add_zero, Nat.mod_eq_of_lt h] at this
      rw [this]; exact Nat.mod_lt _ (Bp_pos k)
    · exact h
theorem made_u64 (n : Nat) : madeCells #[.int .u64 0] n = wc n 0 := by
  apply Array.ext_getElem?
  intro i
  by_cases h : i < n
  · rw [wc_get _ _ _ h]
    have : lb 0 i = 0 := by unfold lb; simp
    rw [this]
    simp [madeCells, h, Nat.mod_one]
  · have h1 : (madeCells #[.int .u64 0] n).size = n := by unfold madeCells; simp
    rw [Array.getElem?_eq_none (by omega), Array.getElem?_eq_none (by rw [wc_size]; omega)]

set_option maxHeartbeats 4000000 in
theorem limb_made (g : FuncId) (hg : GoF Tryz.prog g) (cap : Array Value) (f : Nat → Nat) (n : Nat) (hn : n ≤ 2000) (hf : ∀ i, f i < B) (w0 : World)
    (hgf : ∀ i w, i < n → Keeps [] w0 w → GivesAt Tryz.prog g ([Value.int .i64 (i : Nat)] ++ cap.toList).toArray (.int .u64 (f i : Nat)) w) :
    GivesN Tryz.prog 260 #[.int .i64 n, .func (.func g) #[] cap] (LimbIn (tl (lsum f n) 0 n) (lsum f n)) w0 := by
  have hst := St.start [] w0
  have hf' := Lib.hid hf
  clear hf
  have hmade := Lib.hid (made_u64 n)
  go_enter Tryz.func260, Tryz.ntmps260
  go_wp2_with ((first | (refine wl_make (bytes := 8) (o := ⟨some 8, _, _, _, _, _⟩) hst (show SliceT _ 123 22 by unfold SliceT; kernel_rfl) (show ElemT _ 22 1 (.int .u64 0) from ElemT.of (by kernel_rfl)) (show BytesT _ _ _ by unfold BytesT; kernel_rfl) rfl rfl (by rfl) (by rfl) hmade.out (by omega) (by omega) ?_; clear hst; intro b8 w hb8 hst; (try simp only [pz, pn, sz, sc]))); try simp only [pz, pn, sz, sc])
  go_loopw [6, 11] (fun u i wr => ∃ k : Nat, k ≤ n ∧ i = .int .i64 k ∧ St w0 [] [(b8, .cells (wc n (lsum f k)) 22)] wr) (fun _ i _ => n - (intOf i).toNat)
  case atStart => exact ⟨0, by omega, rfl, hst⟩
  case round =>
    clear hst
    obtain ⟨k, hk, rfl, hst⟩ := hrel
    have hl1 := Lib.hid (lsum_lt f hf'.out k)
    by_cases hlt : k < n
    · have hi0 : (0 : Int) ≤ (k : Int) := by omega
      have hi8 : (k : Int) < (n : Int) := by omega
      have hc := fun w h => hgf k w hlt h
      have hfk := Lib.hid (hf'.out k)
      have hset := Lib.hid (wc_set n (lsum f k) (f k) k hl1.out hfk.out)
      go_wp2_with ((first | (refine kg hg hst (fun w hst => hc w hst.keeps) rfl rfl rfl rfl ?_; clear hst; intro w hst) | (refine ks hst tc22 rfl rfl ?_; clear hst; intro w hst; (try rw [hset.out] at hst))); try simp only [pz, pn, sz, sc])
      go_roundw
      case rel => exact ⟨k + 1, by omega, by go_num, hst⟩
      case measure => simp [intOf]; omega
    · have : k = n := by omega
      subst this
      have hi8 : ¬ ((k : Int) < (k : Int)) := by omega
      have htrim := fun w h => limb_trim b8 0 k k k (lsum f k) 22 (0, 0) (by omega) (by omega) (by omega) w h
      clear hgf hmade
      go_wp2_with ((first | (refine kg gf105 hst (fun w hst => htrim w (hst.own _ _ (by repeat (first | exact List.Mem.head _ | refine List.Mem.tail _ ?_)))) rfl rfl rfl rfl ?_; clear hst; intro w hst)); try simp only [pz, pn, sz, sc])
      have hlt := tl_mod _ k hl1.out
      have htl := tl_le (lsum f k) 0 k
      refine bp_t rfl rfl (by rfl) (PostN.of hst (Lg := [(b8, .cells (wc k (lsum f k)) 22)]) ⟨by simpa using hb8, by simp⟩ ⟨hlt, by omega, b8, _, k, lsum f k, _, rfl, by omega, by omega, rfl, Nat.mod_eq_of_lt hlt⟩ (fun x h => h))

end Go.Proofs.YtefpoconpeggpaaGreatDoor.Rd

namespace Go.Proofs.YtefpoconpeggpaaGreatDoor.Rd
open Go Go.RowKit
set_option linter.unusedVariables false
set_option linter.unusedSimpArgs false
set_option maxRecDepth 100000

/-- The limbs' products of one row, as p tells which places count. -/
def inner (p : Nat → Bool) (a b i : Nat) : Nat → Nat
  | 0 => 0
  | k + 1 => inner p a b i k + if p (i + k) = true then lb a i * lb b k * B ^ (i + k) else 0
/-- All rows. -/
def outer (p : Nat → Bool) (a b : Nat) : Nat → Nat
  | 0 => 0
  | i + 1 => outer p a b i + inner p a b i 8

theorem term_le (a b i k : Nat) (hi : i < 8) (hk : k < 8) : lb a i * lb b k * B ^ (i + k) ≤ B ^ 16 := by
  have h1 : lb a i * lb b k ≤ B * B := Nat.mul_le_mul (Nat.le_of_lt (lb_lt _ _)) (Nat.le_of_lt (lb_lt _ _))
  have h2 : B ^ (i + k) ≤ B ^ 14 := Nat.pow_le_pow_right B_pos (by omega)
  have h3 : B ^ 16 = B * B * B ^ 14 := by rw [Nat.pow_succ, Nat.pow_succ, Nat.mul_assoc, Nat.mul_comm]
  rw [h3]
  exact Nat.mul_le_mul h1 h2
theorem inner_le (p : Nat → Bool) (a b i : Nat) (hi : i < 8) : ∀ k, k ≤ 8 → inner p a b i k ≤ k * B ^ 16
  | 0, _ => by simp [inner]
  | k + 1, hk => by
    have h1 := inner_le p a b i hi k (by omega)
    have h2 := term_le a b i k hi (by omega)
    simp only [inner]
    rw [Nat.add_mul, Nat.one_mul]
    split <;> omega
theorem outer_le (p : Nat → Bool) (a b : Nat) : ∀ i, i ≤ 8 → outer p a b i ≤ i * 8 * B ^ 16
  | 0, _ => by simp [outer]
  | i + 1, hi => by
    have h1 := outer_le p a b i (by omega)
    have h2 := inner_le p a b i (by omega) 8 (by omega)
    simp only [outer]
    have : (i + 1) * 8 * B ^ 16 = i * 8 * B ^ 16 + 8 * B ^ 16 := by rw [Nat.add_mul, Nat.add_mul]
    omega

/-- What is gathered so far. -/
def far (p : Nat → Bool) (a b i k : Nat) : Nat := outer p a b i + inner p a b i k
theorem far_lt (p : Nat → Bool) (a b i k : Nat) (hi : i < 8) (hk : k ≤ 8) : far p a b i k ≤ 64 * B ^ 16 := by
  have h1 := outer_le p a b i (by omega)
  have h2 := inner_le p a b i hi k hk
  unfold far
  have h3 : k * B ^ 16 ≤ 8 * B ^ 16 := Nat.mul_le_mul_right _ hk
  have h4 : i * 8 * B ^ 16 ≤ 56 * B ^ 16 := Nat.mul_le_mul_right _ (by omega)
  have h5 : 64 * B ^ 16 = 56 * B ^ 16 + 8 * B ^ 16 := by rw [← Nat.add_mul]
  omega
theorem B17 : B ^ 17 = B * B ^ 16 := by rw [Nat.pow_succ, Nat.mul_comm]
theorem far_lt' (p : Nat → Bool) (a b i k : Nat) (hi : i < 8) (hk : k ≤ 8) : far p a b i k < B ^ 17 := by
  have := far_lt p a b i k hi hk
  have h2 : 65 * B ^ 16 ≤ B * B ^ 16 := Nat.mul_le_mul_right _ (by rw [B_val]; omega)
  have h3 : 0 < B ^ 16 := Bp_pos 16
  rw [B17]; omega

/-- One product is put. -/
theorem far_step (p : Nat → Bool) (a b i k : Nat) (hi : i < 8) (hk : k < 8) (hp : p (i + k) = true) :
    far p a b i k + lb a i * lb b k % B * B ^ (i + k) < B ^ 17 ∧
    far p a b i k + lb a i * lb b k % B * B ^ (i + k) + lb a i * lb b k / B * B ^ (i + k + 1) = far p a b i (k + 1) := by
  have h1 : far p a b i (k + 1) = far p a b i k + lb a i * lb b k * B ^ (i + k) := by simp [far, inner, hp, Nat.add_assoc]
  have h2 : lb a i * lb b k % B * B ^ (i + k) + lb a i * lb b k / B * B ^ (i + k + 1) = lb a i * lb b k * B ^ (i + k) := by
    have e := Nat.div_add_mod (lb a i * lb b k) B
    generalize lb a i * lb b k / B = q at *
    generalize lb a i * lb b k % B = r at *
    rw [← e, Nat.pow_succ', ← Nat.mul_assoc, Nat.mul_comm q B, Nat.add_mul]; omega
  have h3 := far_lt' p a b i (k + 1) hi (by omega)
  omega
theorem far_skip (p : Nat → Bool) (a b i k : Nat) (hp : ¬ p (i + k) = true) : far p a b i (k + 1) = far p a b i k := by simp [far, inner, hp]
theorem far_next (p : Nat → Bool) (a b i : Nat) : far p a b i 8 = far p a b (i + 1) 0 := by simp [far, outer, inner]

set_option maxHeartbeats 8000000 in
theorem prod_whole (a b : Nat) (g : FuncId) (hg : GoF Tryz.prog g) (cap : Array Value) (p : Nat → Bool) (w0 : World)
    (hp : ∀ w, Keeps [] w0 w → ∀ k : Nat, k ≤ 14 → GivesAt Tryz.prog g ([Value.int .i64 k] ++ cap.toList).toArray (.bool (p k)) w) :
    GivesAt Tryz.prog 129 #[W a, W b, .func (.func g) #[] cap] (.agg (wc 17 (outer p a b 8))) w0 := by
  have hst := St.start [] w0
  go_enter Tryz.func129, Tryz.ntmps129
  go_wp2_with ((first | (refine kb 3 hst rfl rfl ?_; clear hst; intro b3 w hb3 hst) | (refine kb 4 hst rfl rfl ?_; clear hst; intro b4 w hb4 hst) | (refine ka 6 hst tz189 rfl rfl ?_; clear hst; intro b6 w hb6 hst) | (refine ka 7 hst tz189 rfl rfl ?_; clear hst; intro b7 w hb7 hst) | (refine kl hst ta44 rfl ?_)); try simp only [pz, pn, sz, sc])
  go_loopw [15] (fun x wr => ∃ i : Nat, i ≤ 8 ∧ x = .int .i64 i ∧
    St w0 [] [(b7, .cells (wc 17 (far p a b i 0)) 189), (b6, .cells (wc 17 0) 189), (b4, .cells (wc 8 b) 44), (b3, .cells (wc 8 a) 44)] wr) (fun x _ => 8 - (intOf x).toNat)
  case atStart => exact ⟨0, by omega, rfl, hst⟩
  case round =>
    clear hst
    obtain ⟨i, hi, rfl, hst⟩ := hrel
    by_cases hlt : i < 8
    · have hi0 : (0 : Int) ≤ (i : Int) := by omega
      have hi8 : (i : Int) < 8 := by omega
      have hget := wc_get 8 a i hlt
      go_wp2_with ((first | (refine kl hst ta44 rfl ?_) | (refine ki tr44 tc22 rfl ?_)); try simp only [pz, pn, sz, sc])
      clear hget
      go_loopw [20] (fun y wr => ∃ k : Nat, k ≤ 8 ∧ y = .int .i64 k ∧
        St w0 [] [(b7, .cells (wc 17 (far p a b i k)) 189), (b6, .cells (wc 17 0) 189), (b4, .cells (wc 8 b) 44), (b3, .cells (wc 8 a) 44)] wr) (fun y _ => 8 - (intOf y).toNat)
      case atStart => exact ⟨0, by omega, rfl, hst⟩
      case round =>
        clear hst
        obtain ⟨k, hk, rfl, hst⟩ := hrel
        by_cases hlk : k < 8
        · have hk0 : (0 : Int) ≤ (k : Int) := by omega
          have hk8 : (k : Int) < 8 := by omega
          have hcp : ∀ w, St w0 [] [(b7, .cells (wc 17 (far p a b i k)) 189), (b6, .cells (wc 17 0) 189), (b4, .cells (wc 8 b) 44), (b3, .cells (wc 8 a) 44)] w → GivesAt Tryz.prog g (Value.int .i64 ((i : Int) + (k : Int)) :: cap.toList).toArray (.bool (p (i + k))) w := fun w hst => by
            have := hp w hst.keeps (i + k) (by omega)
            simpa using this
          by_cases hpk : p (i + k) = true
          · rw [hpk] at hcp
            have hm := limb_Mul (lb a i) (lb b k) (lb_lt _ _) (lb_lt _ _)
            obtain ⟨hs1, hs2⟩ := far_step p a b i k hlt hlk hpk
            have hp1 := fun w hw => prod_put b7 (far p a b i k) (i + k) (lb a i * lb b k % B) 189 (far_lt' p a b i k hlt hk) (Nat.mod_lt _ B_pos) (by omega) w hw
            rw [Nat.mod_eq_of_lt hs1] at hp1
            have hp2 := fun w hw => prod_put b7 (far p a b i k + lb a i * lb b k % B * B ^ (i + k)) (i + k + 1) (lb a i * lb b k / B) 189 hs1 (by rw [Nat.div_lt_iff_lt_mul B_pos]; exact Nat.mul_lt_mul'' (lb_lt _ _) (lb_lt _ _)) (by omega) w hw
            rw [hs2, Nat.mod_eq_of_lt (far_lt' p a b i (k + 1) hlt (by omega))] at hp2
            clear hs1 hs2 hpk
            have e1 : ((i + k : Nat) : Int) = (i : Int) + (k : Int) := by omega
            have e2 : ((i + k + 1 : Nat) : Int) = (i : Int) + (k : Int) + 1 := by omega
            rw [e1] at hp1
            rw [e2] at hp2
            clear e1 e2
            go_wp2_with ((first | (refine kg hg hst (hcp) rfl rfl rfl rfl ?_; clear hst; intro w hst) | (refine kf gf158 hst (hm) rfl rfl rfl rfl ?_; clear hst; intro w hst) | (refine km gf159 hst (hp1) rfl rfl rfl rfl ?_; clear hst; intro w hst) | (refine km gf159 hst (hp2) rfl rfl rfl rfl ?_; clear hst; intro w hst) | (refine ki tr44 tc22 rfl ?_)); try simp only [pz, pn, sz, sc])
            go_roundw
            case rel => exact ⟨k + 1, by omega, by go_num, hst⟩
            case measure => simp [intOf]; omega
          · have hpk' : p (i + k) = false := by simpa using hpk
            rw [hpk'] at hcp
            have hs := far_skip p a b i k hpk
            clear hpk hpk'
            rw [← hs] at hst
            go_wp2_with ((first | (refine kg hg hst (fun w hst => hcp w (by rw [← hs]; exact hst)) rfl rfl rfl rfl ?_; clear hst; intro w hst) | (refine ki tr44 tc22 rfl ?_)); try simp only [pz, pn, sz, sc])
            go_roundw
            case rel => exact ⟨k + 1, by omega, by go_num, hst⟩
            case measure => simp [intOf]; omega
        · have h8 : k = 8 := by omega
          subst h8
          rw [far_next] at hst
          go_wp2_with fail
          go_roundw
          case rel => exact ⟨i + 1, by omega, by go_num, hst⟩
          case measure => simp [intOf]; omega
    · have h8 : i = 8 := by omega
      subst h8
      have hfar : far p a b 8 0 = outer p a b 8 := by simp [far, inner]
      rw [hfar] at hst
      clear hfar
      go_wp2_with ((first | (refine kl hst ta189 rfl ?_) | (refine kt hst ta189 rfl rfl ?_; clear hst; intro w hst)); try simp only [pz, pn, sz, sc])
      refine bp_c rfl rfl (la hst ta189) ⟨?_, hst.keeps⟩
      rfl

end Go.Proofs.YtefpoconpeggpaaGreatDoor.Rd
