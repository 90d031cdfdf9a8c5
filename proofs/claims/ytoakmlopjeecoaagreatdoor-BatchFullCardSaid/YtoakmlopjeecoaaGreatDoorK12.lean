/- What (*Batch).Each answers. -/
import Derived.Test.YtoakmlopjeecoaaGreatDoorK11
import Derived.Test.YtoakmlopjeecoaaGreatDoorK03
namespace Go.Proofs.YtoakmlopjeecoaaGreatDoor.Rd
open Go Go.RowKit
set_option linter.unusedVariables false
set_option linter.unusedSimpArgs false
set_option maxRecDepth 100000

def sumI (f : Nat → Int) : Nat → Int
  | 0 => 0
  | k + 1 => sumI f k + f k
theorem sumI_in (f : Nat → Int) (h0 : ∀ k, 0 ≤ f k) (h1 : ∀ k, f k ≤ 1) : ∀ k, 0 ≤ sumI f k ∧ sumI f k ≤ k
  | 0 => ⟨Int.le_refl _, Int.le_refl _⟩
  | k + 1 => by
    have := sumI_in f h0 h1 k
    have := h0 k
    have := h1 k
    unfold sumI
    constructor
    · omega
    · push_cast; omega
theorem grow_slice {w0 : World} {Lg : List (Nat × Obj)} {e : TypeId} {sz n : Nat} {v : Value} {xs : List Value} (h : GRow w0 Lg e sz v n xs) : ∃ out c, v = .slice out n c := by
  obtain ⟨_, ⟨_, rfl, rfl⟩ | ⟨g, cap, cur, _, rfl, _⟩⟩ := h
  · exact ⟨none, 0, rfl⟩
  · exact ⟨_, _, rfl⟩
theorem arr_news (src : Array Value) : ∀ (j : Nat) u, src.toList[j]? = some u → src[0 + j]? = some u := fun j u h => by simpa using h

theorem batch_may_ok (bb : Nat) (n : Int) (h : n ≤ 256) : Gives Tryz.prog 11 #[.pointer (some ⟨bb, 0, none⟩), .int .i64 n] (.int .i64 0) := by
  intro w0
  have hst := St.start [] w0
  have q : decide ((256 : Int) < n) = false := decide_eq_false (by omega)
  have q2 : decide (n > 256) = false := decide_eq_false (by omega)
  clear h
  go_enter Tryz.func11, Tryz.ntmps11
  go_wp2_with ((first | (go_big_skip)); try simp only [pz, pn, sz, sc])
  refine bp_t rfl rfl (by rfl) ⟨?_, hst.keeps⟩
  rfl
theorem batch_may_full (bb : Nat) (n : Int) (h : 256 < n) : Gives Tryz.prog 11 #[.pointer (some ⟨bb, 0, none⟩), .int .i64 n] (.int .i64 8) := by
  intro w0
  have hst := St.start [] w0
  have q : decide ((256 : Int) < n) = true := decide_eq_true (by omega)
  have q2 : decide (n > 256) = true := decide_eq_true (by omega)
  clear h
  go_enter Tryz.func11, Tryz.ntmps11
  go_wp2_with ((first | (go_big_skip)); try simp only [pz, pn, sz, sc])
  refine bp_t rfl rfl (by rfl) ⟨?_, hst.keeps⟩
  rfl
theorem batch_Each_full (bb : Nat) (b : Option Addr) (n c : Nat) (hn : 256 < n) (hn2 : n ≤ 1000000) : Gives Tryz.prog 6 #[.pointer (some ⟨bb, 0, none⟩), .slice b n c] (.tuple #[.slice none 0 0, .int .i64 8]) := by
  intro w0
  have hst := St.start [] w0
  have hm := batch_may_full bb (n : Int) (by omega)
  have h6 : ((8 : Int) != 0) = true := rfl
  go_enter Tryz.func6, Tryz.ntmps6
  go_wp2_with ((first | (go_big_skip) | (refine kf gf11 hst (hm) rfl rfl rfl rfl ?_; clear hst; intro w hst) | (refine kl hst ta26 rfl ?_) | (refine klm hst ta26 rfl ?_) | (refine ka 9 hst tz26 rfl rfl ?_; clear hst; intro b9 w hb9 hst) | (refine kt hst ta26 rfl rfl ?_; clear hst; intro w hst) | (refine wl_slice1 (o := ⟨some 27, _, _, _, _, _⟩) hst ts30 te41 rfl rfl (by (simp only [eval_lit, eval_k, eval_f, eval_g, List.getD_cons_succ, List.getD_cons_zero]) <;> rfl) (by rfl) ?_; clear hst; intro b27 w hb27 hst)); try simp only [pz, pn, sz, sc])
  refine bp_tt rfl rfl (by rfl) (by rfl) ⟨?_, hst.keeps⟩
  rfl

set_option maxHeartbeats 8000000 in
theorem batch_Each (bb : Nat) (d : Int) (p : Option Addr) (hp : BatP d p) (N cap : Nat) (hN : N ≤ 256) (bl : Nat) (E : TypeId) (cl : Array Value) (rc : Nat → Array Value) (hsz : ∀ k, (rc k).size = 8) (hone : ∀ k, OneC (rc k)) (hpart : ∀ k, k < N → Part cl (rc k) cl (rc k) (k * 8))
    (ra : Nat → Nat) (rg rs : Nat → Int) (hok : ∀ k, ResOk (rg k) (rs k)) (w0 : World) (hF : FlIn w0) (hbb : bb ≠ 0) (hne : bb ≠ bl) (hb : w0.heap[bb]? = some (.cells (batC d 0 p 0 0 (fun _ => 0)) 62)) (hl : w0.heap[bl]? = some (.cells cl E))
    (hdo : ∀ k, k < N → ∀ bu w, Keeps [bb] w0 w → GivesAt Tryz.prog 15 #[.pointer (some ⟨bu, 0, none⟩), .agg (rc k)] (.agg (resC (ra k) (rg k) (rs k))) w) :
    GivesE Tryz.prog 6 #[.pointer (some ⟨bb, 0, none⟩), .slice (some ⟨bl, 0, none⟩) N cap] bb (fun v ob => (∃ out c, v = .tuple #[.slice out N c, .int .i64 0]) ∧ ∃ d p, BatP d p ∧ ob = .cells (batC d 0 p N (sumI (fun k => bd (rs k)) N) (fun i => sumI (fun k => ft (rg k) i) N)) 62) w0 := by
  have hst : St w0 [bb] [(bb, .cells (batC d 0 p 0 0 (fun _ => 0)) 62), (bl, .cells cl E)] w0 := ((St.start [bb] w0).add hl (by simp)).add hb (by simpa using hne)
  have hm := batch_may_ok bb (N : Int) (by omega)
  have h6 : ((0 : Int) != 0) = false := rfl
  have hD := Lib.hid (fun (k : Nat) (hlt : k < N) (d : Int) (p : Option Addr) (hp : BatP d p) (w : World) (hk : Keeps [bb] w0 w) (hb : w.heap[bb]? = some (.cells (batC d 0 p k (sumI (fun k => bd (rs k)) k) (fun i => sumI (fun k => ft (rg k) i) k)) 62)) =>
    batch_Do bb d p hp k (sumI (fun k => bd (rs k)) k) (fun i => sumI (fun k => ft (rg k) i) k) (by omega) (by omega) (sumI_in _ (fun k => (bd_in _).1) (fun k => (bd_in _).2) k).1 (by have := (sumI_in (fun k => bd (rs k)) (fun k => (bd_in _).1) (fun k => (bd_in _).2) k).2; omega)
      (fun i => (sumI_in _ (fun k => (ft_in _ i).1) (fun k => (ft_in _ i).2) k).1) (fun i => by have := (sumI_in (fun k => ft (rg k) i) (fun k => (ft_in _ i).1) (fun k => (ft_in _ i).2) k).2; omega)
      (rc k) (hsz k) (hone k) (ra k) (rg k) (rs k) (hok k) w (hF.keep hk (by simpa using hbb.symm)) hbb hb (fun bu w' k' => hdo k hlt bu w' (hk.trans k' (fun x hx _ => hx))))
  have hR := Lib.hid (show ∀ (k : Nat) (bu : Nat), batR bu ((k : Int) + 1) (sumI (fun k => bd (rs k)) k + bd (rs k)) (fun i => sumI (fun k => ft (rg k) i) k + ft (rg k) i) = batC 1 0 (some ⟨bu, 0, none⟩) ((k + 1 : Nat) : Int) (sumI (fun k => bd (rs k)) (k + 1)) (fun i => sumI (fun k => ft (rg k) i) (k + 1)) from fun k bu => by unfold batR; push_cast; rfl)
  have hrsz := Lib.hid (fun k => resC_size (ra k) (rg k) (rs k))
  have hr1 := Lib.hid (fun k => resC_one (ra k) (rg k) (rs k))
  have hbs := Lib.hid (show ∀ k, Tryz.prog.builtSlice 41 1 [(0, .agg (resC (ra k) (rg k) (rs k)))] = some (resC (ra k) (rg k) (rs k)) from fun k => by kernel_rfl)
  have hpa := Lib.hid hpart
  have hz := Lib.hid hsz
  have ho := Lib.hid hone
  have hp' := Lib.hid hp
  clear hdo hF hb hl hok hpart hsz hone hp hne hbb
  go_enter Tryz.func6, Tryz.ntmps6
  go_wp2_with ((first | (go_big_skip) | (refine kf gf11 hst (hm) rfl rfl rfl rfl ?_; clear hst; intro w hst) | (refine kl hst ta26 rfl ?_) | (refine klm hst ta26 rfl ?_) | (refine ka 9 hst tz26 rfl rfl ?_; clear hst; intro b9 w hb9 hst) | (refine kt hst ta26 rfl rfl ?_; clear hst; intro w hst) | (refine wl_slice1 (o := ⟨some 27, _, _, _, _, _⟩) hst ts30 te41 rfl rfl (by (simp only [eval_lit, eval_k, eval_f, eval_g, List.getD_cons_succ, List.getD_cons_zero]) <;> rfl) (by rfl) ?_; clear hst; intro b27 w hb27 hst)); try simp only [pz, pn, sz, sc])
  go_loopw [7, 9, 19] (fun vo _ i wr => ∃ (k : Nat) (Lg : List (Nat × Obj)) (xs : List Value) (d : Int) (p : Option Addr), k ≤ N ∧ i = .int .i64 k ∧ BatP d p ∧ GRow w0 Lg 41 4 vo k xs ∧ (∃ out c, vo = .slice out k c) ∧ St w0 [bb] ((bb, .cells (batC d 0 p k (sumI (fun k => bd (rs k)) k) (fun i => sumI (fun k => ft (rg k) i) k)) 62) :: (bl, .cells cl E) :: Lg) wr) (fun _ _ i _ => N - (intOf i).toNat)
  case atStart => exact ⟨0, [], [], d, p, by omega, rfl, hp'.out, GRow.nil _ _ _, ⟨_, _, rfl⟩, hst⟩
  case round =>
    clear hst
    obtain ⟨k, Lg, xs, d, p, hkN, rfl, hp, hgr, ⟨out, c, rfl⟩, hst⟩ := hrel
    by_cases hlt : k < N
    · have q : decide ((k : Int) < (N : Int)) = true := decide_eq_true (by omega)
      have hDk := Lib.hid (hD.out k hlt d p hp)
      have hRk := Lib.hid (hR.out k)
      have y1 := hz.out k
      have y2 := ho.out k
      have hpk := hpa.out k hlt
      have x1 := hrsz.out k
      have x2 := hr1.out k
      have hbk := hbs.out k
      have i1 : (0 : Int) ≤ (k : Int) := by omega
      have i2 : (k : Int) < (N : Int) := by omega
      clear hD hR hrsz hr1 hbs hpa hz ho hm h6 hp'
      have h4 : (resC (ra k) (rg k) (rs k)).toList.length = 1 * 4 := by simpa using x1
      have hon : ∀ u ∈ (resC (ra k) (rg k) (rs k)).toList, u.oneCell' = true := by
        have := x2.h
        rw [Array.all_eq_true'] at this
        intro u hu
        exact this u (by simpa using hu)
      have h4' := Lib.hid h4
      have hon' := Lib.hid hon
      clear h4 hon
      generalize rc k = cs at *
      generalize resC (ra k) (rg k) (rs k) = rsk at *
      go_wp2_with ((first | (go_big_skip) | (refine klm hst ta26 rfl ?_ (hc := hpk) (hn := y1)) | (refine kE (o := ⟨some 26, _, _, _, _, _⟩) (fun ob => (b9, .cells cs 26) :: (bb, ob) :: (bl, .cells cl E) :: Lg) gf10 hst (fun w hst => hDk.out w hst.keeps (hst.own _ _ (by repeat (first | exact List.Mem.head _ | refine List.Mem.tail _ ?_)))) rfl rfl rfl rfl ?_; clear hst; intro v26 ob w hR hst; obtain ⟨rfl, bu, rfl⟩ := hR; rw [hRk.out bu] at hst) | (refine kS 27 hst ts30 hbk rfl rfl ?_; clear hst; intro b27 w hb27 hst) | (refine wl_append (bytes := 32) (o := ⟨some 28, _, _, _, _, _⟩) rsk.toList hgr hst ts30 te41 (show BytesT _ _ _ by unfold BytesT; kernel_rfl) rfl rfl (by rfl) (by rfl) (by repeat (first | exact Tl.here | apply Tl.there)) (by repeat (first | exact List.Mem.head _ | refine List.Mem.tail _ ?_)) h4'.out (arr_news _) hon'.out (by rfl) (by omega) (by omega) (by omega) ?_; clear hst hgr; intro v28 Lg28 w hgr hst; (try simp only [List.cons_append, List.nil_append] at hst)) | (refine kl hst ta26 rfl ?_) | (refine klm hst ta26 rfl ?_) | (refine ka 9 hst tz26 rfl rfl ?_; clear hst; intro b9 w hb9 hst) | (refine kt hst ta26 rfl rfl ?_; clear hst; intro w hst) | (refine wl_slice1 (o := ⟨some 27, _, _, _, _, _⟩) hst ts30 te41 rfl rfl (by (simp only [eval_lit, eval_k, eval_f, eval_g, List.getD_cons_succ, List.getD_cons_zero]) <;> rfl) (by rfl) ?_; clear hst; intro b27 w hb27 hst)); try simp only [pz, pn, sz, sc])
      go_roundw
      case rel => exact ⟨k + 1, Lg28, _, 1, some ⟨bu, 0, none⟩, by omega, by go_num, .inr ⟨rfl, bu, rfl⟩, hgr, grow_slice hgr, hst.sub (by repeat (first | exact List.Sublist.refl _ | refine List.Sublist.cons_cons _ ?_ | refine List.Sublist.cons _ ?_))⟩
      case measure => simp [intOf]; omega
    · have : k = N := by omega
      subst this
      have q : decide ((k : Int) < (k : Int)) = false := by simp
      clear hD hR hrsz hr1 hbs hpa hz ho hm h6 hp'
      go_wp2_with ((first | (go_big_skip) | (refine kl hst ta26 rfl ?_) | (refine klm hst ta26 rfl ?_) | (refine ka 9 hst tz26 rfl rfl ?_; clear hst; intro b9 w hb9 hst) | (refine kt hst ta26 rfl rfl ?_; clear hst; intro w hst) | (refine wl_slice1 (o := ⟨some 27, _, _, _, _, _⟩) hst ts30 te41 rfl rfl (by (simp only [eval_lit, eval_k, eval_f, eval_g, List.getD_cons_succ, List.getD_cons_zero]) <;> rfl) (by rfl) ?_; clear hst; intro b27 w hb27 hst)); try simp only [pz, pn, sz, sc])
      exact bp_tt rfl rfl (by rfl) (by rfl) (GivesE.of hst ⟨⟨out, c, rfl⟩, d, p, hp, rfl⟩ (by simp))

end Go.Proofs.YtoakmlopjeecoaaGreatDoor.Rd
