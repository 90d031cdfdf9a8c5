/- What the reference's Power, Big and Wide answer. -/
import Derived.Test.YtojjmcghcgidlaaDoorReA
import Derived.Test.YtojjmcghcgidlaaDoorReB
import Derived.Test.YtojjmcghcgidlaaDoorRdY
namespace Go.Proofs.YtojjmcghcgidlaaDoor.Rd
open Go Go.RowKit
set_option linter.unusedVariables false
set_option linter.unusedSimpArgs false
set_option maxRecDepth 100000

section
variable {P : Program} {ops : Array Oper} {rest : List Oper} {Q : Exit → Act → World → Prop} {a : Act} {w w0 : World} {S : List Nat} {L : List (Nat × Obj)}
theorem wl_slice0 {o : Oper} {T e : TypeId} {z : Value} (hst : St w0 S L w) (hu : SliceT P T e) (he : ElemT P e 1 z) (hg : o.guard = none) (ho : o.op = .buildSlice T 0 #[])
    (h : ∀ b w', w0.heap.size ≤ b → St w0 S ((b, .cells #[] e) :: L) w' → wpList P ops Q rest (a.put o.dst (.slice (some ⟨b, 0, none⟩) 0 0)) w') : wpList P ops Q (o :: rest) a w := by
  obtain ⟨i, hi, hisz, hz⟩ := he
  have e1 : Array.range 0 = #[] := by decide
  have hr : (Instr.buildSlice T 0 #[]).run P w = .ok (.slice (some ⟨w.heap.size, 0, none⟩) 0 0) (w.alloc (.cells #[] e)) := by
    simp [Instr.buildSlice, run_underlying (show P.underlying T = some (.slice e) from hu), sizeOf, typeInfo, hi, Instr.fill, newRow, e1]
  refine wpList_plain hg fun K hK => ?_
  unfold Oper.wp execOp
  simp only [ho, Sem.run_bind, List.map_toArray, List.map_nil, hr, Sem.run_pure, Result.andThen_ok]
  exact hK _ _ (h _ _ hst.keeps.size (hst.alloc _))
end
theorem BigIn.zero (s : Nat) (a : Option Addr) (c : Nat) : BigIn s [] (.slice a 0 c) 0 := ⟨by simp, by simp, by rw [dl_zero]; omega, a, c, rfl, by rw [dl_zero]; omega, fun h => by rw [dl_zero] at h; omega⟩
theorem dl_B (x : Nat) (h : x < B) : dl x ≤ 2 := dl_le.2 (by rw [show C ^ 2 = B from rfl]; exact h)
theorem B_pow (i : Nat) : B ^ i = 2 ^ (64 * i) := by rw [show B = 2 ^ 64 from rfl, ← Nat.pow_mul]
theorem M_C : M = C ^ 16 := by decide

theorem ref02_Power (n : Nat) (hn : n ≤ 100000) (w0 : World) : GivesB Tryd.prog 36 #[.int .i64 n] (2 ^ n) w0 := by
  have hst := St.start [] w0
  have hs := ref01_Small 1 (by decide)
  have hd := dl_B 1 (by decide)
  have hshl := fun v w (h : BigAt w v (dl 1) 1) => ref01_Shl v (dl 1) 1 n w h (by omega) hn
  rw [Nat.one_mul] at hshl
  clear hd
  go_enter Tryd.func36, Tryd.ntmps36
  go_wp2_with ((first | (refine wl_callB (o := ⟨some 3, _, _, _, _, _⟩) gf25 hst (fun w hst => hs w) rfl rfl rfl rfl rfl ?_; clear hst; intro v3 Lg3 w hb3 hst; (try simp only [List.cons_append, List.nil_append, List.append_nil, List.append_assoc] at hst); (try simp only [pz, pn, sz, sc])) | (refine wl_callB (o := ⟨some 5, _, _, _, _, _⟩) gf24 hst (fun w hst => hshl _ w (hb3.at hst (fun x h => h))) rfl rfl rfl rfl rfl ?_; clear hst; intro v5 Lg5 w hb5 hst; (try simp only [List.cons_append, List.nil_append, List.append_nil, List.append_assoc] at hst); (try simp only [pz, pn, sz, sc]))); try simp only [pz, pn, sz, sc])
  refine bp_t rfl rfl (by rfl) (PostB.of hst hb5 (fun x h => by simp [h]))

set_option maxHeartbeats 4000000 in
theorem ref02_Big (n : Nat) (hn : n < M) (w0 : World) : GivesB Tryd.prog 10 #[W n] n w0 := by
  have hst := St.start [] w0
  go_enter Tryd.func10, Tryd.ntmps10
  go_wp2_with ((first | (refine kb 1 hst rfl rfl ?_; clear hst; intro b1 w hb1 hst) | (refine wl_slice0 (o := ⟨some 5, _, _, _, _, _⟩) hst (show SliceT _ 31 48 by unfold SliceT; kernel_rfl) (show ElemT Tryd.prog 48 1 (.int .u32 0) from ElemT.of (by kernel_rfl)) rfl rfl ?_; clear hst; intro b5 w hb5 hst) | (refine kc hst tc22 rfl ?_)); try simp only [pz, pn, sz, sc])
  go_loopw [4, 3] (fun vi vb wr => ∃ (i : Nat) (Lb : List (Nat × Obj)), i ≤ 8 ∧ vi = .int .i64 i ∧ BigIn w0.heap.size Lb vb (n % B ^ i) ∧ St w0 [] ((b1, .cells (wc 8 n) 24) :: Lb) wr) (fun vi _ _ => 8 - (intOf vi).toNat)
  case atStart => exact ⟨0, [], by omega, rfl, by rw [Nat.pow_zero, Nat.mod_one]; exact BigIn.zero _ _ _, hst.drop⟩
  case round =>
    clear hst
    obtain ⟨i, Lb, hi, rfl, hbb, hst⟩ := hrel
    by_cases hlt : i < 8
    · have h0 : (0 : Int) ≤ (i : Int) := by omega
      have h1 : (i : Int) < 8 := by omega
      have hs := ref01_Small (lb n i) (lb_lt _ _)
      have hd := dl_B (lb n i) (lb_lt _ _)
      have hshl : ∀ v w (h : BigAt w v (dl (lb n i)) (lb n i)), GivesB Tryd.prog 24 #[v, .int .i64 (64 * (i : Int))] (lb n i * B ^ i) w := fun v w h => by
        have := ref01_Shl v _ _ (64 * i) w h (by omega) (by omega)
        rw [← B_pow, show ((64 * i : Nat) : Int) = 64 * (i : Int) by omega] at this
        exact this
      have hlow : n % B ^ i < C ^ 16 := by rw [← M_C]; exact Nat.lt_of_le_of_lt (Nat.mod_le _ _) hn
      have hsum : lb n i * B ^ i < C ^ 16 := by
        rw [← M_C]
        exact Nat.lt_of_le_of_lt (Nat.le_trans (by rw [lb_split]; exact Nat.le_add_left _ _) (Nat.mod_le n (B ^ (i + 1)))) hn
      have hadd : ∀ va vb w (ha : BigAt w va (dl (n % B ^ i)) (n % B ^ i)) (hb : BigAt w vb (dl (lb n i * B ^ i)) (lb n i * B ^ i)), GivesB Tryd.prog 23 #[va, vb] (n % B ^ (i + 1)) w := fun va vb w ha hb => by
        have := ref01_Add va vb _ _ _ _ w ha hb (Nat.le_trans (dl_le.2 hlow) (by omega)) (Nat.le_trans (dl_le.2 hsum) (by omega))
        rwa [← lb_split] at this
      clear hd hlow hsum hi hlt
      go_wp2_with ((first | (refine wl_callB (o := ⟨some 14, _, _, _, _, _⟩) gf25 hst (fun w hst => hs w) rfl rfl rfl rfl rfl ?_; clear hst; intro v14 Lg14 w hb14 hst; (try simp only [List.cons_append, List.nil_append, List.append_nil, List.append_assoc] at hst); (try simp only [pz, pn, sz, sc])) | (refine wl_callB (o := ⟨some 17, _, _, _, _, _⟩) gf24 hst (fun w hst => hshl _ w (hb14.at hst (fun x h => by simp [h]))) rfl rfl rfl rfl rfl ?_; clear hst; intro v17 Lg17 w hb17 hst; (try simp only [List.cons_append, List.nil_append, List.append_nil, List.append_assoc] at hst); (try simp only [pz, pn, sz, sc])) | (refine wl_callB (o := ⟨some 18, _, _, _, _, _⟩) gf23 hst (fun w hst => hadd _ _ w (hbb.at hst (fun x h => by simp [h])) (hb17.at hst (fun x h => by simp [h]))) rfl rfl rfl rfl rfl ?_; clear hst; intro v18 Lg18 w hb18 hst; (try simp only [List.cons_append, List.nil_append, List.append_nil, List.append_assoc] at hst); (try simp only [pz, pn, sz, sc])) | (refine kb 1 hst rfl rfl ?_; clear hst; intro b1 w hb1 hst) | (refine wl_slice0 (o := ⟨some 5, _, _, _, _, _⟩) hst (show SliceT _ 31 48 by unfold SliceT; kernel_rfl) (show ElemT Tryd.prog 48 1 (.int .u32 0) from ElemT.of (by kernel_rfl)) rfl rfl ?_; clear hst; intro b5 w hb5 hst) | (refine kc hst tc22 rfl ?_)); try simp only [pz, pn, sz, sc])
      go_roundw
      case rel => exact ⟨i + 1, Lg18, by omega, by go_num, hb18, hst.sub (by repeat (first | exact List.Sublist.refl _ | refine List.Sublist.cons_cons _ ?_ | refine List.Sublist.trans ?_ (List.sublist_append_right _ _)))⟩
      case measure => simp [intOf]; omega
    · have hie : i = 8 := by omega
      subst hie
      rw [← M_eq, Nat.mod_eq_of_lt hn] at hbb
      have hi1 : ¬ ((8 : Int) < 8) := by omega
      go_wp2_with ((first | (refine kb 1 hst rfl rfl ?_; clear hst; intro b1 w hb1 hst) | (refine wl_slice0 (o := ⟨some 5, _, _, _, _, _⟩) hst (show SliceT _ 31 48 by unfold SliceT; kernel_rfl) (show ElemT Tryd.prog 48 1 (.int .u32 0) from ElemT.of (by kernel_rfl)) rfl rfl ?_; clear hst; intro b5 w hb5 hst) | (refine kc hst tc22 rfl ?_)); try simp only [pz, pn, sz, sc])
      refine bp_t rfl rfl (by rfl) (PostB.of hst hbb (fun x h => by simp [h]))

end Go.Proofs.YtojjmcghcgidlaaDoor.Rd
