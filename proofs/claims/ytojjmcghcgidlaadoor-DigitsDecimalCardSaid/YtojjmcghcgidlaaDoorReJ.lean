/- What the reference's Read of chapter 4 answers. -/
import Derived.Test.YtojjmcghcgidlaaDoorReI
import Derived.Test.YtojjmcghcgidlaaDoorReE
import Derived.Test.YtojjmcghcgidlaaDoorReG
import Derived.Test.YtojjmcghcgidlaaDoorReD
import Derived.Test.YtojjmcghcgidlaaDoorRdT
namespace Go.Proofs.YtojjmcghcgidlaaDoor.Rd
open Go Go.RowKit
set_option linter.unusedVariables false
set_option linter.unusedSimpArgs false
set_option maxRecDepth 100000

theorem run_opStrIndex {P : Program} {a : Act} {o : Oper} {T : TypeId} {x y : Operand} {j : Nat} {k : IntKind} {s : ByteArray} {u : UInt8} (w : World) (hT : P.underlying T = some .string) (ho : o.op = .index T x y)
    (hx : a.eval x = .string s) (hy : a.eval y = .int k (j : Int)) (hv : s.data[j]? = some u) : (execOp a.eval o).run P w = .ok (.value (.int .u8 (u.toNat : Nat))) w := by
  have hj : j < s.data.size := by
    rcases Nat.lt_or_ge j s.data.size with h | h
    · exact h
    · rw [Array.getElem?_eq_none h] at hv; cases hv
  have h1 : (Instr.index T (.string s) (.int k (j : Int))).run P w = .ok (.int .u8 (u.toNat : Nat)) w := by
    rw [run_index_string w T s k _ hT, dif_pos ⟨by omega, by have : s.size = s.data.size := rfl; omega⟩]
    have : s[(j : Int).toNat]'(by have : s.size = s.data.size := rfl; simp; omega) = u := by
      have e2 : s.data[j]? = some s.data[j] := Array.getElem?_eq_getElem hj
      rw [e2] at hv
      simp only [Int.toNat_natCast]
      exact Option.some.inj hv
    rw [this]
  unfold execOp
  simp only [ho, hx, hy, Sem.run_bind, h1, Sem.run_pure, Result.andThen_ok]

theorem nv_lt (base : Nat) (hb : base ≤ 16) (l : List UInt8) (h : ∀ (k : Nat) (c : UInt8), l[k]? = some c → val c.toNat < base) : ∀ i, i ≤ l.length → nv base (l.take i) < C ^ i := by
  intro i
  induction i with
  | zero => intro _; simp [nv]
  | succ i ih =>
    intro hi
    have hc : l[i]? = some (l[i]'(by omega)) := List.getElem?_eq_getElem _
    rw [nv_take base l i _ hc]
    have h1 := ih (by omega)
    have h2 := h i _ hc
    generalize nv base (l.take i) = m at *
    generalize val _ = v at *
    have : (m + 1) * base ≤ C ^ i * base := Nat.mul_le_mul_right _ h1
    rw [Nat.add_mul, Nat.one_mul] at this
    have h3 : C ^ i * base ≤ C ^ i * C := Nat.mul_le_mul_left _ (by rw [C_val]; omega)
    rw [Nat.pow_succ]; omega

set_option maxHeartbeats 16000000 in
theorem ref04_Read (s : ByteArray) (base : Nat) (hb : base ≤ 16) (hb1 : 1 ≤ base) (hsz : s.size ≤ 10000) : Gives Tryd.prog 13 #[.string s, .int .i64 base] (.tuple #[W (rd base s.data.toList).1, .int .i64 ((rd base s.data.toList).2 : Nat)]) := by
  intro w0
  have hst := St.start [] w0
  have hplain := ref04_plain s base hb (by omega)
  unfold rd
  cases hp : isPlain base s.data.toList with
  | false =>
    rw [hp] at hplain
    rw [if_neg (by simp)]
    clear hp
    go_enter Tryd.func13, Tryd.ntmps13
    go_wp2_with ((first | (refine kf gf27 hst (hplain) rfl rfl rfl rfl ?_; clear hst; intro w hst) | (refine ka 4 hst tz24 rfl rfl ?_; clear hst; intro b4 w hb4 hst) | (refine kt hst ta24 rfl rfl ?_; clear hst; intro w hst) | (refine wl_slice0 (o := ⟨some 15, _, _, _, _, _⟩) hst (show SliceT _ 31 48 by unfold SliceT; kernel_rfl) (show ElemT Tryd.prog 48 1 (.int .u32 0) from ElemT.of (by kernel_rfl)) rfl rfl ?_; clear hst; intro b15 w hb15 hst) | (refine ka 8 hst tz24 rfl rfl ?_; clear hst; intro b8 w hb8 hst) | (refine kl hst ta24 rfl ?_)); try simp only [pz, pn, sz, sc])
    refine bp_ct rfl rfl (la hst ta24) (by rfl) ⟨?_, hst.keeps⟩
    rw [W_zero]; rfl
  | true =>
    rw [hp] at hplain
    rw [if_pos rfl]
    have hall := plain_all base _ hp
    have hdig := fun (c : UInt8) => ref04_digit c.toNat base (val_u8 c) hb
    have hnv := nv_lt base hb s.data.toList hall
    have hstep := nv_take base s.data.toList
    obtain ⟨l, hl⟩ : ∃ l, s.data.toList = l := ⟨_, rfl⟩
    have hget : ∀ i, s.data[i]? = l[i]? := fun i => by rw [← hl, Array.getElem?_toList]
    have hlen : s.size = l.length := by rw [← hl]; simp
    rw [hl] at hall hnv hstep ⊢
    obtain ⟨N, hN⟩ : ∃ N, N = l.length := ⟨_, rfl⟩
    have hNs : s.size = N := by omega
    have hNs' : s.toList.length = N := by rw [toList_data, hl, hN]
    have hNl : N ≤ 10000 := by omega
    obtain ⟨R, hR⟩ : ∃ R, (if nv base l < M then (nv base l, 0) else (0, 4)) = R := ⟨_, rfl⟩
    rw [hR]
    have hR' := Lib.hid hR
    have hget' := Lib.hid hget
    have hN' := Lib.hid hN
    have hbB : base < B := by rw [B_val]; omega
    have hsb := ref01_Small base hbB
    have W1 : IntKind.u64.wrap (base : Int) = (base : Int) := by rw [u64_wrap, Nat.mod_eq_of_lt hbB]
    have hall' := Lib.hid hall
    have hnv' := Lib.hid hnv
    have hstep' := Lib.hid hstep
    have hb0 : (0 : Int) ≤ (base : Int) := by omega
    clear hp hR hget hlen hl hN hall hnv hstep hsz
    go_enter Tryd.func13, Tryd.ntmps13
    go_wp2_with ((first | (refine kf gf27 hst (hplain) rfl rfl rfl rfl ?_; clear hst; intro w hst) | (refine ka 4 hst tz24 rfl rfl ?_; clear hst; intro b4 w hb4 hst) | (refine kt hst ta24 rfl rfl ?_; clear hst; intro w hst) | (refine wl_slice0 (o := ⟨some 15, _, _, _, _, _⟩) hst (show SliceT _ 31 48 by unfold SliceT; kernel_rfl) (show ElemT Tryd.prog 48 1 (.int .u32 0) from ElemT.of (by kernel_rfl)) rfl rfl ?_; clear hst; intro b15 w hb15 hst) | (refine ka 8 hst tz24 rfl rfl ?_; clear hst; intro b8 w hb8 hst) | (refine kl hst ta24 rfl ?_)); try simp only [pz, pn, sz, sc])
    go_loopw [7, 6] (fun vi vb wr => ∃ (i : Nat) (Lb : List (Nat × Obj)), i ≤ N ∧ vi = .int .i64 i ∧ BigIn w0.heap.size Lb vb (nv base (l.take i)) ∧ St w0 [] ((b4, .cells (wc 8 0) 24) :: Lb) wr) (fun vi _ _ => N - (intOf vi).toNat)
    case atStart => exact ⟨0, [], by omega, rfl, BigIn.zero _ _ _, hst.drop⟩
    case round =>
      clear hst
      obtain ⟨i, Lb, hi, rfl, hbb, hst⟩ := hrel
      have hlN := hN'.out
      have hml := dl_le.2 (hnv'.out i (by omega))
      by_cases hlt : i < N
      · have hc : l[i]? = some (l[i]'(by omega)) := List.getElem?_eq_getElem _
        generalize l[i]'(by omega) = c at hc
        have hv : s.data[i]? = some c := by rw [hget'.out, hc]
        have hv' := Lib.hid hv
        have hd := hdig c
        have hok := hall'.out i c hc
        rw [if_pos hok] at hd
        have hst1 := hstep'.out i c hc
        have hm1 := hnv'.out (i + 1) (by omega)
        rw [hst1] at hm1
        have hst1' := Lib.hid hst1
        generalize nv base (l.take i) = m at *
        generalize val c.toNat = v at *
        have hvB : v < B := by omega
        have hsv := ref01_Small v hvB
        have W2 : IntKind.u64.wrap (v : Int) = (v : Int) := by rw [u64_wrap, Nat.mod_eq_of_lt hvB]
        have h0 : (0 : Int) ≤ (v : Int) := by omega
        have h1 : (i : Int) < (N : Int) := by omega
        have d1 := dl_B base hbB
        have d2 := dl_B v hvB
        have d3 : dl (m * base) ≤ 100000 := Nat.le_trans (dl_le.2 (Nat.lt_of_le_of_lt (Nat.le_add_right _ v) hm1)) (by omega)
        have hmul := fun va vb w (ha : BigAt w va (dl m) m) (hb : BigAt w vb (dl base) base) => ref01_Mul va vb _ _ _ _ w ha hb (by omega) (by omega)
        have hadd := fun va vb w (ha : BigAt w va (dl (m * base)) (m * base)) (hb : BigAt w vb (dl v) v) => ref01_Add va vb _ _ _ _ w ha hb d3 (by omega)
        clear hc hv hok hst1 hm1 d1 d2 d3 hml hlN
        go_wp2_with ((first | (refine ka 4 hst tz24 rfl rfl ?_; clear hst; intro b4 w hb4 hst) | (refine kt hst ta24 rfl rfl ?_; clear hst; intro w hst) | (refine wl_slice0 (o := ⟨some 15, _, _, _, _, _⟩) hst (show SliceT _ 31 48 by unfold SliceT; kernel_rfl) (show ElemT Tryd.prog 48 1 (.int .u32 0) from ElemT.of (by kernel_rfl)) rfl rfl ?_; clear hst; intro b15 w hb15 hst) | (refine ka 8 hst tz24 rfl rfl ?_; clear hst; intro b8 w hb8 hst) | (refine kl hst ta24 rfl ?_)); try simp only [pz, pn, sz, sc])
        refine wp_region_TV 14 [] hst (by kernel_rfl) ?_; clear hst; intro w hst; (try dsimp only [List.length_cons, List.length_nil]); (try simp only [List.length_cons, List.length_nil, Nat.reduceAdd, Array.replicate_succ, Array.replicate_zero, List.push_toArray, List.nil_append, List.cons_append])
        refine r0 0 ?_; simp only [pz, pn, sz, sc]
        refine r0 1 ?_; simp only [pz, pn, sz, sc]
        refine r0 2 ?_; simp only [pz, pn, sz, sc]
        refine r0 5 ?_; simp only [pz, pn, sz, sc]
        refine r0 6 ?_; simp only [pz, pn, sz, sc]
        refine r0 7 ?_ (hy := fun w => run_opStrIndex (k := .i64) w (by kernel_rfl) rfl (by rfl) (by rfl) hv'.out); simp only [pz, pn, sz, sc]
        refine r0 8 ?_; simp only [pz, pn, sz, sc]
        refine r1 3 ?_; (first | (refine wl_callB (o := ⟨some 25, _, _, _, _, _⟩) gf25 hst (fun w hst => hsb w) rfl rfl rfl rfl rfl ?_; clear hst; intro v25 Lg25 w hb25 hst; (try simp only [List.cons_append, List.nil_append, List.append_nil, List.append_assoc] at hst); (try simp only [pz, pn, sz, sc])) | (refine wl_callB (o := ⟨some 33, _, _, _, _, _⟩) gf25 hst (fun w hst => hsb w) rfl rfl rfl rfl rfl ?_; clear hst; intro v33 Lg33 w hb33 hst; (try simp only [List.cons_append, List.nil_append, List.append_nil, List.append_assoc] at hst); (try simp only [pz, pn, sz, sc])) | (refine wl_callB (o := ⟨some 25, _, _, _, _, _⟩) gf25 hst (fun w hst => hsv w) rfl rfl rfl rfl rfl ?_; clear hst; intro v25 Lg25 w hb25 hst; (try simp only [List.cons_append, List.nil_append, List.append_nil, List.append_assoc] at hst); (try simp only [pz, pn, sz, sc])) | (refine wl_callB (o := ⟨some 33, _, _, _, _, _⟩) gf25 hst (fun w hst => hsv w) rfl rfl rfl rfl rfl ?_; clear hst; intro v33 Lg33 w hb33 hst; (try simp only [List.cons_append, List.nil_append, List.append_nil, List.append_assoc] at hst); (try simp only [pz, pn, sz, sc])) | (refine kf gf29 hst (hd) rfl rfl rfl rfl ?_; clear hst; intro w hst) | (refine wl_callB (o := ⟨some 26, _, _, _, _, _⟩) gf28 hst (fun w hst => hmul _ _ w (hbb.at hst (fun x h => by simp [h])) (hb25.at hst (fun x h => by simp [h]))) rfl rfl rfl rfl rfl ?_; clear hst; intro v26 Lg26 w hb26 hst; (try simp only [List.cons_append, List.nil_append, List.append_nil, List.append_assoc] at hst); (try simp only [pz, pn, sz, sc])) | (refine wl_callB (o := ⟨some 34, _, _, _, _, _⟩) gf23 hst (fun w hst => hadd _ _ w (hb26.at hst (fun x h => by simp [h])) (hb33.at hst (fun x h => by simp [h]))) rfl rfl rfl rfl rfl ?_; clear hst; intro v34 Lg34 w hb34 hst; (try simp only [List.cons_append, List.nil_append, List.append_nil, List.append_assoc] at hst); (try simp only [pz, pn, sz, sc])) | (refine kp ?_)); (try simp only [pz, pn, sz, sc]); refine re ?_
        refine r1 4 ?_; (first | (refine wl_callB (o := ⟨some 25, _, _, _, _, _⟩) gf25 hst (fun w hst => hsb w) rfl rfl rfl rfl rfl ?_; clear hst; intro v25 Lg25 w hb25 hst; (try simp only [List.cons_append, List.nil_append, List.append_nil, List.append_assoc] at hst); (try simp only [pz, pn, sz, sc])) | (refine wl_callB (o := ⟨some 33, _, _, _, _, _⟩) gf25 hst (fun w hst => hsb w) rfl rfl rfl rfl rfl ?_; clear hst; intro v33 Lg33 w hb33 hst; (try simp only [List.cons_append, List.nil_append, List.append_nil, List.append_assoc] at hst); (try simp only [pz, pn, sz, sc])) | (refine wl_callB (o := ⟨some 25, _, _, _, _, _⟩) gf25 hst (fun w hst => hsv w) rfl rfl rfl rfl rfl ?_; clear hst; intro v25 Lg25 w hb25 hst; (try simp only [List.cons_append, List.nil_append, List.append_nil, List.append_assoc] at hst); (try simp only [pz, pn, sz, sc])) | (refine wl_callB (o := ⟨some 33, _, _, _, _, _⟩) gf25 hst (fun w hst => hsv w) rfl rfl rfl rfl rfl ?_; clear hst; intro v33 Lg33 w hb33 hst; (try simp only [List.cons_append, List.nil_append, List.append_nil, List.append_assoc] at hst); (try simp only [pz, pn, sz, sc])) | (refine kf gf29 hst (hd) rfl rfl rfl rfl ?_; clear hst; intro w hst) | (refine wl_callB (o := ⟨some 26, _, _, _, _, _⟩) gf28 hst (fun w hst => hmul _ _ w (hbb.at hst (fun x h => by simp [h])) (hb25.at hst (fun x h => by simp [h]))) rfl rfl rfl rfl rfl ?_; clear hst; intro v26 Lg26 w hb26 hst; (try simp only [List.cons_append, List.nil_append, List.append_nil, List.append_assoc] at hst); (try simp only [pz, pn, sz, sc])) | (refine wl_callB (o := ⟨some 34, _, _, _, _, _⟩) gf23 hst (fun w hst => hadd _ _ w (hb26.at hst (fun x h => by simp [h])) (hb33.at hst (fun x h => by simp [h]))) rfl rfl rfl rfl rfl ?_; clear hst; intro v34 Lg34 w hb34 hst; (try simp only [List.cons_append, List.nil_append, List.append_nil, List.append_assoc] at hst); (try simp only [pz, pn, sz, sc])) | (refine kp ?_)); (try simp only [pz, pn, sz, sc]); refine re ?_
        refine r1 9 ?_; (first | (refine wl_callB (o := ⟨some 25, _, _, _, _, _⟩) gf25 hst (fun w hst => hsb w) rfl rfl rfl rfl rfl ?_; clear hst; intro v25 Lg25 w hb25 hst; (try simp only [List.cons_append, List.nil_append, List.append_nil, List.append_assoc] at hst); (try simp only [pz, pn, sz, sc])) | (refine wl_callB (o := ⟨some 33, _, _, _, _, _⟩) gf25 hst (fun w hst => hsb w) rfl rfl rfl rfl rfl ?_; clear hst; intro v33 Lg33 w hb33 hst; (try simp only [List.cons_append, List.nil_append, List.append_nil, List.append_assoc] at hst); (try simp only [pz, pn, sz, sc])) | (refine wl_callB (o := ⟨some 25, _, _, _, _, _⟩) gf25 hst (fun w hst => hsv w) rfl rfl rfl rfl rfl ?_; clear hst; intro v25 Lg25 w hb25 hst; (try simp only [List.cons_append, List.nil_append, List.append_nil, List.append_assoc] at hst); (try simp only [pz, pn, sz, sc])) | (refine wl_callB (o := ⟨some 33, _, _, _, _, _⟩) gf25 hst (fun w hst => hsv w) rfl rfl rfl rfl rfl ?_; clear hst; intro v33 Lg33 w hb33 hst; (try simp only [List.cons_append, List.nil_append, List.append_nil, List.append_assoc] at hst); (try simp only [pz, pn, sz, sc])) | (refine kf gf29 hst (hd) rfl rfl rfl rfl ?_; clear hst; intro w hst) | (refine wl_callB (o := ⟨some 26, _, _, _, _, _⟩) gf28 hst (fun w hst => hmul _ _ w (hbb.at hst (fun x h => by simp [h])) (hb25.at hst (fun x h => by simp [h]))) rfl rfl rfl rfl rfl ?_; clear hst; intro v26 Lg26 w hb26 hst; (try simp only [List.cons_append, List.nil_append, List.append_nil, List.append_assoc] at hst); (try simp only [pz, pn, sz, sc])) | (refine wl_callB (o := ⟨some 34, _, _, _, _, _⟩) gf23 hst (fun w hst => hadd _ _ w (hb26.at hst (fun x h => by simp [h])) (hb33.at hst (fun x h => by simp [h]))) rfl rfl rfl rfl rfl ?_; clear hst; intro v34 Lg34 w hb34 hst; (try simp only [List.cons_append, List.nil_append, List.append_nil, List.append_assoc] at hst); (try simp only [pz, pn, sz, sc])) | (refine kp ?_)); (try simp only [pz, pn, sz, sc]); refine re ?_
        refine r0 10 ?_; simp only [pz, pn, sz, sc]
        refine r1 11 ?_; (first | (refine wl_callB (o := ⟨some 25, _, _, _, _, _⟩) gf25 hst (fun w hst => hsb w) rfl rfl rfl rfl rfl ?_; clear hst; intro v25 Lg25 w hb25 hst; (try simp only [List.cons_append, List.nil_append, List.append_nil, List.append_assoc] at hst); (try simp only [pz, pn, sz, sc])) | (refine wl_callB (o := ⟨some 33, _, _, _, _, _⟩) gf25 hst (fun w hst => hsb w) rfl rfl rfl rfl rfl ?_; clear hst; intro v33 Lg33 w hb33 hst; (try simp only [List.cons_append, List.nil_append, List.append_nil, List.append_assoc] at hst); (try simp only [pz, pn, sz, sc])) | (refine wl_callB (o := ⟨some 25, _, _, _, _, _⟩) gf25 hst (fun w hst => hsv w) rfl rfl rfl rfl rfl ?_; clear hst; intro v25 Lg25 w hb25 hst; (try simp only [List.cons_append, List.nil_append, List.append_nil, List.append_assoc] at hst); (try simp only [pz, pn, sz, sc])) | (refine wl_callB (o := ⟨some 33, _, _, _, _, _⟩) gf25 hst (fun w hst => hsv w) rfl rfl rfl rfl rfl ?_; clear hst; intro v33 Lg33 w hb33 hst; (try simp only [List.cons_append, List.nil_append, List.append_nil, List.append_assoc] at hst); (try simp only [pz, pn, sz, sc])) | (refine kf gf29 hst (hd) rfl rfl rfl rfl ?_; clear hst; intro w hst) | (refine wl_callB (o := ⟨some 26, _, _, _, _, _⟩) gf28 hst (fun w hst => hmul _ _ w (hbb.at hst (fun x h => by simp [h])) (hb25.at hst (fun x h => by simp [h]))) rfl rfl rfl rfl rfl ?_; clear hst; intro v26 Lg26 w hb26 hst; (try simp only [List.cons_append, List.nil_append, List.append_nil, List.append_assoc] at hst); (try simp only [pz, pn, sz, sc])) | (refine wl_callB (o := ⟨some 34, _, _, _, _, _⟩) gf23 hst (fun w hst => hadd _ _ w (hb26.at hst (fun x h => by simp [h])) (hb33.at hst (fun x h => by simp [h]))) rfl rfl rfl rfl rfl ?_; clear hst; intro v34 Lg34 w hb34 hst; (try simp only [List.cons_append, List.nil_append, List.append_nil, List.append_assoc] at hst); (try simp only [pz, pn, sz, sc])) | (refine kp ?_)); (try simp only [pz, pn, sz, sc]); refine re ?_
        refine r1 12 ?_; (first | (refine wl_callB (o := ⟨some 25, _, _, _, _, _⟩) gf25 hst (fun w hst => hsb w) rfl rfl rfl rfl rfl ?_; clear hst; intro v25 Lg25 w hb25 hst; (try simp only [List.cons_append, List.nil_append, List.append_nil, List.append_assoc] at hst); (try simp only [pz, pn, sz, sc])) | (refine wl_callB (o := ⟨some 33, _, _, _, _, _⟩) gf25 hst (fun w hst => hsb w) rfl rfl rfl rfl rfl ?_; clear hst; intro v33 Lg33 w hb33 hst; (try simp only [List.cons_append, List.nil_append, List.append_nil, List.append_assoc] at hst); (try simp only [pz, pn, sz, sc])) | (refine wl_callB (o := ⟨some 25, _, _, _, _, _⟩) gf25 hst (fun w hst => hsv w) rfl rfl rfl rfl rfl ?_; clear hst; intro v25 Lg25 w hb25 hst; (try simp only [List.cons_append, List.nil_append, List.append_nil, List.append_assoc] at hst); (try simp only [pz, pn, sz, sc])) | (refine wl_callB (o := ⟨some 33, _, _, _, _, _⟩) gf25 hst (fun w hst => hsv w) rfl rfl rfl rfl rfl ?_; clear hst; intro v33 Lg33 w hb33 hst; (try simp only [List.cons_append, List.nil_append, List.append_nil, List.append_assoc] at hst); (try simp only [pz, pn, sz, sc])) | (refine kf gf29 hst (hd) rfl rfl rfl rfl ?_; clear hst; intro w hst) | (refine wl_callB (o := ⟨some 26, _, _, _, _, _⟩) gf28 hst (fun w hst => hmul _ _ w (hbb.at hst (fun x h => by simp [h])) (hb25.at hst (fun x h => by simp [h]))) rfl rfl rfl rfl rfl ?_; clear hst; intro v26 Lg26 w hb26 hst; (try simp only [List.cons_append, List.nil_append, List.append_nil, List.append_assoc] at hst); (try simp only [pz, pn, sz, sc])) | (refine wl_callB (o := ⟨some 34, _, _, _, _, _⟩) gf23 hst (fun w hst => hadd _ _ w (hb26.at hst (fun x h => by simp [h])) (hb33.at hst (fun x h => by simp [h]))) rfl rfl rfl rfl rfl ?_; clear hst; intro v34 Lg34 w hb34 hst; (try simp only [List.cons_append, List.nil_append, List.append_nil, List.append_assoc] at hst); (try simp only [pz, pn, sz, sc])) | (refine kp ?_)); (try simp only [pz, pn, sz, sc]); refine re ?_
        refine r0 13 ?_; simp only [pz, pn, sz, sc]
        refine rd_ ?_
        go_wp2_with ((first | (refine ka 4 hst tz24 rfl rfl ?_; clear hst; intro b4 w hb4 hst) | (refine kt hst ta24 rfl rfl ?_; clear hst; intro w hst) | (refine wl_slice0 (o := ⟨some 15, _, _, _, _, _⟩) hst (show SliceT _ 31 48 by unfold SliceT; kernel_rfl) (show ElemT Tryd.prog 48 1 (.int .u32 0) from ElemT.of (by kernel_rfl)) rfl rfl ?_; clear hst; intro b15 w hb15 hst) | (refine ka 8 hst tz24 rfl rfl ?_; clear hst; intro b8 w hb8 hst) | (refine kl hst ta24 rfl ?_)); try simp only [pz, pn, sz, sc])
        refine ⟨⟨i + 1, Lg34, by omega, by go_num, by rw [hst1'.out]; exact hb34, hst.sub (by repeat (first | exact List.Sublist.refl _ | refine List.Sublist.cons_cons _ ?_ | refine List.Sublist.trans ?_ (List.sublist_append_right _ _)))⟩, ?_⟩
        simp [intOf]; omega
      · have hie : i = N := by omega
        subst hie
        rw [hlN, List.take_length] at hbb hml
        have hR := hR'.out
        generalize nv base l = m at *
        have hwide := fun vb w (h : BigAt w vb (dl m) m) => ref02_Wide vb m w h (by omega)
        have h1 : ¬ ((i : Int) < (i : Int)) := by omega
        by_cases hm : m < M
        · have e1 : decide (M ≤ m) = false := by simpa using hm
          rw [if_pos hm] at hR
          rw [e1, Nat.mod_eq_of_lt hm] at hwide
          have hR2 := Lib.hid hR
          clear hR hm e1 hml hlN hi hlt
          go_wp2_with ((first | (refine kg gf30 hst (fun w hst => hwide _ w (hbb.at hst (fun x h => by simp [h]))) rfl rfl rfl rfl ?_; clear hst; intro w hst) | (refine ka 4 hst tz24 rfl rfl ?_; clear hst; intro b4 w hb4 hst) | (refine kt hst ta24 rfl rfl ?_; clear hst; intro w hst) | (refine wl_slice0 (o := ⟨some 15, _, _, _, _, _⟩) hst (show SliceT _ 31 48 by unfold SliceT; kernel_rfl) (show ElemT Tryd.prog 48 1 (.int .u32 0) from ElemT.of (by kernel_rfl)) rfl rfl ?_; clear hst; intro b15 w hb15 hst) | (refine ka 8 hst tz24 rfl rfl ?_; clear hst; intro b8 w hb8 hst) | (refine kl hst ta24 rfl ?_)); try simp only [pz, pn, sz, sc])
          refine bp_ct rfl rfl (la hst ta24) (by rfl) ⟨?_, hst.keeps⟩
          rw [← hR2.out]; rfl
        · have e1 : decide (M ≤ m) = true := by simpa using hm
          rw [if_neg hm] at hR
          rw [e1] at hwide
          generalize m % M = m' at hwide
          have hR2 := Lib.hid hR
          clear hR hm e1 hml hlN hi hlt
          go_wp2_with ((first | (refine kg gf30 hst (fun w hst => hwide _ w (hbb.at hst (fun x h => by simp [h]))) rfl rfl rfl rfl ?_; clear hst; intro w hst) | (refine ka 4 hst tz24 rfl rfl ?_; clear hst; intro b4 w hb4 hst) | (refine kt hst ta24 rfl rfl ?_; clear hst; intro w hst) | (refine wl_slice0 (o := ⟨some 15, _, _, _, _, _⟩) hst (show SliceT _ 31 48 by unfold SliceT; kernel_rfl) (show ElemT Tryd.prog 48 1 (.int .u32 0) from ElemT.of (by kernel_rfl)) rfl rfl ?_; clear hst; intro b15 w hb15 hst) | (refine ka 8 hst tz24 rfl rfl ?_; clear hst; intro b8 w hb8 hst) | (refine kl hst ta24 rfl ?_)); try simp only [pz, pn, sz, sc])
          refine bp_ct rfl rfl (la hst ta24) (by rfl) ⟨?_, hst.keeps⟩
          rw [← hR2.out, W_zero]; rfl

end Go.Proofs.YtojjmcghcgidlaaDoor.Rd
