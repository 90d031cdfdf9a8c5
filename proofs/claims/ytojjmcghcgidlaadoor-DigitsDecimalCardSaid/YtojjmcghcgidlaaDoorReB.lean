/- What the reference's Of and Small answer. -/
import Derived.Test.YtojjmcghcgidlaaDoorRdX
namespace Go.Proofs.YtojjmcghcgidlaaDoor.Rd
open Go Go.RowKit
set_option linter.unusedVariables false
set_option linter.unusedSimpArgs false
set_option maxRecDepth 100000

section
variable {P : Program} {ops : Array Oper} {rest : List Oper} {Q : Exit → Act → World → Prop} {a : Act} {w w0 : World} {S : List Nat} {L pre Lg : List (Nat × Obj)}
/-- append of two values of one cell, out of a literal. -/
theorem wl_append2 {o : Oper} {s x : Operand} {t e E' : TypeId} {z v u u' : Value} {n : Nat} {xs : List Value} {sb bytes : Nat} {fr : Nat × Nat} (hg : GRow w0 Lg e 1 v n xs) (hst : St w0 S L w) (hT : SliceT P t e) (he : ElemT P e 1 z) (hby : BytesT P e bytes)
    (hgd : o.guard = none) (ho : o.op = .call { callee := .builtin .append, args := #[s, x], argTypes := #[t, t] }) (hs : a.eval s = v) (hx : a.eval x = .slice (some ⟨sb, 0, none⟩) 2 2)
    (htl : Tl Lg L ((sb, .cells #[u, u'] E' fr) :: pre)) (h1 : u.oneCell' = true) (h1' : u'.oneCell' = true)
    (hz1 : z.cells.size = 1) (hroom : (n + 2) * bytes ≤ 140737488355328) (hroom' : n + 2 ≤ 1000000000000)
    (h : ∀ v' Lg' w', GRow w0 Lg' e 1 v' (n + 2) (xs ++ [u, u']) → St w0 S (pre ++ Lg') w' → wpList P ops Q rest (a.put o.dst v') w') : wpList P ops Q (o :: rest) a w := by
  have hL := htl.eq
  subst hL
  refine wl_append [u, u'] hg hst hT he hby hgd ho hs hx htl (src := #[u, u']) (E' := E') (fr := fr) (by simp) (by simp) (fun j u'' hv => ?_) (by simp [h1, h1']) hz1 (by omega) hroom hroom' fun v' Lg' w' hgr hst' => h v' Lg' w' hgr ?_
  · match j with
    | 0 => simpa using hv
    | 1 => simpa using hv
    | j + 2 => simp at hv
  · exact St.drop hst'
end

section
variable {P : Program} {Q : Exit → Act → World → Prop} {a : Act} {w w0 : World} {S : List Nat} {L : List (Nat × Obj)}
/-- A region that draws, of which just L0 is kept in mind. -/
theorem wp_region_TV {id : Nat} {l : List Oper} (n : Nat) (L0 : List (Nat × Obj)) (hst : St w0 S L w) (hm : P.follows .mixedOrders = true)
    (h : ∀ w', St w0 S L w' → anyT P .any l.toArray Q n (St w0 S L0) l.length (Array.replicate l.length false) a w') : (Code.region id l.toArray true).wp P Q a w := by
  exact wp_region_any hm (anyT_sound (n := n) (V := St w0 S L0) _ _ _ _ (h w.drew (hst.keep (Keeps.drew w))))
end

theorem lb_dg (n i : Nat) : dg n (2 * i) = lb n i % C ∧ dg n (2 * i + 1) = lb n i / C := by
  have hB : B = C * C := by decide
  have e1 : C ^ (2 * i) = B ^ i := by rw [hB, Nat.mul_pow, ← Nat.pow_add]; congr 1; omega
  unfold dg lb
  constructor
  · rw [e1, hB, Nat.mod_mul_left_mod]
  · rw [Nat.pow_succ, e1, ← Nat.div_div_eq_div_mul, hB, Nat.mod_mul_right_div_self]

set_option maxHeartbeats 8000000 in
theorem ref01_Of (b len cap n : Nat) (E : TypeId) (fr : Nat × Nat) (hl : len ≤ 50000) (hn : n < B ^ len) (w0 : World) (hb : w0.heap[b]? = some (.cells (wc len n) E fr)) : GivesB Tryd.prog 45 #[.slice (some ⟨b, 0, none⟩) len cap] n w0 := by
  have hst := (St.start [] w0).add hb (by simp)
  have hown : ∀ w, Keeps [] w0 w → w.heap[b]? = some (.cells (wc len n) E fr) := fun w k => by rw [k.block b (lt_of_some hb) (by simp)]; exact hb
  clear hb
  go_enter Tryd.func45, Tryd.ntmps45
  go_wp2_with ((first | (refine kc hst tc22 rfl ?_) | (refine wl_slice2 (o := ⟨some 23, _, _, _, _, _⟩) hst ts31 te48 rfl rfl (by (simp only [eval_lit, eval_k, eval_f, eval_g, List.getD_cons_succ, List.getD_cons_zero]) <;> rfl) (by (simp only [eval_lit, eval_k, eval_f, eval_g, List.getD_cons_succ, List.getD_cons_zero]) <;> rfl) (by rfl) (by rfl) ?_; clear hst; intro b23 w hb23 hst)); try simp only [pz, pn, sz, sc])
  go_loopw [4, 3] (fun vi vo wr => ∃ (i : Nat) (Lg : List (Nat × Obj)), i ≤ len ∧ vi = .int .i64 i ∧ GRow w0 Lg 48 1 vo (2 * i) (uc (2 * i) (n % C ^ (2 * i))) ∧ St w0 [] ((b, .cells (wc len n) E fr) :: Lg) wr) (fun vi _ _ => len - (intOf vi).toNat)
  case atStart => exact ⟨0, [], by omega, by go_num, GRow.nil _ _ _, hst⟩
  case round =>
    clear hst
    obtain ⟨i, Lg, hi, rfl, hgr, hst⟩ := hrel
    by_cases hlt : i < len
    · obtain ⟨e1, e2⟩ := lb_dg n i
      have s1 := uc_snoc (n % C ^ (2 * i)) (dg n (2 * i)) (2 * i) (Nat.mod_lt _ (Cp_pos _)) (dg_lt _ _)
      rw [← dg_split] at s1
      have s2 := uc_snoc (n % C ^ (2 * i + 1)) (dg n (2 * i + 1)) (2 * i + 1) (Nat.mod_lt _ (Cp_pos _)) (dg_lt _ _)
      rw [← dg_split, ← s1, List.append_assoc] at s2
      rw [e1, e2] at s2
      have hxB := lb_lt n i
      have hcell := wc_get len n i hlt
      obtain ⟨x, hx⟩ : ∃ x, x = lb n i := ⟨_, rfl⟩
      rw [← hx] at s2 hxB
      obtain ⟨d, hd⟩ : ∃ d, d = x % C := ⟨_, rfl⟩
      obtain ⟨p, hp⟩ : ∃ p, p = x / C := ⟨_, rfl⟩
      rw [← hd, ← hp] at s2
      have hpC : p < C := by rw [C_val] at *; rw [B_val] at hxB; omega
      have F1 : IntKind.u32.wrap ((lb n i : Nat) : Int) = (d : Int) := by rw [← hx, u32_wrap, hd]
      have F2 : ((lb n i : Nat) : Int) / 4294967296 = (p : Int) := by rw [← hx]; rw [C_val] at hp; omega
      have F3 : IntKind.u32.wrap (p : Int) = (p : Int) := by rw [u32_wrap, Nat.mod_eq_of_lt hpC]
      have s2' := Lib.hid s2
      have F1' := Lib.hid F1
      have F2' := Lib.hid F2
      have F3' := Lib.hid F3
      have h1 : (i : Int) < (len : Int) := by omega
      have h0 : (0 : Int) ≤ (i : Int) := by omega
      have hi2 : 2 * i ≤ 200000 := by omega
      have hcell' := hcell
      clear e1 e2 s1 s2 hxB hd hp hpC hi hlt hcell F1 F2 F3 hx
      go_wp2_with ((first | (refine kc hst tc22 rfl ?_) | (refine wl_slice2 (o := ⟨some 23, _, _, _, _, _⟩) hst ts31 te48 rfl rfl (by (simp only [eval_lit, eval_k, eval_f, eval_g, List.getD_cons_succ, List.getD_cons_zero]) <;> rfl) (by (simp only [eval_lit, eval_k, eval_f, eval_g, List.getD_cons_succ, List.getD_cons_zero]) <;> rfl) (by rfl) (by rfl) ?_; clear hst; intro b23 w hb23 hst)); try simp only [pz, pn, sz, sc])
      refine wp_region_TV 15 [(b, .cells (wc len n) E fr)] hst (by kernel_rfl) ?_; clear hst; intro w hst; (try dsimp only [List.length_cons, List.length_nil]); (try simp only [List.length_cons, List.length_nil, Nat.reduceAdd, Array.replicate_succ, Array.replicate_zero, List.push_toArray, List.nil_append, List.cons_append])
      refine r0 0 ?_; simp only [pz, pn, sz, sc]
      refine r0 1 ?_; simp only [pz, pn, sz, sc]
      refine r0 2 ?_; simp only [pz, pn, sz, sc]
      refine r0 3 ?_; simp only [pz, pn, sz, sc]
      refine r0 6 ?_; simp only [pz, pn, sz, sc]
      refine r0 7 ?_; simp only [pz, pn, sz, sc]
      refine r0 8 ?_; simp only [pz, pn, sz, sc]
      refine rl 4 rfl ?_ (ylC tc22); simp only [pz, pn, sz, sc]
      refine r0 5 ?_; simp only [pz, pn, sz, sc]
      refine rl 9 rfl ?_ (ylC tc22); simp only [pz, pn, sz, sc]
      refine r0 10 ?_; simp only [pz, pn, sz, sc]
      refine r0 11 ?_; simp only [pz, pn, sz, sc]
      refine r1 12 ?_; (refine wl_slice2 (o := ⟨some 23, _, _, _, _, _⟩) hst ts31 te48 rfl rfl (by (simp only [eval_lit, eval_k, eval_f, eval_g, List.getD_cons_succ, List.getD_cons_zero]) <;> rfl) (by (simp only [eval_lit, eval_k, eval_f, eval_g, List.getD_cons_succ, List.getD_cons_zero]) <;> rfl) (by rfl) (by rfl) ?_; clear hst; intro b23 w hb23 hst); (try simp only [pz, pn, sz, sc]); refine re ?_
      refine r1 13 ?_; (first | (refine wl_append2 (bytes := 4) (o := ⟨some 24, _, _, _, _, _⟩) hgr hst ts31 te48 (show BytesT _ _ _ by unfold BytesT; kernel_rfl) rfl rfl (by rfl) (by rfl) (by repeat (first | exact Tl.here | apply Tl.there)) (by rfl) (by rfl) (by rfl) (by omega) (by omega) ?_; clear hst hgr; intro v24 Lg w hgr hst; (try simp only [List.cons_append, List.nil_append] at hst); (try simp only [pz, pn, sz, sc])) | (refine kp ?_)); (try simp only [pz, pn, sz, sc]); refine re ?_
      refine r0 14 ?_; simp only [pz, pn, sz, sc]
      refine rd_ ?_
      go_wp2_with ((first | (refine kc hst tc22 rfl ?_) | (refine wl_slice2 (o := ⟨some 23, _, _, _, _, _⟩) hst ts31 te48 rfl rfl (by (simp only [eval_lit, eval_k, eval_f, eval_g, List.getD_cons_succ, List.getD_cons_zero]) <;> rfl) (by (simp only [eval_lit, eval_k, eval_f, eval_g, List.getD_cons_succ, List.getD_cons_zero]) <;> rfl) (by rfl) (by rfl) ?_; clear hst; intro b23 w hb23 hst)); try simp only [pz, pn, sz, sc])
      rw [F1'.out, F2'.out, F3'.out] at hgr
      refine ⟨⟨i + 1, _, by omega, by go_num, by rw [show 2 * (i + 1) = 2 * i + 1 + 1 by omega, ← s2'.out]; exact hgr, hst⟩, ?_⟩
      simp [intOf]; omega
    · have hie : i = len := by omega
      subst hie
      have h1 : n < C ^ (2 * i) := by
        have hB : B = C * C := by decide
        have e1 : C ^ (2 * i) = B ^ i := by rw [hB, Nat.mul_pow, ← Nat.pow_add]; congr 1; omega
        rw [e1]; exact hn
      rw [Nat.mod_eq_of_lt h1] at hgr
      obtain ⟨ao, co, rfl, hat, hbi⟩ := hgr.big (L := (b, .cells (wc i n) E fr) :: Lg) h1 (by omega) (fun x h => List.mem_cons_of_mem _ h)
      have htr := fun w hst => ref01_trim ao (2 * i) co n w (hat [] w hst)
      have hi1 : ¬ ((i : Int) < (i : Int)) := by omega
      clear h1 hat hlt hi hgr hn
      go_wp2_with ((first | (refine kg gf43 hst (htr) rfl rfl rfl rfl ?_; clear hst; intro w hst) | (refine kc hst tc22 rfl ?_) | (refine wl_slice2 (o := ⟨some 23, _, _, _, _, _⟩) hst ts31 te48 rfl rfl (by (simp only [eval_lit, eval_k, eval_f, eval_g, List.getD_cons_succ, List.getD_cons_zero]) <;> rfl) (by (simp only [eval_lit, eval_k, eval_f, eval_g, List.getD_cons_succ, List.getD_cons_zero]) <;> rfl) (by rfl) (by rfl) ?_; clear hst; intro b23 w hb23 hst)); try simp only [pz, pn, sz, sc])
      refine bp_t rfl rfl (by rfl) (PostB.of hst hbi (fun x h => List.mem_cons_of_mem _ h))

theorem ref01_Small (n : Nat) (hn : n < B) (w0 : World) : GivesB Tryd.prog 25 #[.int .u64 n] n w0 := by
  have hst := St.start [] w0
  have hof := fun (b : Nat) (w : World) (h : w.heap[b]? = some (.cells (wc 1 n) 22 (0, 0))) => ref01_Of b 1 1 n 22 (0, 0) (by omega) (by simpa using hn) w h
  have h1 := wc_1 n hn
  have h1' := Lib.hid h1
  clear h1 hn
  go_enter Tryd.func25, Tryd.ntmps25
  go_wp2_with ((first | (refine wl_callB (o := ⟨some 5, _, _, _, _, _⟩) gf45 hst (fun w hst => hof _ w (by rw [← h1'.out]; exact hst.own _ _ (by simp))) rfl rfl rfl rfl rfl ?_; clear hst; intro v5 Lg5 w hb5 hst; (try simp only [List.cons_append, List.nil_append, List.append_nil, List.append_assoc] at hst); (try simp only [pz, pn, sz, sc])) | (refine wl_slice1 (o := ⟨some 4, _, _, _, _, _⟩) hst ts77 te22 rfl rfl (by (simp only [eval_lit, eval_k, eval_f, eval_g, List.getD_cons_succ, List.getD_cons_zero]) <;> rfl) (by rfl) ?_; clear hst; intro b4 w hb4 hst)); try simp only [pz, pn, sz, sc])
  all_goals go_outline
  refine bp_t rfl rfl (by rfl) (PostB.of hst hb5 (fun x h => List.mem_cons_of_mem _ h))

end Go.Proofs.YtojjmcghcgidlaaDoor.Rd
