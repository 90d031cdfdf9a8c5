/- What ref01.Odd, ref09.Top, Down answer of a number that is known by comparing. -/
import Derived.Test.YtefpoconpeggpaaGreatDoorL04
import Derived.Test.YtefpoconpeggpaaGreatDoorL10
import Derived.Test.YtefpoconpeggpaaGreatDoorL20
namespace Go.Proofs.YtefpoconpeggpaaGreatDoor.Rd
open Go Go.RowKit
set_option linter.unusedVariables false
set_option linter.unusedSimpArgs false
set_option maxRecDepth 100000

section
variable {P : Program} {ops : Array Oper} {rest : List Oper} {Q : Exit → Act → World → Prop} {a : Act} {w w0 : World} {S : List Nat} {L pre Lg : List (Nat × Obj)}
/-- append of two values of one cell, out of a literal. -/
theorem wl_append2 {o : Oper} {s x : Operand} {t e E' : TypeId} {z v u u' : Value} {n : Nat} {xs : List Value} {sb bytes : Nat} {fr : Nat × Nat} (hg : GRow w0 Lg e 1 v n xs) (hst : St w0 S L w) (hT : SliceT P t e) (he : ElemT P e 1 z) (hby : BytesT P e bytes)
    (hgd : o.guard = none) (ho : o.op = .call { callee := .builtin .append, args := #[s, x], argTypes := #[t, t] }) (hs : a.eval s = v) (hx : a.eval x = .slice (some ⟨sb, 0, none⟩) 2 2)
    (htl : Tl Lg L ((sb, .cells #[u, u'] E' fr) :: pre)) (h1 : u.oneCell' = true) (h1' : u'.oneCell' = true)
    (hz1 : z.cells.size = 1) (hroom : (n + 2) * bytes ≤ 140737488355328) (hroom' : n + 2 ≤ 1000000000000)
    (h : ∀ v' Lg' w', GRow w0 Lg' e 1 v' (n + 2) (xs ++ [u, u']) → St w0 S (pre ++ Lg') w' → wpList P ops Q rest (a.put o.dst v') w') : wpList P ops Q (o :: rest) a w := by
  have hL := htl.eq
  subst hL
  refine wl_append [u, u'] hg hst hT he hby hgd ho hs hx htl (src := #[u, u']) (E' := E') (fr := fr) (by simp) (by simp) (fun j u'' hv => ?_) (by simp [h1, h1']) hz1 (by omega) hroom hroom' fun v' Lg' w' hgr hst' => h v' Lg' w' hgr ?_
  · match j with
    | 0 => simpa using hv
    | 1 => simpa using hv
    | j + 2 => simp at hv
  · exact St.drop hst'
end

theorem lb_dg (n i : Nat) : dg n (2 * i) = lb n i % C ∧ dg n (2 * i + 1) = lb n i / C := by
  have hB : B = C * C := by decide
  have e1 : C ^ (2 * i) = B ^ i := by rw [hB, Nat.mul_pow, ← Nat.pow_add]; congr 1; omega
  unfold dg lb
  constructor
  · rw [e1, hB, Nat.mod_mul_left_mod]
  · rw [Nat.pow_succ, e1, ← Nat.div_div_eq_div_mul, hB, Nat.mod_mul_right_div_self]

set_option maxHeartbeats 8000000 in
theorem ref01_Of (b len cap n : Nat) (E : TypeId) (fr : Nat × Nat) (hl : len ≤ 50000) (hn : n < B ^ len) (w0 : World) (hb : w0.heap[b]? = some (.cells (wc len n) E fr)) : GivesB Tryz.prog 65 #[.slice (some ⟨b, 0, none⟩) len cap] n w0 := by
  have hst := (St.start [] w0).add hb (by simp)
  have hown : ∀ w, Keeps [] w0 w → w.heap[b]? = some (.cells (wc len n) E fr) := fun w k => by rw [k.block b (lt_of_some hb) (by simp)]; exact hb
  clear hb
  go_enter Tryz.func65, Tryz.ntmps65
  go_wp2_with fail
  go_loopw [4, 3] (fun vi vo wr => ∃ (i : Nat) (Lg : List (Nat × Obj)), i ≤ len ∧ vi = .int .i64 i ∧ GRow w0 Lg 72 1 vo (2 * i) (uc (2 * i) (n % C ^ (2 * i))) ∧ St w0 [] ((b, .cells (wc len n) E fr) :: Lg) wr) (fun vi _ _ => len - (intOf vi).toNat)
  case atStart => exact ⟨0, [], by omega, by go_num, GRow.nil _ _ _, hst⟩
  case round =>
    clear hst
    obtain ⟨i, Lg, hi, rfl, hgr, hst⟩ := hrel
    by_cases hlt : i < len
    · obtain ⟨e1, e2⟩ := lb_dg n i
      have s1 := uc_snoc (n % C ^ (2 * i)) (dg n (2 * i)) (2 * i) (Nat.mod_lt _ (Cp_pos _)) (dg_lt _ _)
      rw [← dg_split] at s1
      have s2 := uc_snoc (n % C ^ (2 * i + 1)) (dg n (2 * i + 1)) (2 * i + 1) (Nat.mod_lt _ (Cp_pos _)) (dg_lt _ _)
      rw [← dg_split, ← s1, List.append_assoc] at s2
      rw [e1, e2] at s2
      have hxB := lb_lt n i
      have hcell := wc_get len n i hlt
      obtain ⟨x, hx⟩ : ∃ x, x = lb n i := ⟨_, rfl⟩
      rw [← hx] at s2 hxB
      obtain ⟨d, hd⟩ : ∃ d, d = x % C := ⟨_, rfl⟩
      obtain ⟨p, hp⟩ : ∃ p, p = x / C := ⟨_, rfl⟩
      rw [← hd, ← hp] at s2
      have hpC : p < C := by rw [C_val] at *; rw [B_val] at hxB; omega
      have F1 : IntKind.u32.wrap ((lb n i : Nat) : Int) = (d : Int) := by rw [← hx, u32_wrap, hd]
      have F2 : ((lb n i : Nat) : Int) / 4294967296 = (p : Int) := by rw [← hx]; rw [C_val] at hp; omega
      have F3 : IntKind.u32.wrap (p : Int) = (p : Int) := by rw [u32_wrap, Nat.mod_eq_of_lt hpC]
      have s2' := Lib.hid s2
      have F1' := Lib.hid F1
      have F2' := Lib.hid F2
      have F3' := Lib.hid F3
      have h1 : (i : Int) < (len : Int) := by omega
      have h0 : (0 : Int) ≤ (i : Int) := by omega
      have hi2 : 2 * i ≤ 200000 := by omega
      have hcell' := hcell
      clear e1 e2 s1 s2 hxB hd hp hpC hi hlt hcell F1 F2 F3 hx
      go_wp2_with fail
      refine wp_region_TV 15 [(b, .cells (wc len n) E fr)] hst (by kernel_rfl) ?_; clear hst; intro w hst; (try simp only [List.length_cons, List.length_nil, Nat.reduceAdd, Array.replicate_succ, Array.replicate_zero, List.push_toArray, List.nil_append, List.cons_append])
      refine r0 0 ?_; simp only [pz, pn, sz, sc]
      refine r0 1 ?_; simp only [pz, pn, sz, sc]
      refine r0 2 ?_; simp only [pz, pn, sz, sc]
      refine r0 3 ?_; simp only [pz, pn, sz, sc]
      refine r0 6 ?_; simp only [pz, pn, sz, sc]
      refine r0 7 ?_; simp only [pz, pn, sz, sc]
      refine r0 8 ?_; simp only [pz, pn, sz, sc]
      refine rl 4 rfl ?_ (ylC tc22); simp only [pz, pn, sz, sc]
      refine r0 5 ?_; simp only [pz, pn, sz, sc]
      refine rl 9 rfl ?_ (ylC tc22); simp only [pz, pn, sz, sc]
      refine r0 10 ?_; simp only [pz, pn, sz, sc]
      refine r0 11 ?_; simp only [pz, pn, sz, sc]
      refine r1 12 ?_; (refine wl_slice2 (o := ⟨some 23, _, _, _, _, _⟩) hst ts39 te72 rfl rfl (by (simp only [eval_lit, eval_k, eval_f, eval_g, List.getD_cons_succ, List.getD_cons_zero]) <;> rfl) (by (simp only [eval_lit, eval_k, eval_f, eval_g, List.getD_cons_succ, List.getD_cons_zero]) <;> rfl) (by rfl) (by rfl) ?_; clear hst; intro b23 w hb23 hst); (try simp only [pz, pn, sz, sc]); refine re ?_
      refine r1 13 ?_; (refine wl_append2 (bytes := 4) (o := ⟨some 24, _, _, _, _, _⟩) hgr hst ts39 te72 (show BytesT _ _ _ by unfold BytesT; kernel_rfl) rfl rfl (by rfl) (by rfl) (by repeat (first | exact Tl.here | apply Tl.there)) (by rfl) (by rfl) (by rfl) (by omega) (by omega) ?_; clear hst hgr; intro v24 Lg w hgr hst; (try simp only [List.cons_append, List.nil_append] at hst); (try simp only [pz, pn, sz, sc])); (try simp only [pz, pn, sz, sc]); refine re ?_
      refine r0 14 ?_; simp only [pz, pn, sz, sc]
      refine rd_ ?_
      go_wp2_with fail
      rw [F1'.out, F2'.out, F3'.out] at hgr
      refine ⟨⟨i + 1, _, by omega, by go_num, by rw [show 2 * (i + 1) = 2 * i + 1 + 1 by omega, ← s2'.out]; exact hgr, hst⟩, ?_⟩
      simp [intOf]; omega
    · have hie : i = len := by omega
      subst hie
      have h1 : n < C ^ (2 * i) := by
        have hB : B = C * C := by decide
        have e1 : C ^ (2 * i) = B ^ i := by rw [hB, Nat.mul_pow, ← Nat.pow_add]; congr 1; omega
        rw [e1]; exact hn
      rw [Nat.mod_eq_of_lt h1] at hgr
      obtain ⟨ao, co, rfl, hat, hbi⟩ := hgr.big (L := (b, .cells (wc i n) E fr) :: Lg) h1 (by omega) (fun x h => List.mem_cons_of_mem _ h)
      have htr := fun w hst => ref01_trim ao (2 * i) co n w (hat [] w hst)
      have hi1 : ¬ ((i : Int) < (i : Int)) := by omega
      clear h1 hat hlt hi hgr hn
      go_wp2_with ((first | (refine kg gf41 hst (htr) rfl rfl rfl rfl ?_; clear hst; intro w hst)); try simp only [pz, pn, sz, sc])
      refine bp_t rfl rfl (by rfl) (PostB.of hst hbi (fun x h => List.mem_cons_of_mem _ h))

theorem ref01_Small (n : Nat) (hn : n < B) (w0 : World) : GivesB Tryz.prog 33 #[.int .u64 n] n w0 := by
  have hst := St.start [] w0
  have hof := fun (b : Nat) (w : World) (h : w.heap[b]? = some (.cells (wc 1 n) 22 (0, 0))) => ref01_Of b 1 1 n 22 (0, 0) (by omega) (by simpa using hn) w h
  have h1 := wc_1 n hn
  have h1' := Lib.hid h1
  clear h1 hn
  go_enter Tryz.func33, Tryz.ntmps33
  go_wp2_with ((first | (refine wl_callB (o := ⟨some 5, _, _, _, _, _⟩) gf65 hst (fun w hst => hof _ w (by rw [← h1'.out]; exact hst.own _ _ (by simp))) rfl rfl rfl rfl rfl ?_; clear hst; intro v5 Lg5 w hb5 hst; (try simp only [List.cons_append, List.nil_append, List.append_nil, List.append_assoc] at hst); (try simp only [pz, pn, sz, sc])) | (refine wl_slice1 (o := ⟨some 4, _, _, _, _, _⟩) hst ts123 te22 rfl rfl (by (simp only [eval_lit, eval_k, eval_f, eval_g, List.getD_cons_succ, List.getD_cons_zero]) <;> rfl) (by rfl) ?_; clear hst; intro b4 w hb4 hst)); try simp only [pz, pn, sz, sc])
  all_goals go_outline
  refine bp_t rfl rfl (by rfl) (PostB.of hst hb5 (fun x h => List.mem_cons_of_mem _ h))

end Go.Proofs.YtefpoconpeggpaaGreatDoor.Rd

namespace Go.Proofs.YtefpoconpeggpaaGreatDoor.Rd
open Go Go.RowKit
set_option linter.unusedVariables false
set_option linter.unusedSimpArgs false
set_option maxRecDepth 100000

set_option maxHeartbeats 8000000 in
theorem ref01_Add (va vb : Value) (la lb' a b : Nat) (w0 : World) (ha : BigAt w0 va la a) (hb : BigAt w0 vb lb' b) (hla : la ≤ 100000) (hlb : lb' ≤ 100000) : GivesB Tryz.prog 17 #[va, vb] (a + b) w0 := by
  have hst := St.start [] w0
  have hda := fun (i : Nat) (hi : i ≤ 1000000) (w : World) (hst : Keeps [] w0 w) => ref01_digit va la a i hi w (ha.keep hst)
  have hdb := fun (i : Nat) (hi : i ≤ 1000000) (w : World) (hst : Keeps [] w0 w) => ref01_digit vb lb' b i hi w (hb.keep hst)
  obtain ⟨han, _, aa, capa, rfl, _, _⟩ := ha
  obtain ⟨hbn, _, ab, capb, rfl, _, _⟩ := hb
  obtain ⟨mx, hmx⟩ : ∃ mx, mx = max la lb' := ⟨_, rfl⟩
  have hmx' : (if (lb' : Int) ≤ (la : Int) then (la : Int) else (lb' : Int)) = (mx : Int) := by split <;> omega
  have h1 : a < C ^ mx := Nat.lt_of_lt_of_le han (Nat.pow_le_pow_right C_pos (by omega))
  have h2 : b < C ^ mx := Nat.lt_of_lt_of_le hbn (Nat.pow_le_pow_right C_pos (by omega))
  go_enter Tryz.func17, Tryz.ntmps17
  go_wp2_with fail
  go_loopw [7, 6, 5] (fun vi vc vo wr => ∃ (i c s : Nat) (Lg : List (Nat × Obj)), i ≤ mx + 1 ∧ vi = .int .i64 i ∧ vc = .int .u64 c ∧ c ≤ 1 ∧ s < C ^ i ∧ s + c * C ^ i = a % C ^ i + b % C ^ i ∧ GRow w0 Lg 72 1 vo i (uc i s) ∧ St w0 [] Lg wr) (fun vi _ _ _ => mx + 1 - (intOf vi).toNat)
  case atStart => exact ⟨0, 0, 0, [], by omega, rfl, rfl, by omega, by simp, by simp [Nat.mod_one], GRow.nil _ _ _, hst⟩
  case round =>
    clear hst
    obtain ⟨i, c, s, Lg, hi, rfl, rfl, hc, hs, he, hgr, hst⟩ := hrel
    by_cases hle : i ≤ mx
    · have hdai := hda i (by omega)
      have hdbi := hdb i (by omega)
      have hsa := dg_split a i
      have hsb := dg_split b i
      have hx := dg_lt a i
      have hy := dg_lt b i
      generalize dg a i = x at *
      generalize dg b i = y at *
      obtain ⟨t1, ht1⟩ : ∃ t1, t1 = c + x := ⟨_, rfl⟩
      obtain ⟨t2, ht2⟩ : ∃ t2, t2 = t1 + y := ⟨_, rfl⟩
      obtain ⟨r, hr⟩ : ∃ r, r = t2 % C := ⟨_, rfl⟩
      obtain ⟨q, hq⟩ : ∃ q, q = t2 / C := ⟨_, rfl⟩
      have hrC : r < C := by rw [hr]; exact Nat.mod_lt _ C_pos
      have hsn := uc_snoc s r i hs hrC
      have hsl := add_lt_C s r i hs hrC
      have hqr : C * q + r = t2 := by rw [hq, hr]; exact Nat.div_add_mod _ _
      rw [C_val] at hx hy hqr hrC hr hq
      have F1 : IntKind.u64.wrap ((c : Int) + (x : Int)) = (t1 : Int) := u64_wrap' _ t1 _ (by omega) (by rw [B_val]; omega)
      have F2 : IntKind.u64.wrap ((t1 : Int) + (y : Int)) = (t2 : Int) := u64_wrap' _ t2 _ (by omega) (by rw [B_val]; omega)
      have F3 : IntKind.u32.wrap (t2 : Int) = (r : Int) := by rw [u32_wrap, C_val, hr]
      have F4 : (t2 : Int) / 4294967296 = (q : Int) := by omega
      have hq1 : q ≤ 1 := by omega
      have he' : s + r * C ^ i + q * C ^ (i + 1) = a % C ^ (i + 1) + b % C ^ (i + 1) := by
        rw [hsa, hsb]
        have : t2 * C ^ i = c * C ^ i + x * C ^ i + y * C ^ i := by rw [ht2, ht1, Nat.add_mul, Nat.add_mul]
        have e2 : q * C ^ (i + 1) + r * C ^ i = t2 * C ^ i := by
          rw [← hqr, Nat.add_mul, Nat.pow_succ', ← Nat.mul_assoc, Nat.mul_comm q, C_val]
        omega
      have hsn' := Lib.hid hsn
      have he'' := Lib.hid he'
      have hi1 : (i : Int) ≤ (mx : Int) := by omega
      have hi2 : i ≤ 100000 := by omega
      clear he hsa hsb hx hy ht1 ht2 hr hq hqr hrC hsn he' hs hc hle hi
      go_wp2_with ((first | (refine kg gf40 hst (fun w hst => hdai w hst.keeps) rfl rfl rfl rfl ?_; clear hst; intro w hst) | (refine kg gf40 hst (fun w hst => hdbi w hst.keeps) rfl rfl rfl rfl ?_; clear hst; intro w hst) | (refine wl_append1 (bytes := 4) (o := ⟨some 30, _, _, _, _, _⟩) hgr hst ts39 te72 (show BytesT _ _ _ by unfold BytesT; kernel_rfl) rfl rfl (by rfl) (by rfl) (by repeat (first | exact Tl.here | apply Tl.there)) (by rfl) (by rfl) (by omega) (by omega) ?_; clear hst hgr; intro v30 Lg w hgr hst; (try simp only [List.cons_append, List.nil_append] at hst); (try simp only [pz, pn, sz, sc])) | (refine wl_slice1 (o := ⟨some 29, _, _, _, _, _⟩) hst ts39 te72 rfl rfl (by (simp only [eval_lit, eval_k, eval_f, eval_g, List.getD_cons_succ, List.getD_cons_zero]) <;> rfl) (by rfl) ?_; clear hst; intro b29 w hb29 hst)); try simp only [pz, pn, sz, sc])
      refine ⟨⟨i + 1, q, s + r * C ^ i, _, by omega, by go_num, rfl, hq1, hsl, he''.out, by rw [← hsn'.out]; exact hgr, hst⟩, ?_⟩
      simp [intOf]; omega
    · have hie : i = mx + 1 := by omega
      subst hie
      have hp : C ^ mx * 2 ≤ C ^ (mx + 1) := by rw [Nat.pow_succ]; exact Nat.mul_le_mul_left _ (by rw [C_val]; omega)
      rw [Nat.mod_eq_of_lt (show a < C ^ (mx + 1) by omega), Nat.mod_eq_of_lt (show b < C ^ (mx + 1) by omega)] at he
      have hc0 : c = 0 := by
        rcases Nat.eq_zero_or_pos c with h | h
        · exact h
        · have : 1 * C ^ (mx + 1) ≤ c * C ^ (mx + 1) := Nat.mul_le_mul_right _ h
          omega
      subst hc0
      rw [Nat.zero_mul, Nat.add_zero] at he
      subst he
      obtain ⟨ao, co, rfl, hat, hbi⟩ := hgr.big (L := Lg) hs (by omega) (fun x h => h)
      have htr := fun w hst => ref01_trim ao (mx + 1) co (a + b) w (hat [] w hst)
      have hi1 : ¬ ((mx : Int) + 1 ≤ (mx : Int)) := by omega
      have hi2 : ((mx + 1 : Nat) : Int) = (mx : Int) + 1 := by omega
      rw [hi2]
      clear hs hp hi hle h1 h2 hi2 hat
      go_wp2_with ((first | (refine kg gf41 hst (htr) rfl rfl rfl rfl ?_; clear hst; intro w hst)); try simp only [pz, pn, sz, sc])
      refine bp_t rfl rfl (by rfl) (PostB.of hst hbi (fun x h => h))

end Go.Proofs.YtefpoconpeggpaaGreatDoor.Rd

namespace Go.Proofs.YtefpoconpeggpaaGreatDoor.Rd
open Go Go.RowKit
set_option linter.unusedVariables false
set_option linter.unusedSimpArgs false
set_option maxRecDepth 100000

section
variable {P : Program} {ops : Array Oper} {rest : List Oper} {Q : Exit → Act → World → Prop} {a : Act} {w w0 : World} {S : List Nat} {L : List (Nat × Obj)}
theorem wl_slice0 {o : Oper} {T e : TypeId} {z : Value} (hst : St w0 S L w) (hu : SliceT P T e) (he : ElemT P e 1 z) (hg : o.guard = none) (ho : o.op = .buildSlice T 0 #[])
    (h : ∀ b w', w0.heap.size ≤ b → St w0 S ((b, .cells #[] e) :: L) w' → wpList P ops Q rest (a.put o.dst (.slice (some ⟨b, 0, none⟩) 0 0)) w') : wpList P ops Q (o :: rest) a w := by
  obtain ⟨i, hi, hisz, hz⟩ := he
  have e1 : Array.range 0 = #[] := by decide
  have hr : (Instr.buildSlice T 0 #[]).run P w = .ok (.slice (some ⟨w.heap.size, 0, none⟩) 0 0) (w.alloc (.cells #[] e)) := by
    simp [Instr.buildSlice, run_underlying (show P.underlying T = some (.slice e) from hu), sizeOf, typeInfo, hi, Instr.fill, newRow, e1]
  refine wpList_plain hg fun K hK => ?_
  unfold Oper.wp execOp
  simp only [ho, Sem.run_bind, List.map_toArray, List.map_nil, hr, Sem.run_pure, Result.andThen_ok]
  exact hK _ _ (h _ _ hst.keeps.size (hst.alloc _))
end
theorem BigIn.zero (s : Nat) (a : Option Addr) (c : Nat) : BigIn s [] (.slice a 0 c) 0 := ⟨by simp, by simp, by rw [dl_zero]; omega, a, c, rfl, by rw [dl_zero]; omega, fun h => by rw [dl_zero] at h; omega⟩
theorem dl_B (x : Nat) (h : x < B) : dl x ≤ 2 := dl_le.2 (by rw [show C ^ 2 = B from rfl]; exact h)
theorem B_pow (i : Nat) : B ^ i = 2 ^ (64 * i) := by rw [show B = 2 ^ 64 from rfl, ← Nat.pow_mul]
theorem M_C : M = C ^ 16 := by decide

set_option maxHeartbeats 4000000 in
theorem ref02_Big (n : Nat) (hn : n < M) (w0 : World) : GivesB Tryz.prog 16 #[W n] n w0 := by
  have hst := St.start [] w0
  go_enter Tryz.func16, Tryz.ntmps16
  go_wp2_with ((first | (refine kb 1 hst rfl rfl ?_; clear hst; intro b1 w hb1 hst) | (refine wl_slice0 (o := ⟨some 5, _, _, _, _, _⟩) hst (show SliceT _ 39 72 by unfold SliceT; kernel_rfl) (show ElemT Tryz.prog 72 1 (.int .u32 0) from ElemT.of (by kernel_rfl)) rfl rfl ?_; clear hst; intro b5 w hb5 hst)); try simp only [pz, pn, sz, sc])
  go_loopw [4, 3] (fun vi vb wr => ∃ (i : Nat) (Lb : List (Nat × Obj)), i ≤ 8 ∧ vi = .int .i64 i ∧ BigIn w0.heap.size Lb vb (n % B ^ i) ∧ St w0 [] ((b1, .cells (wc 8 n) 44) :: Lb) wr) (fun vi _ _ => 8 - (intOf vi).toNat)
  case atStart => exact ⟨0, [], by omega, rfl, by rw [Nat.pow_zero, Nat.mod_one]; exact BigIn.zero _ _ _, hst.drop⟩
  case round =>
    clear hst
    obtain ⟨i, Lb, hi, rfl, hbb, hst⟩ := hrel
    by_cases hlt : i < 8
    · have h0 : (0 : Int) ≤ (i : Int) := by omega
      have h1 : (i : Int) < 8 := by omega
      have hs := ref01_Small (lb n i) (lb_lt _ _)
      have hd := dl_B (lb n i) (lb_lt _ _)
      have hshl : ∀ v w (h : BigAt w v (dl (lb n i)) (lb n i)), GivesB Tryz.prog 18 #[v, .int .i64 (64 * (i : Int))] (lb n i * B ^ i) w := fun v w h => by
        have := ref01_Shl v _ _ (64 * i) w h (by omega) (by omega)
        rw [← B_pow, show ((64 * i : Nat) : Int) = 64 * (i : Int) by omega] at this
        exact this
      have hlow : n % B ^ i < C ^ 16 := by rw [← M_C]; exact Nat.lt_of_le_of_lt (Nat.mod_le _ _) hn
      have hsum : lb n i * B ^ i < C ^ 16 := by
        rw [← M_C]
        exact Nat.lt_of_le_of_lt (Nat.le_trans (by rw [lb_split]; exact Nat.le_add_left _ _) (Nat.mod_le n (B ^ (i + 1)))) hn
      have hadd : ∀ va vb w (ha : BigAt w va (dl (n % B ^ i)) (n % B ^ i)) (hb : BigAt w vb (dl (lb n i * B ^ i)) (lb n i * B ^ i)), GivesB Tryz.prog 17 #[va, vb] (n % B ^ (i + 1)) w := fun va vb w ha hb => by
        have := ref01_Add va vb _ _ _ _ w ha hb (Nat.le_trans (dl_le.2 hlow) (by omega)) (Nat.le_trans (dl_le.2 hsum) (by omega))
        rwa [← lb_split] at this
      clear hd hlow hsum hi hlt
      go_wp2_with ((first | (refine wl_callB (o := ⟨some 14, _, _, _, _, _⟩) gf33 hst (fun w hst => hs w) rfl rfl rfl rfl rfl ?_; clear hst; intro v14 Lg14 w hb14 hst; (try simp only [List.cons_append, List.nil_append, List.append_nil, List.append_assoc] at hst); (try simp only [pz, pn, sz, sc])) | (refine wl_callB (o := ⟨some 17, _, _, _, _, _⟩) gf18 hst (fun w hst => hshl _ w (hb14.at hst (fun x h => by simp [h]))) rfl rfl rfl rfl rfl ?_; clear hst; intro v17 Lg17 w hb17 hst; (try simp only [List.cons_append, List.nil_append, List.append_nil, List.append_assoc] at hst); (try simp only [pz, pn, sz, sc])) | (refine wl_callB (o := ⟨some 18, _, _, _, _, _⟩) gf17 hst (fun w hst => hadd _ _ w (hbb.at hst (fun x h => by simp [h])) (hb17.at hst (fun x h => by simp [h]))) rfl rfl rfl rfl rfl ?_; clear hst; intro v18 Lg18 w hb18 hst; (try simp only [List.cons_append, List.nil_append, List.append_nil, List.append_assoc] at hst); (try simp only [pz, pn, sz, sc])) | (refine kc hst tc22 rfl ?_)); try simp only [pz, pn, sz, sc])
      go_roundw
      case rel => exact ⟨i + 1, Lg18, by omega, by go_num, hb18, hst.sub (by repeat (first | exact List.Sublist.refl _ | refine List.Sublist.cons_cons _ ?_ | refine List.Sublist.trans ?_ (List.sublist_append_right _ _)))⟩
      case measure => simp [intOf]; omega
    · have hie : i = 8 := by omega
      subst hie
      rw [← M_eq, Nat.mod_eq_of_lt hn] at hbb
      have hi1 : ¬ ((8 : Int) < 8) := by omega
      go_wp2_with fail
      refine bp_t rfl rfl (by rfl) (PostB.of hst hbb (fun x h => by simp [h]))

end Go.Proofs.YtefpoconpeggpaaGreatDoor.Rd

namespace Go.Proofs.YtefpoconpeggpaaGreatDoor.Rd
open Go Go.RowKit
set_option linter.unusedVariables false
set_option linter.unusedSimpArgs false
set_option maxRecDepth 100000

/-- A real number above 0: a value with two numbers of any length. -/
def RlV (ng : Bool) (k : Nat) (vN vD : Value) (E : Int) : Value := .agg #[.bool ng, .int .i64 k, vN, vD, .int .i64 E]
def RR (ng : Bool) (k : Nat) (N D : Nat) (E : Int) (Lg : List (Nat × Obj)) (v : Value) : Prop :=
  ∃ sN sD LN LD, v = RlV ng k sN sD E ∧ BigIn 0 LN sN N ∧ BigIn 0 LD sD D ∧ (∀ x ∈ LN, x ∈ Lg) ∧ (∀ x ∈ LD, x ∈ Lg)
theorem build_real (k : Int) (a : Option Addr) (l c : Nat) (a' : Option Addr) (l' c' : Nat) (e : Int) (w : World) : (Instr.build 41 (List.toArray [(1, .int .i64 k), (2, .slice a l c), (3, .slice a' l' c'), (4, .int .i64 e)])).run Tryz.prog w = .ok (.agg #[.bool false, .int .i64 k, .slice a l c, .slice a' l' c', .int .i64 e]) w := by kernel_rfl

theorem NewIn.add {s : Nat} {L1 L2 : List (Nat × Obj)} (h1 : NewIn s L1) (h2 : NewIn s L2) (h : ((L1 ++ L2).map Prod.fst).Nodup) : NewIn s (L1 ++ L2) :=
  ⟨fun x hx => by rcases List.mem_append.1 hx with hx | hx; exact h1.1 x hx; exact h2.1 x hx, h⟩

set_option maxHeartbeats 2000000 in
theorem ref25_Real (f : Nat) (h1 : 1 ≤ f) (h4 : f ≤ 4) (m : Nat) (hm : m < M2) (hf : m < 2 ^ fB f) (w0 : World) : GivesN Tryz.prog 13 #[.int .i64 f, Wd m] (RR false 2 (wSig f m) 1 (wExp f m)) w0 := by
  have hst := St.start [] w0
  have hv := ref07_Value f h1 h4 m hm hf
  have hP := fP_in f
  have hsM : wSig f m < M := Nat.lt_trans (wSig_lt f m) (small_M2 _ (by omega))
  have hbig := fun w => ref02_Big (wSig f m) hsM w
  have hone := fun w => ref01_Small 1 (by decide) w
  have y1 := nbC_size (wNeg f m) (wExp f m) (wSig f m)
  have y2 := nbC_one (wNeg f m) (wExp f m) (wSig f m)
  have hb := build_real
  clear hP hsM hm hf h1 h4
  unfold nbC at *
  generalize wSig f m = n at *
  generalize wExp f m = e at *
  generalize wNeg f m = ng at *
  go_enter Tryz.func13, Tryz.ntmps13
  go_wp2_with ((first | (refine kf gf14 hst (hv) rfl rfl rfl rfl ?_; clear hst; intro w hst) | (refine kb 3 hst rfl rfl ?_; clear hst; intro b3 w hb3 hst) | (refine ka 4 hst tz41 rfl rfl ?_; clear hst; intro b4 w hb4 hst) | (refine kl hst ta24 rfl ?_) | (refine ka 5 hst tz46 rfl rfl ?_; clear hst; intro b5 w hb5 hst) | (refine kt hst ta46 rfl rfl ?_; clear hst; intro w hst)); try simp only [pz, pn, sz, sc])
  refine wp_region_T 7  hst (by kernel_rfl) ?_; clear hst; intro w hst; (try simp only [List.length_cons, List.length_nil, Nat.reduceAdd, Array.replicate_succ, Array.replicate_zero, List.push_toArray, List.nil_append, List.cons_append])
  refine r0 0 ?_; simp only [pz, pn, sz, sc]
  refine r0 4 ?_; simp only [pz, pn, sz, sc]
  refine rl 1 rfl ?_ (by first | exact ylA ta44 | exact ylM ta44); simp only [pz, pn, sz, sc]
  refine rl 5 rfl ?_ (ylC tc3); simp only [pz, pn, sz, sc]
  refine r1 2 ?_; (refine wl_callB (o := ⟨some 11, _, _, _, _, _⟩) gf16 hst (fun w hst => hbig w) rfl rfl rfl rfl rfl ?_; clear hst; intro v11 Lg11 w hb11 hst; (try simp only [List.cons_append, List.nil_append, List.append_nil, List.append_assoc] at hst); obtain ⟨a11, x11, y11, rfl⟩ := hb11.slice); (try simp only [pz, pn, sz, sc]); refine re ?_
  refine r1 3 ?_; (refine wl_callB (o := ⟨some 12, _, _, _, _, _⟩) gf33 hst (fun w hst => hone w) rfl rfl rfl rfl rfl ?_; clear hst; intro v12 Lg12 w hb12 hst; (try simp only [List.cons_append, List.nil_append, List.append_nil, List.append_assoc] at hst); obtain ⟨a12, x12, y12, rfl⟩ := hb12.slice); (try simp only [pz, pn, sz, sc]); refine re ?_
  refine r0 6 ?_ (hy := yB ((fun w => hb _ _ _ _ _ _ _ _ w))); simp only [pz, pn, sz, sc]
  refine r1 7 ?_; (refine kt hst ta41 rfl rfl ?_; clear hst; intro w hst); (try simp only [pz, pn, sz, sc]); refine re ?_
  refine rd_ ?_
  · go_wp2_with fail
    have hn := hst.nodup
    simp only [List.map_cons, List.nodup_cons] at hn
    exact bp_c rfl rfl (la hst ta41) (PostN.of hst (NewIn.add hb11.new hb12.new hn.2.2.2) ⟨_, _, _, _, rfl, hb11.any, hb12.any, fun x h => by simp [h], fun x h => by simp [h]⟩ (fun x h => by simp [h]))

end Go.Proofs.YtefpoconpeggpaaGreatDoor.Rd

namespace Go.Proofs.YtefpoconpeggpaaGreatDoor.Rd
open Go Go.RowKit
set_option linter.unusedVariables false
set_option linter.unusedSimpArgs false
set_option maxRecDepth 100000

/-- x is held against m times 2^k as c says. -/
def CmpIs (x : Value) (c : Nat → Int → Int) (w0 : World) : Prop :=
  ∀ w, Keeps [] w0 w → ∀ (vm : Value) (lm m : Nat) (k : Int), BigAt w vm lm m → lm ≤ 300 → -40000000 ≤ k → k ≤ 40000000 → GivesAt Tryz.prog 15 #[vm, .int .i64 k, x] (.int .i64 (c m k)) w
theorem CmpIs.keep {x : Value} {c : Nat → Int → Int} {w0 w : World} (h : CmpIs x c w0) (k : Keeps [] w0 w) : CmpIs x c w := fun w' k' => h w' (k.trans k' (by simp))

theorem dl_2pow (x k : Nat) (h : x < 2 ^ k) : dl x ≤ k / 32 + 1 := by
  apply dl_le.2
  rw [show C = 2 ^ 32 from rfl, ← Nat.pow_mul]
  exact Nat.lt_of_lt_of_le h (Nat.pow_le_pow_right (by omega) (by omega))

end Go.Proofs.YtefpoconpeggpaaGreatDoor.Rd
