/- What the reference's Hex of chapter 4 answers. -/
import Derived.Test.YtojjmcghcgidlaaDoorReJ
import Derived.Test.YtojjmcghcgidlaaDoorReC
import Derived.Test.YtojjmcghcgidlaaDoorRdZ
import Derived.Test.YtojjmcghcgidlaaDoorRdO
import Derived.Laws.DeepStrings4
import Derived.Laws.Concat
namespace Go.Proofs.YtojjmcghcgidlaaDoor.Rd
open Go Go.RowKit
set_option linter.unusedVariables false
set_option linter.unusedSimpArgs false
set_option maxRecDepth 100000

section
variable {P : Program} {ops : Array Oper} {rest : List Oper} {Q : Exit → Act → World → Prop} {a : Act} {w : World}
theorem wl_strslice {o : Oper} {T : TypeId} {x lo hi : Operand} {i j : Int} {s s' : ByteArray} (hT : P.underlying T = some .string) (hg : o.guard = none) (ho : o.op = .slice T x (some lo) (some hi) none)
    (hx : a.eval x = .string s) (hlo : a.eval lo = .int .i64 i) (hhi : a.eval hi = .int .i64 j) (h0 : 0 ≤ i) (h1 : i ≤ j) (h2 : j ≤ (s.size : Int)) (he : s.extract i.toNat j.toNat = s')
    (h : wpList P ops Q rest (a.put o.dst (.string s')) w) : wpList P ops Q (o :: rest) a w := by
  have hr := run_slice_string_if (P := P) (w := w) T s .i64 .i64 i j hT
  rw [if_pos ⟨by omega, h2⟩, if_pos ⟨h0, h1⟩, he] at hr
  have hr' : (Instr.sliceAt T (.string s) (some (.int .i64 i)) (some (.int .i64 j)) none).run P w = .ok (.string s') w := by
    simpa [Instr.sliceAt, run_underlying hT, Sem.run_bind] using hr
  refine wpList_plain hg fun K hK => ?_
  unfold Oper.wp execOp
  simp only [ho, hx, Option.map_some, Option.map_none, hlo, hhi, Sem.run_bind, hr', Sem.run_pure, Result.andThen_ok]
  exact hK _ _ h
theorem wl_concat {o : Oper} {T R : TypeId} {x y : Operand} {s s' : ByteArray} (hg : o.guard = none) (ho : o.op = .binOp .add T x y R) (hx : a.eval x = .string s) (hy : a.eval y = .string s') (hsz : s.size + s'.size ≤ 9223372036854775807)
    (h : wpList P ops Q rest (a.put o.dst (.string (s ++ s'))) w) : wpList P ops Q (o :: rest) a w := by
  have h1 : (binOp .add T (.string s) (.string s')).run P w = .ok (.string (s ++ s')) w := by
    rw [binOp_string_add]; exact run_string_add_sum w s s' hsz
  have h2 : (eqGuard .add T x y (.string s) (.string s')).run P w = .ok () w := by simp [eqGuard]
  refine wpList_plain hg fun K hK => ?_
  unfold Oper.wp execOp
  simp only [ho, hx, hy, Sem.run_bind, h1, h2, Sem.run_pure, Result.andThen_ok]
  exact hK _ _ h
end
theorem hexs_cut : ∀ d : Nat, d < 16 → hexs.extract d (d + 1) = ⟨#[hexu d]⟩ := by decide +kernel

/-- The lowest j digits' text. -/
def tx (d n j : Nat) : List UInt8 := (List.range j).map fun i => hexu (n / d ^ (j - 1 - i) % d)
theorem tx_eq (d n k : Nat) : tx d n k = txt d n k := rfl
theorem tx_succ (d n j : Nat) : tx d n (j + 1) = hexu (n / d ^ j % d) :: tx d n j := by
  unfold tx
  rw [List.range_succ_eq_map]
  simp only [List.map_cons, List.map_map]
  congr 1
  apply List.map_congr_left
  intro i hi
  simp only [Function.comp, Nat.succ_eq_add_one]
  rw [show j + 1 - 1 - (i + 1) = j - 1 - i by omega]
theorem bl_pos_iff (n : Nat) : 0 < bl n ↔ n ≠ 0 := by
  constructor
  · intro h h0; subst h0; exact absurd h (by decide)
  · exact bl_pos
theorem dg0 (n : Nat) : dg n 0 % 16 = n % 16 := by
  unfold dg
  rw [Nat.pow_zero, Nat.div_one, show C = 16 * 268435456 from rfl, Nat.mod_mul_right_mod]

set_option maxHeartbeats 8000000 in
theorem ref04_Hex (v0 : Value) (n k0 : Nat) (hk0 : NumDig 16 n k0) (K : Nat) (hK : K ≤ 10000) (hn : n < C ^ K) (w0 : World) (h : BigAt w0 v0 (dl n) n) : GivesAt Tryd.prog 9 #[v0] (.string ⟨(txt 16 n k0).toArray⟩) w0 := by
  have hst := St.start [] w0
  have hlen := ref01_Len v0 (dl n) n w0 h
  obtain ⟨R, hR⟩ : ∃ R : ByteArray, (⟨(txt 16 n k0).toArray⟩ : ByteArray) = R := ⟨_, rfl⟩
  rw [hR]
  have hR' := Lib.hid hR
  have hn' := Lib.hid hn
  clear hR hn
  have hlen' : ∀ w, Keeps [] w0 w → GivesAt Tryd.prog 21 #[v0] (.int .i64 (bl n : Nat)) w := fun w k => ref01_Len v0 (dl n) n w (h.keep k)
  clear hlen
  go_enter Tryd.func9, Tryd.ntmps9
  go_wp2_with ((first | (refine kg gf21 hst (fun w hst => hlen' w hst.keeps) rfl rfl rfl rfl ?_; clear hst; intro w hst) | (refine kc hst tc48 rfl ?_)); try simp only [pz, pn, sz, sc])
  go_loopw [0, 4, 5] (fun vb vs vn wr => ∃ (j m : Nat) (s : ByteArray), m = n / 16 ^ j ∧ vs = .string s ∧ s.data.toList = tx 16 n j ∧ vn = .int .i64 (bl m : Nat) ∧ (j ≤ 1 ∨ n / 16 ^ (j - 1) ≠ 0) ∧ BigAt wr vb (dl m) m ∧ Keeps [] w0 wr) (fun _ vs vn _ => match vs, vn with | .string s, .int _ x => x.toNat + (if s.data.toList = [] then 1 else 0) | _, _ => 0)
  case atStart => exact ⟨0, n, ⟨#[]⟩, by simp, rfl, rfl, rfl, by omega, h.keep hst.keeps, hst.keeps⟩
  case round =>
    clear hst hlen' h
    obtain ⟨j, m, s, hm, rfl, hs, rfl, hj, hb, hk0w⟩ := hrel
    have hst := St.start [] wr
    have hk0w' := Lib.hid hk0w
    have hj8 : j ≤ 80001 := by
      rcases hj with h | h
      · omega
      · have h1 : 16 ^ (j - 1) ≤ n := by
          rcases Nat.lt_or_ge n (16 ^ (j - 1)) with h' | h'
          · exact absurd (Nat.div_eq_of_lt h') h
          · exact h'
        have h2 := hn'.out
        rw [show C = 16 ^ 8 from rfl, ← Nat.pow_mul] at h2
        have h3 := (Nat.pow_lt_pow_iff_right (a := 16) (by omega)).1 (Nat.lt_of_le_of_lt h1 h2)
        omega
    have hss : s.size = j := by
      have : s.data.toList.length = j := by rw [hs]; simp [tx]
      simpa using this
    have hs1 : ∀ d, (⟨#[hexu d]⟩ : ByteArray).size + s.size ≤ 9223372036854775807 := fun d => by
      rw [hss]; show 1 + j ≤ _; omega
    clear hss
    by_cases hm0 : m = 0
    · by_cases hj0 : j = 0
      · subst hm0
        subst hj0
        have hkeep := fun w (k : Keeps [] wr w) => hb.keep k
        obtain ⟨_, hdl, a, cap, rfl, _, _⟩ := hb
        have hem : s.toList.isEmpty = true := by rw [toList_data, hs]; rfl
        have hbl0 : bl 0 = 0 := rfl
        rw [hbl0]
        rw [dl_zero] at hkeep ⊢
        have hn0 := Lib.hid (show n = 0 by simpa using hm.symm)
        have hcut := Lib.hid (show hexs.extract ((0 : Int)).toNat ((1 : Int)).toNat = ⟨#[hexu 0]⟩ from hexs_cut 0 (by omega))
        have hshr := fun w (k : Keeps [] wr w) => ref01_Shr _ _ 0 4 w (hkeep w k) (by omega) (by omega)
        have hlen2 := fun v w (h : BigAt w v (dl 0) 0) => ref01_Len v _ _ w h
        rw [Nat.zero_div] at hshr
        rw [hbl0] at hlen2
        have hs' := Lib.hid hs
        clear hm hs hj hkeep hbl0
        go_wp2_with ((first | (refine wl_strslice (s := hexs) (i := 0) (j := 1) (by kernel_rfl) rfl rfl (by rfl) (by rfl) (by rfl) (by omega) (by omega) (show (1 : Int) ≤ 16 by omega) hcut.out ?_; (try simp only [pz, pn, sz, sc])) | (refine wl_concat rfl rfl (by rfl) (by rfl) (hs1 0) ?_; (try simp only [pz, pn, sz, sc])) | (refine wl_callB (o := ⟨some 31, _, _, _, _, _⟩) gf22 hst (fun w hst => hshr w hst.keeps) rfl rfl rfl rfl rfl ?_; clear hst; intro v31 Lg31 w hb31 hst; (try simp only [List.cons_append, List.nil_append, List.append_nil, List.append_assoc] at hst); (try simp only [pz, pn, sz, sc])) | (refine kg gf21 hst (fun w hst => hlen2 _ w (hb31.at hst (fun x h => by simp [h]))) rfl rfl rfl rfl ?_; clear hst; intro w hst) | (refine kc hst tc48 rfl ?_)); try simp only [pz, pn, sz, sc])
        refine ⟨⟨1, 0, _, by rw [hn0.out], rfl, ?_, rfl, .inl (by omega), hb31.at hst (fun x h => by simp [h]), hk0w'.out.trans hst.keeps (by simp)⟩, ?_⟩
        · rw [tx_succ, hn0.out]
          have hs2 := hs'.out
          rw [hn0.out] at hs2
          simp [hs2]
        · simp only [ByteArray.data_append, Array.toList_append]
          rw [if_neg (by simp), if_pos (by rw [hs'.out]; rfl)]
          decide
      · have hne : s.toList.isEmpty = false := by
          rw [toList_data, hs]
          obtain ⟨i, rfl⟩ : ∃ i, j = i + 1 := ⟨j - 1, by omega⟩
          rw [tx_succ]; rfl
        have hnd : NumDig 16 n j := ⟨by omega, by rw [← hm]; exact hm0, by rcases hj with h | h; exact .inl (by omega); exact .inr h⟩
        obtain rfl := NumDig.unique (by omega) hnd hk0
        have hsR : s = R := by rw [← hR'.out]; exact (str_ne s _).2 hs
        have hsR' := Lib.hid hsR
        have hb0 : ((bl m : Nat) : Int) = 0 := by rw [hm0]; rfl
        rw [hb0]
        clear hsR hm hs hnd hj hj0 hb hb0 hm0
        go_wp2_with ((first | (refine kc hst tc48 rfl ?_)); try simp only [pz, pn, sz, sc])
        refine bp_t rfl rfl (by rfl) ⟨?_, hk0w'.out.trans hst.keeps (by simp)⟩
        rw [← hsR'.out]; rfl
    · have hmne : ¬ m = 0 := hm0
      have hmne' := Lib.hid hmne
      have hdp : 0 < dl m := dl_pos.2 (by omega)
      have hkeep := fun w (k : Keeps [] wr w) => hb.keep k
      have hb' := hb
      obtain ⟨_, hdl, a, cap, rfl, _, hmem⟩ := hb'
      obtain ⟨g, cur, E, rfl, hg, hc⟩ := hmem hdp
      have hc0 := hc 0 hdp
      have hst := hst.add hg (by simp)
      have hx := dg0 m
      have hxC := dg_lt' m 0
      generalize dg m 0 = x at *
      obtain ⟨d, hd⟩ : ∃ d, d = m % 16 := ⟨_, rfl⟩
      rw [← hd] at hx
      have X1 : (x : Int) % 16 = (d : Int) := by omega
      have X2 : (x : Int).tmod 16 = (d : Int) := by rw [Int.tmod_eq_emod_of_nonneg (by omega)]; exact X1
      have X3 : (0 : Int) ≤ (d : Int) := by omega
      have X4 : (d : Int) ≤ 15 := by omega
      have hbp : (0 : Int) < ((bl m : Nat) : Int) := by have := bl_pos hm0; omega
      have hdl0 : (0 : Int) < ((dl m : Nat) : Int) := by omega
      have hmC : m < C ^ K := by rw [hm]; exact Nat.lt_of_le_of_lt (Nat.div_le_self _ _) hn'.out
      have hdm : dl m ≤ 100000 := Nat.le_trans (dl_le.2 hmC) (by omega)
      have hshr := fun w (k : Keeps [] wr w) => ref01_Shr _ _ m 4 w (hkeep w k) hdm (by omega)
      have hlen2 := fun v w (h : BigAt w v (dl (m / 2 ^ 4)) (m / 2 ^ 4)) => ref01_Len v _ _ w h
      have e16 : m / 2 ^ 4 = m / 16 := rfl
      rw [e16] at hshr hlen2
      obtain ⟨p, hp⟩ : ∃ p, p = m / 16 := ⟨_, rfl⟩
      rw [← hp] at hshr hlen2
      obtain ⟨q, hq⟩ : ∃ q, q = dl m := ⟨_, rfl⟩
      have hcut := Lib.hid (show hexs.extract ((d : Int)).toNat ((d : Int) + 1).toNat = ⟨#[hexu d]⟩ by rw [show ((d : Int) + 1).toNat = d + 1 by omega, Int.toNat_natCast]; exact hexs_cut d (by omega))
      have hm' := Lib.hid hm
      have hd' := Lib.hid hd
      have hp' := Lib.hid hp
      have hs' := Lib.hid hs
      have hj' := Lib.hid hj
      clear hmne hm hd hp hs hj hx hxC hb hkeep hmem hc hg hmC hm0 hdp hdm e16 hq
      go_wp2_with ((first | (refine wl_strslice (s := hexs) (by kernel_rfl) rfl rfl (by rfl) (by rfl) (by rfl) X3 (by omega) (show ((d : Int) + 1) ≤ 16 by omega) hcut.out ?_; (try simp only [pz, pn, sz, sc])) | (refine wl_concat rfl rfl (by rfl) (by rfl) (hs1 d) ?_; (try simp only [pz, pn, sz, sc])) | (refine wl_callB (o := ⟨some 31, _, _, _, _, _⟩) gf22 hst (fun w hst => hshr w hst.keeps) rfl rfl rfl rfl rfl ?_; clear hst; intro v31 Lg31 w hb31 hst; (try simp only [List.cons_append, List.nil_append, List.append_nil, List.append_assoc] at hst); (try simp only [pz, pn, sz, sc])) | (refine kg gf21 hst (fun w hst => hlen2 _ w (hb31.at hst (fun x h => by simp [h]))) rfl rfl rfl rfl ?_; clear hst; intro w hst) | (refine kc hst tc48 rfl ?_)); try simp only [pz, pn, sz, sc])
      have hpm : bl p < bl m := by
        rw [hp'.out]
        rcases Nat.eq_zero_or_pos (m / 16) with h | h
        · rw [h]; have : bl 0 = 0 := rfl; omega
        · have := bl_shift m 4 (by rw [show (2 : Nat) ^ 4 = 16 from rfl]; omega)
          rw [show (2 : Nat) ^ 4 = 16 from rfl] at this; omega
      refine ⟨⟨j + 1, p, _, by rw [hp'.out, hm'.out, Nat.div_div_eq_div_mul, ← Nat.pow_succ], rfl, ?_, rfl, .inr (by rw [Nat.add_sub_cancel, ← hm'.out]; exact hmne'.out), hb31.at hst (fun x h => by simp [h]), hk0w'.out.trans hst.keeps (by simp)⟩, ?_⟩
      · rw [tx_succ, ← hm'.out, ← hd'.out, ← hs'.out]; simp
      · simp only [ByteArray.data_append, Array.toList_append]
        rw [if_neg (by simp)]
        omega

end Go.Proofs.YtojjmcghcgidlaaDoor.Rd
