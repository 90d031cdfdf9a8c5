/- What ref09.At, Round answer of a number that is known by comparing, with more digits than the precision. -/
import Derived.Test.YtefpoconpeggpaaGreatDoorJ03
import Derived.Laws.IdiomStrings
import Derived.Test.YtefpoconpeggpaaGreatDoorJ08
import Derived.Laws.DeepStrings4
import Derived.Laws.Concat
import Derived.Test.YtefpoconpeggpaaGreatDoorJ07
import Derived.Test.YtefpoconpeggpaaGreatDoorJ22
import Derived.Test.YtefpoconpeggpaaGreatDoorJ23
import Derived.Test.YtefpoconpeggpaaGreatDoorJ24
namespace Go.Proofs.YtefpoconpeggpaaGreatDoor.Rd
open Go Go.RowKit
set_option linter.unusedVariables false
set_option linter.unusedSimpArgs false
set_option maxRecDepth 100000

end Go.Proofs.YtefpoconpeggpaaGreatDoor.Rd

namespace Go.Proofs.YtefpoconpeggpaaGreatDoor.Rd
open Go Go.RowKit
set_option linter.unusedVariables false
set_option linter.unusedSimpArgs false
set_option maxRecDepth 100000

end Go.Proofs.YtefpoconpeggpaaGreatDoor.Rd

namespace Go.Proofs.YtefpoconpeggpaaGreatDoor.Rd
open Go Go.RowKit
set_option linter.unusedVariables false
set_option linter.unusedSimpArgs false
set_option maxRecDepth 100000

section
variable {P : Program} {ops : Array Oper} {rest : List Oper} {Q : Exit → Act → World → Prop} {a : Act} {w w0 : World} {S : List Nat} {L pre Lg : List (Nat × Obj)}

/-- A byte of a string. -/
theorem wl_strindex {o : Oper} {T : TypeId} {x y : Operand} {j : Nat} {k : IntKind} {s : ByteArray} {u : UInt8} (hT : P.underlying T = some .string) (hg : o.guard = none) (ho : o.op = .index T x y)
    (hx : a.eval x = .string s) (hy : a.eval y = .int k (j : Int)) (hv : s.data[j]? = some u)
    (h : wpList P ops Q rest (a.put o.dst (.int .u8 (u.toNat : Nat))) w) : wpList P ops Q (o :: rest) a w := by
  have hj : j < s.data.size := by
    rcases Nat.lt_or_ge j s.data.size with h | h
    · exact h
    · rw [Array.getElem?_eq_none h] at hv; cases hv
  have h1 : (Instr.index T (.string s) (.int k (j : Int))).run P w = .ok (.int .u8 (u.toNat : Nat)) w := by
    rw [run_index_string w T s k _ hT, dif_pos ⟨by omega, by have : s.size = s.data.size := rfl; omega⟩]
    have : s[(j : Int).toNat]'(by have : s.size = s.data.size := rfl; simp; omega) = u := by
      have e2 : s.data[j]? = some s.data[j] := Array.getElem?_eq_getElem hj
      rw [e2] at hv
      simp only [Int.toNat_natCast]
      exact Option.some.inj hv
    rw [this]
  refine wpList_plain hg fun K hK => ?_
  unfold Oper.wp execOp
  simp only [ho, hx, hy, Sem.run_bind, h1, Sem.run_pure, Result.andThen_ok]
  exact hK _ _ h

end

end Go.Proofs.YtefpoconpeggpaaGreatDoor.Rd

namespace Go.Proofs.YtefpoconpeggpaaGreatDoor.Rd
open Go Go.RowKit
set_option linter.unusedVariables false
set_option linter.unusedSimpArgs false
set_option maxRecDepth 100000

section
variable {P : Program} {ops : Array Oper} {rest : List Oper} {Q : Exit → Act → World → Prop} {a : Act} {w : World}
theorem wl_concat {o : Oper} {T R : TypeId} {x y : Operand} {s s' : ByteArray} (hg : o.guard = none) (ho : o.op = .binOp .add T x y R) (hx : a.eval x = .string s) (hy : a.eval y = .string s') (hsz : s.size + s'.size ≤ 9223372036854775807)
    (h : wpList P ops Q rest (a.put o.dst (.string (s ++ s'))) w) : wpList P ops Q (o :: rest) a w := by
  have h1 : (binOp .add T (.string s) (.string s')).run P w = .ok (.string (s ++ s')) w := by
    rw [binOp_string_add]; exact run_string_add_sum w s s' hsz
  have h2 : (eqGuard .add T x y (.string s) (.string s')).run P w = .ok () w := by simp [eqGuard]
  refine wpList_plain hg fun K hK => ?_
  unfold Oper.wp execOp
  simp only [ho, hx, hy, Sem.run_bind, h1, h2, Sem.run_pure, Result.andThen_ok]
  exact hK _ _ h
end
theorem str_ne (s : ByteArray) (l : List UInt8) : s = ⟨l.toArray⟩ ↔ s.data.toList = l := by
  constructor
  · rintro rfl; simp
  · intro h
    cases s with | mk d => 
    congr 1
    exact Array.toList_inj.1 (by simpa using h)

end Go.Proofs.YtefpoconpeggpaaGreatDoor.Rd

namespace Go.Proofs.YtefpoconpeggpaaGreatDoor.Rd
open Go Go.RowKit
set_option linter.unusedVariables false
set_option linter.unusedSimpArgs false
set_option maxRecDepth 100000

theorem ref05_Sign (b : Bool) : Gives Tryz.prog 83 #[.bool b] (.string (bitS b)) := by
  intro w0
  have hst := St.start [] w0
  cases b
  all_goals
    go_enter Tryz.func83, Tryz.ntmps83
    go_wp2_with fail
    refine bp_t rfl rfl (by rfl) ⟨?_, hst.keeps⟩
    rfl

set_option maxHeartbeats 1000000 in
theorem ref05_times (c : UInt8) (n : Nat) (hn : n ≤ 1000) : Gives Tryz.prog 84 #[.string ⟨#[c]⟩, .int .i64 n] (.string ⟨(List.replicate n c).toArray⟩) := by
  intro w0
  have hst := St.start [] w0
  obtain ⟨R, hR⟩ : ∃ R : ByteArray, (⟨(List.replicate n c).toArray⟩ : ByteArray) = R := ⟨_, rfl⟩
  rw [hR]
  have hR' := Lib.hid hR
  clear hR
  go_enter Tryz.func84, Tryz.ntmps84
  go_wp2_with fail
  go_loopw [5, 6] (fun vo vi wr => ∃ (i : Nat) (o : ByteArray), i ≤ n ∧ vi = .int .i64 i ∧ vo = .string o ∧ o.data.toList = List.replicate i c ∧ St w0 [] [] wr) (fun _ vi _ => n - (intOf vi).toNat)
  case atStart => exact ⟨0, _, by omega, rfl, rfl, rfl, hst⟩
  case round =>
    clear hst
    obtain ⟨i, o, hi, rfl, rfl, ho, hst⟩ := hrel
    have hos : o.size = i := by
      have : o.data.toList.length = i := by rw [ho]; simp
      simpa using this
    have ho' := Lib.hid ho
    clear ho
    by_cases hlt : i < n
    · have i1 : (i : Int) < (n : Int) := by omega
      have hs1 : o.size + (⟨#[c]⟩ : ByteArray).size ≤ 9223372036854775807 := by
        rw [hos]; show i + 1 ≤ _; omega
      clear hos
      go_wp2_with ((first | (refine wl_concat rfl rfl (by rfl) (by rfl) hs1 ?_; (try simp only [pz, pn, sz, sc]))); try simp only [pz, pn, sz, sc])
      refine ⟨⟨i + 1, _, by omega, by go_num, rfl, ?_, hst⟩, ?_⟩
      · rw [List.replicate_succ', ByteArray.data_append, Array.toList_append, ho'.out]
      · (simp [intOf]; try omega)
    · obtain rfl : i = n := by omega
      have i1 : ¬ (i : Int) < (i : Int) := by omega
      have e : o = R := by rw [← hR'.out]; exact (str_ne o _).2 ho'.out
      subst e
      clear hos
      go_wp2_with fail
      refine bp_t rfl rfl (by rfl) ⟨?_, hst.keeps⟩
      rfl

set_option maxHeartbeats 4000000 in
theorem ref05_Word (s : ByteArray) (hs : s.size ≤ 128) : Gives Tryz.prog 82 #[.string s] (Wd (sv s.data.toList)) := by
  intro w0
  have hst := St.start [] w0
  have hlen : s.data.toList.length = s.size := by simp
  have hz : wc 2 0 = #[.int .u64 ((0 : Nat) : Int), .int .u64 ((0 : Nat) : Int)] := by kernel_rfl
  go_enter Tryz.func82, Tryz.ntmps82
  go_wp2_with ((first | (refine ka 2 hst tz24 rfl rfl ?_; clear hst; intro b2 w hb2 hst) | (refine ka 3 hst tz24 rfl rfl ?_; clear hst; intro b3 w hb3 hst)); try simp only [pz, pn, sz, sc])
  go_loopw [4] (fun vi wr => ∃ i x1 x0 : Nat, i ≤ s.size ∧ vi = .int .i64 i ∧ x1 = lb (sv (s.data.toList.take i)) 1 ∧ x0 = lb (sv (s.data.toList.take i)) 0 ∧ St w0 [] [(b3, .cells #[.int .u64 x1, .int .u64 x0] 24), (b2, .cells (wc 2 0) 24)] wr) (fun vi _ => s.size - (intOf vi).toNat)
  case atStart => exact ⟨0, 0, 0, by omega, rfl, by rw [List.take_zero]; rfl, by rw [List.take_zero]; rfl, by rw [← hz]; exact hst⟩
  case round =>
    clear hst hz
    obtain ⟨i, x1, x0, hi, rfl, h1, h0, hst⟩ := hrel
    by_cases hlt : i < s.size
    · have i1 : (i : Int) < (s.size : Int) := by omega
      obtain ⟨u, hu⟩ : ∃ u, s.data[i]? = some u := ⟨s.data[i]'hlt, Array.getElem?_eq_getElem _⟩
      have hul : s.data.toList[i]? = some u := by rw [Array.getElem?_toList]; exact hu
      have htk : s.data.toList.take (i + 1) = s.data.toList.take i ++ [u] := by rw [List.take_add_one, hul]; rfl
      have hm : sv (s.data.toList.take i) < 2 ^ 127 := by
        have a := sv_lt (s.data.toList.take i)
        rw [List.length_take, hlen] at a
        exact Nat.lt_of_lt_of_le a (Nat.pow_le_pow_right (by omega) (by omega))
      obtain ⟨b, hb⟩ : ∃ b, b = if u = 49 then 1 else 0 := ⟨_, rfl⟩
      have hb1 : b ≤ 1 := by rw [hb]; split <;> omega
      have hsn : sv (s.data.toList.take (i + 1)) = 2 * sv (s.data.toList.take i) + b := by rw [htk, sv_snoc, hb]
      obtain ⟨q1, q2, q3, q4⟩ := word_step (sv (s.data.toList.take i)) b hm hb1
      rw [← hsn, ← h1, ← h0] at q1
      rw [← hsn, ← h0] at q2
      rw [← h1] at q3
      rw [← h0] at q4
      have hx0 : x0 < B := by rw [h0]; exact lb_lt _ _
      clear hm htk hul hsn h1 h0
      obtain ⟨y1, hy1⟩ : ∃ y1, y1 = lb (sv (s.data.toList.take (i + 1))) 1 := ⟨_, rfl⟩
      obtain ⟨y0, hy0⟩ : ∃ y0, y0 = lb (sv (s.data.toList.take (i + 1))) 0 := ⟨_, rfl⟩
      rw [← hy1] at q1
      rw [← hy0] at q2
      have hy1' := Lib.hid hy1
      have hy0' := Lib.hid hy0
      clear hy1 hy0
      have hBv := B_val
      obtain ⟨Y, hY⟩ : ∃ Y, Y = x1 * 2 := ⟨_, rfl⟩
      obtain ⟨z, hz⟩ : ∃ z, z = x0 / 2 ^ 63 := ⟨_, rfl⟩
      obtain ⟨V, hV⟩ : ∃ V, V = x0 * 2 % B := ⟨_, rfl⟩
      have F0 : IntKind.u64.wrap ((x1 : Int) * 2) = (Y : Int) := u64_wrap' _ Y _ (by omega) (Nat.mod_eq_of_lt (by omega))
      have F1 : (x0 : Int) / 9223372036854775808 = (z : Int) := by omega
      have F2 : bits .or .u64 (Y : Int) (z : Int) = (y1 : Int) := by
        have := or_low x1 z 1 (by omega) (by omega) (by omega)
        rw [q1, hY, ← hz]
        simpa using this
      have F3 : IntKind.u64.wrap ((x0 : Int) * 2) = (V : Int) := u64_wrap' _ (x0 * 2) _ (by omega) (by rw [hV])
      have i2 : i ≤ 128 := by omega
      clear hBv hY hz
      by_cases h49 : u = 49
      · have hb' : b = 1 := by rw [hb, if_pos h49]
        subst h49
        have F4 : IntKind.u64.wrap ((V : Int) + 1) = (y0 : Int) := u64_wrap' _ y0 _ (by omega) (Nat.mod_eq_of_lt (by omega))
        clear hb hb' hV q1 q2 q3 q4 hx0 hb1 hlen hs
        go_wp2_with ((first | (refine wl_strindex (by kernel_rfl) rfl rfl (by rfl) (by rfl) hu ?_; (try simp only [pz, pn, sz, sc])) | (refine kc hst tc22 rfl ?_) | (refine ks hst tc22 rfl rfl ?_; clear hst; intro w hst)); try simp only [pz, pn, sz, sc])
        refine ⟨⟨i + 1, y1, y0, by omega, by go_num, hy1'.out, hy0'.out, hst⟩, ?_⟩
        (simp [intOf]; try omega)
      · have hb' : b = 0 := by rw [hb, if_neg h49]
        have hne : ((u.toNat : Int) == 49) = false := by
          rw [beq_eq_false_iff_ne]
          intro e
          exact h49 (UInt8.toNat_inj.1 (by show u.toNat = 49; omega))
        have e0 : V = y0 := by omega
        subst e0
        clear hb hb' hV q1 q2 q3 q4 hx0 hb1 hlen hs h49
        go_wp2_with ((first | (refine wl_strindex (by kernel_rfl) rfl rfl (by rfl) (by rfl) hu ?_; (try simp only [pz, pn, sz, sc])) | (refine kc hst tc22 rfl ?_) | (refine ks hst tc22 rfl rfl ?_; clear hst; intro w hst)); try simp only [pz, pn, sz, sc])
        refine ⟨⟨i + 1, y1, V, by omega, by go_num, hy1'.out, hy0'.out, hst⟩, ?_⟩
        (simp [intOf]; try omega)
    · obtain rfl : i = s.size := by omega
      have i1 : ¬ (s.size : Int) < (s.size : Int) := by omega
      have e : s.data.toList.take s.size = s.data.toList := by rw [← hlen, List.take_length]
      rw [e] at h1 h0
      have hres : #[Value.int .u64 x1, .int .u64 x0] = wdc (sv s.data.toList) := by rw [h1, h0]; rfl
      have hres' := Lib.hid hres
      clear h1 h0 hres e hlen
      go_wp2_with ((first | (refine kl hst ta24 rfl ?_) | (refine kt hst ta24 rfl rfl ?_; clear hst; intro w hst)); try simp only [pz, pn, sz, sc])
      refine bp_c rfl rfl (la hst ta24) ⟨?_, hst.keeps⟩
      rw [hres'.out]; rfl

end Go.Proofs.YtefpoconpeggpaaGreatDoor.Rd

namespace Go.Proofs.YtefpoconpeggpaaGreatDoor.Rd
open Go Go.RowKit
set_option linter.unusedVariables false
set_option linter.unusedSimpArgs false
set_option maxRecDepth 100000

theorem signed_end (f m : Nat) (ng : Bool) : (if ng then 1 else 0) * 2 ^ (fB f - 1) + m / 2 ^ 0 % 2 ^ (fB f - 1) = m % 2 ^ (fB f - 1) + (if ng then 2 ^ (fB f - 1) else 0) := by
  rw [Nat.pow_zero, Nat.div_one]
  cases ng <;> simp [Nat.add_comm]

set_option maxHeartbeats 4000000 in
theorem ref06_Signed (f : Nat) (h1 : 1 ≤ f) (h4 : f ≤ 4) (m : Nat) (hm : m < M2) (ng : Bool) : Gives Tryz.prog 55 #[.int .i64 f, Wd m, .bool ng] (Wd (m % 2 ^ (fB f - 1) + (if ng then 2 ^ (fB f - 1) else 0))) := by
  intro w0
  have hst := St.start [] w0
  have hb := ref05_Bits f h1 h4
  have hsg := fun b => ref05_Sign b
  have hbit := Lib.hid (fun i (hi : i < 128) => ref05_Bit m i hm hi)
  have hwd := Lib.hid (fun s hs => ref05_Word s hs)
  have hB := fB_in f
  have hstep := Lib.hid (field_step m)
  have hend := signed_end f m ng
  obtain ⟨res, hres⟩ : ∃ res, res = m % 2 ^ (fB f - 1) + (if ng then 2 ^ (fB f - 1) else 0) := ⟨_, rfl⟩
  rw [← hres] at hend ⊢
  have hend' := Lib.hid hend
  clear hres hm h1 h4 hend
  obtain ⟨N, hN⟩ : ∃ N, N = fB f - 1 := ⟨_, rfl⟩
  rw [← hN] at hend'
  have hbN : (fB f : Int) = (N : Int) + 1 := by omega
  rw [hbN] at hb
  have hN1 : N ≤ 127 := by omega
  have hN2 : 1 ≤ N := by omega
  clear hN hbN hB
  have hW : IntKind.i64.wrap ((N : Int) + 1 - 2) = (N : Int) - 1 := by rw [IntKind.wrap_i64]; omega
  have hsg0 := hsg ng
  go_enter Tryz.func55, Tryz.ntmps55
  go_wp2_with ((first | (refine kf gf83 hst (hsg0) rfl rfl rfl rfl ?_; clear hst; intro w hst) | (refine kf gf66 hst (hb) rfl rfl rfl rfl ?_; clear hst; intro w hst) | (refine kb 4 hst rfl rfl ?_; clear hst; intro b4 w hb4 hst) | (refine ka 6 hst tz24 rfl rfl ?_; clear hst; intro b6 w hb6 hst)); try simp only [pz, pn, sz, sc])
  clear hsg0
  go_loopw [7, 8] (fun vs vi wr => ∃ (j k : Nat) (s : ByteArray), j + k = N ∧ vi = .int .i64 ((j : Int) - 1) ∧ vs = .string s ∧ s.size = k + 1 ∧ sv s.data.toList = (if ng then 1 else 0) * 2 ^ k + m / 2 ^ j % 2 ^ k ∧ St w0 [] [(b6, .cells (wc 2 0) 24), (b4, .cells (wdc m) 24)] wr) (fun _ vi _ => (intOf vi + 1).toNat)
  case atStart => exact ⟨N, 0, _, by omega, by first | rfl | (congr 1; omega), rfl, bitS_size _, by rw [bitS_list, Nat.pow_zero, Nat.mod_one]; cases ng <;> rfl, hst⟩
  case round =>
    clear hst
    obtain ⟨j, k, s, hjk, rfl, rfl, hs, hsv, hst⟩ := hrel
    have hsv' := Lib.hid hsv
    clear hsv
    by_cases hlt : 0 < j
    · obtain ⟨i, rfl⟩ : ∃ i, j = i + 1 := ⟨j - 1, by omega⟩
      obtain ⟨iv, hiv⟩ : ∃ iv : Int, iv = ((i + 1 : Nat) : Int) - 1 := ⟨_, rfl⟩
      have hbn := hbit.out i (by omega)
      rw [show (i : Int) = iv by omega] at hbn
      rw [← hiv]
      have i1 : (0 : Int) ≤ iv := by omega
      have i2 : iv ≤ 130 := by omega
      have hiv' := Lib.hid hiv
      have hs' := Lib.hid hs
      have hsb := hsg (m.testBit i)
      have hs1 : s.size + (bitS (m.testBit i)).size ≤ 9223372036854775807 := by rw [hs, bitS_size]; omega
      have hst1 := Lib.hid (hstep.out i k)
      have hbl := Lib.hid (show sv (s ++ bitS (m.testBit i)).data.toList = 2 * sv s.data.toList + (if m.testBit i then 1 else 0) by
        rw [ByteArray.data_append, Array.toList_append, bitS_list, sv_bit])
      have hbz := Lib.hid (show (s ++ bitS (m.testBit i)).size = s.size + 1 by rw [ByteArray.size_append, bitS_size])
      clear hiv hs
      generalize m.testBit i = b at *
      go_wp2_with ((first | (refine kf gf67 hst (hbn) rfl rfl rfl rfl ?_; clear hst; intro w hst) | (refine kf gf83 hst (hsb) rfl rfl rfl rfl ?_; clear hst; intro w hst) | (refine wl_concat rfl rfl (by rfl) (by rfl) hs1 ?_; (try simp only [pz, pn, sz, sc])) | (refine kl hst ta24 rfl ?_)); try simp only [pz, pn, sz, sc])
      refine ⟨⟨i, k + 1, _, by omega, by congr 1; have := hiv'.out; omega, rfl, by rw [hbz.out, hs'.out], ?_, hst⟩, ?_⟩
      · rw [hbl.out, hsv'.out, hst1.out, show 2 ^ (k + 1) = 2 ^ k * 2 from Nat.pow_succ ..]
        generalize (if ng = true then 1 else 0) = x
        generalize (if b = true then 1 else 0) = y
        have e : 2 * (x * 2 ^ k) = x * (2 ^ k * 2) := by grind
        rw [Nat.mul_add, e, Nat.add_assoc]
      · have := hiv'.out; (simp [intOf]; try omega)
    · obtain rfl : j = 0 := by omega
      obtain rfl : k = N := by omega
      have i1 : ¬ (0 : Int) ≤ ((0 : Nat) : Int) - 1 := by omega
      have hw := hwd.out s (by omega)
      rw [hsv'.out, hend'.out] at hw
      clear hs
      go_wp2_with ((first | (refine kf gf82 hst (hw) rfl rfl rfl rfl ?_; clear hst; intro w hst) | (refine kt hst ta24 rfl rfl ?_; clear hst; intro w hst)); try simp only [pz, pn, sz, sc])
      refine bp_c rfl rfl (la hst ta24) ⟨?_, hst.keeps⟩
      rfl

theorem cat3_sv (a b c : ByteArray) : sv (a ++ b ++ c).data.toList = (sv a.data.toList * 2 ^ b.size + sv b.data.toList) * 2 ^ c.size + sv c.data.toList := by
  have l1 : b.data.toList.length = b.size := by simp
  have l2 : c.data.toList.length = c.size := by simp
  rw [ByteArray.data_append, ByteArray.data_append, Array.toList_append, Array.toList_append, sv_append, sv_append, l1, l2]
theorem rep_size (n : Nat) (c : UInt8) : (⟨(List.replicate n c).toArray⟩ : ByteArray).size = n := by
  show (List.replicate n c).toArray.size = n
  simp
theorem bit_sv (b : Bool) : sv (bitS b).data.toList = if b then 1 else 0 := by cases b <;> rfl
set_option maxHeartbeats 2000000 in
theorem ref05_Inf (f : Nat) (h1 : 1 ≤ f) (h4 : f ≤ 4) (ng : Bool) : Gives Tryz.prog 52 #[.int .i64 f, .bool ng] (Wd (infW f ng)) := by
  intro w0
  have hst := St.start [] w0
  have hsg := ref05_Sign ng
  have hfd := ref05_Field f h1 h4
  have hpr := ref05_Prec f h1 h4
  have hP := fP_in f
  have hK := fK_in f
  have ht1 := ref05_times 49 (fK f) (by omega)
  have ht2 := ref05_times 48 (fP f - 1) (by omega)
  rw [show ((fP f - 1 : Nat) : Int) = (fP f : Int) - 1 by omega] at ht2
  have hz : (bitS ng ++ ⟨(List.replicate (fK f) 49).toArray⟩ ++ ⟨(List.replicate (fP f - 1) 48).toArray⟩ : ByteArray).size = 1 + fK f + (fP f - 1) := by rw [ByteArray.size_append, ByteArray.size_append, bitS_size, rep_size, rep_size]
  have hz1 : (bitS ng ++ ⟨(List.replicate (fK f) 49).toArray⟩ : ByteArray).size = 1 + fK f := by rw [ByteArray.size_append, bitS_size, rep_size]
  have hw := ref05_Word _ (show (bitS ng ++ ⟨(List.replicate (fK f) 49).toArray⟩ ++ ⟨(List.replicate (fP f - 1) 48).toArray⟩ : ByteArray).size ≤ 128 by rw [hz]; have := fB_in f; have := fBPK f; omega)
  have hv : sv (bitS ng ++ ⟨(List.replicate (fK f) 49).toArray⟩ ++ ⟨(List.replicate (fP f - 1) 48).toArray⟩ : ByteArray).data.toList = infW f ng := by
    rw [cat3_sv, rep_size, rep_size, bit_sv]
    simp only []
    rw [sv_ones, sv_noughts, ← fE_pow]
    unfold infW
    rw [top_pow, ← fE_pow]
    have : 2 * fE f + 2 - 1 = 2 * fE f + 1 := by omega
    rw [this]
    generalize 2 * fE f + 1 = x
    cases ng
    · simp
    · simp only [if_true, Nat.one_mul, Nat.add_zero]
      rw [Nat.add_mul, Nat.add_comm]
  rw [hv] at hw
  have s1 : (bitS ng).size + (⟨(List.replicate (fK f) 49).toArray⟩ : ByteArray).size ≤ 9223372036854775807 := by rw [bitS_size, rep_size]; omega
  have s2 : (bitS ng ++ ⟨(List.replicate (fK f) 49).toArray⟩ : ByteArray).size + (⟨(List.replicate (fP f - 1) 48).toArray⟩ : ByteArray).size ≤ 9223372036854775807 := by rw [hz1, rep_size]; omega
  clear hz hz1 hv h1 h4
  generalize infW f ng = res at *
  generalize (⟨(List.replicate (fK f) 49).toArray⟩ : ByteArray) = A at *
  generalize (⟨(List.replicate (fP f - 1) 48).toArray⟩ : ByteArray) = D at *
  generalize bitS ng = S at *
  generalize fP f = p at *
  generalize fK f = kk at *
  go_enter Tryz.func52, Tryz.ntmps52
  go_wp2_with ((first | (refine kf gf83 hst (hsg) rfl rfl rfl rfl ?_; clear hst; intro w hst) | (refine kf gf81 hst (hfd) rfl rfl rfl rfl ?_; clear hst; intro w hst) | (refine kf gf25 hst (hpr) rfl rfl rfl rfl ?_; clear hst; intro w hst) | (refine kf gf84 hst (ht1) rfl rfl rfl rfl ?_; clear hst; intro w hst) | (refine kf gf84 hst (ht2) rfl rfl rfl rfl ?_; clear hst; intro w hst) | (refine wl_concat rfl rfl (by rfl) (by rfl) s1 ?_; (try simp only [pz, pn, sz, sc])) | (refine wl_concat rfl rfl (by rfl) (by rfl) s2 ?_; (try simp only [pz, pn, sz, sc])) | (refine kf gf82 hst (hw) rfl rfl rfl rfl ?_; clear hst; intro w hst) | (refine ka 4 hst tz24 rfl rfl ?_; clear hst; intro b4 w hb4 hst) | (refine kt hst ta24 rfl rfl ?_; clear hst; intro w hst)); try simp only [pz, pn, sz, sc])
  refine bp_c rfl rfl (la hst ta24) ⟨?_, hst.keeps⟩
  rfl

set_option maxHeartbeats 2000000 in
theorem ref05_Max (f : Nat) (h1 : 1 ≤ f) (h4 : f ≤ 4) (ng : Bool) : Gives Tryz.prog 53 #[.int .i64 f, .bool ng] (Wd (maxW f ng)) := by
  intro w0
  have hst := St.start [] w0
  have hsg := ref05_Sign ng
  have hfd := ref05_Field f h1 h4
  have hpr := ref05_Prec f h1 h4
  have hP := fP_in f
  have hK := fK_in f
  have ht1 := ref05_times 49 (fK f - 1) (by omega)
  have ht2 := ref05_times 49 (fP f - 1) (by omega)
  rw [show ((fP f - 1 : Nat) : Int) = (fP f : Int) - 1 by omega] at ht2
  rw [show ((fK f - 1 : Nat) : Int) = (fK f : Int) - 1 by omega] at ht1
  have hz1 : (bitS ng ++ ⟨(List.replicate (fK f - 1) 49).toArray⟩ : ByteArray).size = 1 + (fK f - 1) := by rw [ByteArray.size_append, bitS_size, rep_size]
  have hz2 : (bitS ng ++ ⟨(List.replicate (fK f - 1) 49).toArray⟩ ++ ⟨#[48]⟩ : ByteArray).size = 1 + (fK f - 1) + 1 := by rw [ByteArray.size_append, hz1]; rfl
  have hz : (bitS ng ++ ⟨(List.replicate (fK f - 1) 49).toArray⟩ ++ ⟨#[48]⟩ ++ ⟨(List.replicate (fP f - 1) 49).toArray⟩ : ByteArray).size = 1 + (fK f - 1) + 1 + (fP f - 1) := by rw [ByteArray.size_append, hz2, rep_size]
  have hw := ref05_Word _ (show (bitS ng ++ ⟨(List.replicate (fK f - 1) 49).toArray⟩ ++ ⟨#[48]⟩ ++ ⟨(List.replicate (fP f - 1) 49).toArray⟩ : ByteArray).size ≤ 128 by rw [hz]; have := fB_in f; have := fBPK f; omega)
  have hv : sv (bitS ng ++ ⟨(List.replicate (fK f - 1) 49).toArray⟩ ++ ⟨#[48]⟩ ++ ⟨(List.replicate (fP f - 1) 49).toArray⟩ : ByteArray).data.toList = maxW f ng := by
    rw [cat3_sv, rep_size]
    have e1 : sv (bitS ng ++ ⟨(List.replicate (fK f - 1) 49).toArray⟩ : ByteArray).data.toList = (if ng then 1 else 0) * 2 ^ (fK f - 1) + (2 ^ (fK f - 1) - 1) := by
      have l1 : (⟨(List.replicate (fK f - 1) 49).toArray⟩ : ByteArray).data.toList.length = fK f - 1 := by simp
      rw [ByteArray.data_append, Array.toList_append, sv_append, l1, bit_sv]
      simp only []
      rw [sv_ones]
    have e2 : sv (⟨#[48]⟩ : ByteArray).data.toList = 0 := rfl
    have e3 : (⟨#[48]⟩ : ByteArray).size = 1 := rfl
    rw [e1, e2, e3]
    simp only []
    rw [sv_ones]
    unfold maxW
    have ek : 2 ^ fK f = 2 * 2 ^ (fK f - 1) := by
      obtain ⟨q, hq⟩ : ∃ q, fK f = q + 1 := ⟨fK f - 1, by omega⟩
      rw [hq, Nat.add_sub_cancel, Nat.pow_succ]; omega
    have ek2 := fE_pow f
    rw [top_pow, ← fE_pow]
    have hp : 0 < 2 ^ (fP f - 1) := Nat.pow_pos (by omega)
    have hk : fE f + 1 = 2 ^ (fK f - 1) := by omega
    rw [← hk]
    generalize 2 ^ (fP f - 1) = y at *
    rw [show fE f + 1 - 1 = fE f by omega, Nat.pow_one, Nat.add_zero]
    generalize fE f = x
    cases ng
    · simp only [Bool.false_eq_true, if_false, Nat.zero_mul, Nat.zero_add, Nat.add_zero]
      rw [Nat.add_mul, Nat.mul_comm x 2]; omega
    · simp only [if_true, Nat.one_mul]
      have a1 : (x + 1 + x) * 2 * y = 4 * (x * y) + 2 * y := by grind
      have a2 : (2 * x + 1) * y = 2 * (x * y) + y := by grind
      have a3 : (2 * x + 2) * y = 2 * (x * y) + 2 * y := by grind
      rw [a1, a2, a3]; omega
  rw [hv] at hw
  have s1 : (bitS ng).size + (⟨(List.replicate (fK f - 1) 49).toArray⟩ : ByteArray).size ≤ 9223372036854775807 := by rw [bitS_size, rep_size]; omega
  have s2 : (bitS ng ++ ⟨(List.replicate (fK f - 1) 49).toArray⟩ : ByteArray).size + (⟨#[48]⟩ : ByteArray).size ≤ 9223372036854775807 := by rw [hz1]; show 1 + (fK f - 1) + 1 ≤ _; omega
  have s3 : (bitS ng ++ ⟨(List.replicate (fK f - 1) 49).toArray⟩ ++ ⟨#[48]⟩ : ByteArray).size + (⟨(List.replicate (fP f - 1) 49).toArray⟩ : ByteArray).size ≤ 9223372036854775807 := by rw [hz2, rep_size]; omega
  clear hz hz1 hz2 hv h1 h4
  generalize maxW f ng = res at *
  generalize (⟨(List.replicate (fK f - 1) 49).toArray⟩ : ByteArray) = A at *
  generalize (⟨(List.replicate (fP f - 1) 49).toArray⟩ : ByteArray) = D at *
  generalize bitS ng = S at *
  generalize fP f = p at *
  generalize fK f = kk at *
  go_enter Tryz.func53, Tryz.ntmps53
  go_wp2_with ((first | (refine kf gf83 hst (hsg) rfl rfl rfl rfl ?_; clear hst; intro w hst) | (refine kf gf81 hst (hfd) rfl rfl rfl rfl ?_; clear hst; intro w hst) | (refine kf gf25 hst (hpr) rfl rfl rfl rfl ?_; clear hst; intro w hst) | (refine kf gf84 hst (ht1) rfl rfl rfl rfl ?_; clear hst; intro w hst) | (refine kf gf84 hst (ht2) rfl rfl rfl rfl ?_; clear hst; intro w hst) | (refine wl_concat rfl rfl (by rfl) (by rfl) s1 ?_; (try simp only [pz, pn, sz, sc])) | (refine wl_concat rfl rfl (by rfl) (by rfl) s2 ?_; (try simp only [pz, pn, sz, sc])) | (refine wl_concat rfl rfl (by rfl) (by rfl) s3 ?_; (try simp only [pz, pn, sz, sc])) | (refine kf gf82 hst (hw) rfl rfl rfl rfl ?_; clear hst; intro w hst) | (refine ka 4 hst tz24 rfl rfl ?_; clear hst; intro b4 w hb4 hst) | (refine kt hst ta24 rfl rfl ?_; clear hst; intro w hst)); try simp only [pz, pn, sz, sc])
  refine bp_c rfl rfl (la hst ta24) ⟨?_, hst.keeps⟩
  rfl

end Go.Proofs.YtefpoconpeggpaaGreatDoor.Rd

namespace Go.Proofs.YtefpoconpeggpaaGreatDoor.Rd
open Go Go.RowKit
set_option linter.unusedVariables false
set_option linter.unusedSimpArgs false
set_option maxRecDepth 100000

set_option maxHeartbeats 4000000 in
theorem ref09_At (ng : Bool) (K : Nat) (aN aD : Option Addr) (xN yN xD yD : Nat) (E : Int) (c : Nat → Int → Int) (e : Int) (r : Nat) (s : Bool) (hK : KnC c e r s) (b p : Nat) (hp1 : 1 ≤ p) (hp2 : p ≤ 600) (hb : b ≤ 3000000) (hrp : r / 2 ^ (b + 1) < 2 ^ p) (pl : Int) (hpl : pl = e + ((b + 1 : Nat) : Int))
    (he1 : -10000000 ≤ e) (he2 : e ≤ 10000000) (m : Nat) (m1 : 1 ≤ m) (m5 : m ≤ 5) (w0 : World) (hC : CmpIs (RlV ng K (.slice aN xN yN) (.slice aD xD yD) E) c w0) :
    GivesN Tryz.prog 50 #[RlV ng K (.slice aN xN yN) (.slice aD xD yD) E, .int .i64 pl, .int .i64 p, .int .i64 m] (RT (.bool (decide (restN r (b + 1) s ≠ 0))) (cutN r (b + 1) s m ng)) w0 := by
  have hst := St.start [] w0
  have hdn := Lib.hid (fun w (k : Keeps [] w0 w) => ref09_Down ng K aN aD xN yN xD yD E c e r s hK b p hp1 hp2 hb hrp pl hpl he1 he2 w (hC.keep k))
  have hone := fun w => ref01_Small 1 (by decide) w
  have hQd := dl_2pow _ p hrp
  have hod := fun v w h => ref01_Odd v (dl (r / 2 ^ (b + 1))) (r / 2 ^ (b + 1)) w h
  have hgr := ref08_Grows m m1 m5 ng (decide (r / 2 ^ (b + 1) % 2 = 1)) (restN r (b + 1) s) (restN_le _ _ _)
  have hd1 := dl_B 1 (by decide)
  have hadd := fun va vb w (ha : BigAt w va (dl (r / 2 ^ (b + 1))) (r / 2 ^ (b + 1))) (hb : BigAt w vb (dl 1) 1) => ref01_Add va vb _ _ _ _ w ha hb (by omega) (by omega)
  have hcut : cutN r (b + 1) s m ng = r / 2 ^ (b + 1) + (if growsB m ng (decide (r / 2 ^ (b + 1) % 2 = 1)) (restN r (b + 1) s) then 1 else 0) := rfl
  have hne : decide (restN r (b + 1) s ≠ 0) = decide (0 < restN r (b + 1) s) := by
    by_cases h : restN r (b + 1) s = 0
    · rw [h]; rfl
    · rw [decide_eq_true h, decide_eq_true (by omega)]
  rw [hcut, hne]
  clear hcut hne hC hK hrp hpl hQd hd1
  unfold RlV at *
  generalize decide (r / 2 ^ (b + 1) % 2 = 1) = od at *
  generalize growsB m ng od (restN r (b + 1) s) = gb at *
  generalize restN r (b + 1) s = rs at *
  generalize r / 2 ^ (b + 1) = Q at *
  cases gb
  · rw [if_neg (by simp), Nat.add_zero]
    go_enter Tryz.func50, Tryz.ntmps50
    go_wp2_with ((first | (refine kN (o := ⟨some 16, _, _, _, _, _⟩) gf60 hst (fun w hst => hdn.out w hst.keeps) rfl rfl rfl rfl ?_; clear hst; intro v16 Lg16 w hn16 hR16 hst; (try simp only [List.cons_append, List.nil_append, List.append_nil, List.append_assoc] at hst); obtain ⟨s16, rfl, hb16⟩ := hR16) | (refine kb 4 hst rfl rfl ?_; clear hst; intro b4 w hb4 hst) | (refine kl hst ta41 rfl ?_)); try simp only [pz, pn, sz, sc])
    refine wp_region_T 7  hst (by kernel_rfl) ?_; clear hst; intro w hst; (try simp only [List.length_cons, List.length_nil, Nat.reduceAdd, Array.replicate_succ, Array.replicate_zero, List.push_toArray, List.nil_append, List.cons_append])
    refine r0 0 ?_; simp only [pz, pn, sz, sc]
    refine r0 1 ?_; simp only [pz, pn, sz, sc]
    refine r0 3 ?_; simp only [pz, pn, sz, sc]
    refine r0 5 ?_; simp only [pz, pn, sz, sc]
    refine rl 2 rfl ?_ (ylC tc4); simp only [pz, pn, sz, sc]
    refine r1 4 ?_; (refine kg gf80 hst (fun w hst => hod _ w (hb16.at hst (fun x h => by simp [h]))) rfl rfl rfl rfl ?_; clear hst; intro w hst); (try simp only [pz, pn, sz, sc]); refine re ?_
    refine r1 6 ?_; (refine kf gf79 hst (hgr) rfl rfl rfl rfl ?_; clear hst; intro w hst); (try simp only [pz, pn, sz, sc]); refine re ?_
    refine rd_ ?_
    all_goals
      go_wp2_with fail
      exact bp_tt rfl rfl (by rfl) (by rfl) (PostN.of hst hn16 ⟨_, rfl, hb16⟩ (fun x h => by simp [h]))
  · rw [if_pos rfl]
    go_enter Tryz.func50, Tryz.ntmps50
    go_wp2_with ((first | (refine kN (o := ⟨some 16, _, _, _, _, _⟩) gf60 hst (fun w hst => hdn.out w hst.keeps) rfl rfl rfl rfl ?_; clear hst; intro v16 Lg16 w hn16 hR16 hst; (try simp only [List.cons_append, List.nil_append, List.append_nil, List.append_assoc] at hst); obtain ⟨s16, rfl, hb16⟩ := hR16) | (refine kb 4 hst rfl rfl ?_; clear hst; intro b4 w hb4 hst) | (refine kl hst ta41 rfl ?_)); try simp only [pz, pn, sz, sc])
    refine wp_region_T 7  hst (by kernel_rfl) ?_; clear hst; intro w hst; (try simp only [List.length_cons, List.length_nil, Nat.reduceAdd, Array.replicate_succ, Array.replicate_zero, List.push_toArray, List.nil_append, List.cons_append])
    refine r0 0 ?_; simp only [pz, pn, sz, sc]
    refine r0 1 ?_; simp only [pz, pn, sz, sc]
    refine r0 3 ?_; simp only [pz, pn, sz, sc]
    refine r0 5 ?_; simp only [pz, pn, sz, sc]
    refine rl 2 rfl ?_ (ylC tc4); simp only [pz, pn, sz, sc]
    refine r1 4 ?_; (refine kg gf80 hst (fun w hst => hod _ w (hb16.at hst (fun x h => by simp [h]))) rfl rfl rfl rfl ?_; clear hst; intro w hst); (try simp only [pz, pn, sz, sc]); refine re ?_
    refine r1 6 ?_; (refine kf gf79 hst (hgr) rfl rfl rfl rfl ?_; clear hst; intro w hst); (try simp only [pz, pn, sz, sc]); refine re ?_
    refine rd_ ?_
    all_goals
      go_wp2_with ((first | (refine wl_callB (o := ⟨some 27, _, _, _, _, _⟩) gf33 hst (fun w hst => hone w) rfl rfl rfl rfl rfl ?_; clear hst; intro v27 Lg27 w hb27 hst; (try simp only [List.cons_append, List.nil_append, List.append_nil, List.append_assoc] at hst); (try simp only [pz, pn, sz, sc])) | (refine wl_callB (o := ⟨some 28, _, _, _, _, _⟩) gf17 hst (fun w hst => hadd _ _ w (hb16.at hst (fun x h => by simp [h])) (hb27.at hst (fun x h => by simp [h]))) rfl rfl rfl rfl rfl ?_; clear hst; intro v28 Lg28 w hb28 hst; (try simp only [List.cons_append, List.nil_append, List.append_nil, List.append_assoc] at hst); (try simp only [pz, pn, sz, sc]))); try simp only [pz, pn, sz, sc])
      exact bp_tt rfl rfl (by rfl) (by rfl) (PostN.of hst hb28.new ⟨_, rfl, hb28.any⟩ (fun x h => by simp [h]))

/-- The place of a number's highest digit, rounded. -/
def rTop (f m : Nat) (ng : Bool) (e : Int) (r : Nat) (s : Bool) : Int := e + bl r - fP f + bl (cutN r (bl r - fP f) s m ng) - 1
theorem rndR_over {f m : Nat} {ng : Bool} {e : Int} {r : Nat} {s : Bool} (h : (fE f : Int) < rTop f m ng e r s) : rndR f m ng e r s = (overW f m ng, 20) := by unfold rTop at h; unfold rndR; rw [if_pos h]
theorem rndR_low {f m : Nat} {ng : Bool} {e : Int} {r : Nat} {s : Bool} (h : rTop f m ng e r s < 1 - (fE f : Int)) : rndR f m ng e r s = (encW f ng 0 (cutN r (2 - (fE f : Int) - fP f - e).toNat s m ng), if restN r (2 - (fE f : Int) - fP f - e).toNat s = 0 then 0 else 24) := by
  have := fE_in f
  unfold rTop at h; unfold rndR; rw [if_neg (by omega), if_pos h]
theorem rndR_in {f m : Nat} {ng : Bool} {e : Int} {r : Nat} {s : Bool} (h1 : 1 - (fE f : Int) ≤ rTop f m ng e r s) (h2 : rTop f m ng e r s ≤ (fE f : Int)) :
    rndR f m ng e r s = (encW f ng (rTop f m ng e r s - (1 - (fE f : Int))).toNat (cutN r (bl r - fP f) s m ng * 2 ^ fP f / 2 ^ bl (cutN r (bl r - fP f) s m ng)), if restN r (bl r - fP f) s = 0 then 0 else 16) := by
  unfold rTop at *; unfold rndR; rw [if_neg (by omega), if_neg (by omega)]

end Go.Proofs.YtefpoconpeggpaaGreatDoor.Rd
