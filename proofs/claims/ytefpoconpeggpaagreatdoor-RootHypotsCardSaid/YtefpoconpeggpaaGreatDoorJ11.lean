/- Numbers of digits by 2^32, as cells that are set; what the reference's Mul answers. -/
import Derived.Test.YtefpoconpeggpaaGreatDoorJ06
import Derived.Test.YtefpoconpeggpaaGreatDoorJ08
import Derived.Test.YtefpoconpeggpaaGreatDoorJ04
import Derived.Test.YtefpoconpeggpaaGreatDoorJ10
import Derived.Laws.MakeOwn
namespace Go.Proofs.YtefpoconpeggpaaGreatDoor.Rd
set_option linter.unusedVariables false

theorem bl_mul_pow (a x : Nat) (h : a ≠ 0) : bl (a * 2 ^ x) = bl a + x := by
  have h1 := (bl_spec a).1
  have h2 := bl_lo h
  have h3 := bl_pos h
  obtain ⟨k, hk⟩ : ∃ k, bl a = k + 1 := ⟨bl a - 1, by omega⟩
  rw [hk] at h1 h2 ⊢
  rw [Nat.add_sub_cancel] at h2
  have hp : 0 < 2 ^ x := Nat.pow_pos (by omega)
  rw [show k + 1 + x = (k + x) + 1 by omega]
  apply bl_range
  · rw [Nat.pow_add]; exact Nat.mul_le_mul_right _ h2
  · rw [show k + x + 1 = (k + 1) + x by omega, Nat.pow_add]; exact Nat.mul_lt_mul_of_pos_right h1 hp

/-- a times 2^ea against b times 2^eb, without signs: below 0, 0, above 0. -/
def szC (a : Nat) (ea : Int) (b : Nat) (eb : Int) : Int :=
  if bl a = 0 ∨ bl b = 0 then min (bl a : Int) 1 - min (bl b : Int) 1
  else if ea + bl a ≠ eb + bl b then ea + bl a - eb - bl b
  else if a * 2 ^ (ea - min ea eb).toNat < b * 2 ^ (eb - min ea eb).toNat then -1 else if b * 2 ^ (eb - min ea eb).toNat < a * 2 ^ (ea - min ea eb).toNat then 1 else 0

theorem lt_of_bl {a b : Nat} (h : bl a < bl b) : a < b := by
  have h1 := (bl_spec a).1
  have hb : b ≠ 0 := fun e => by rw [e, bl_zero] at h; omega
  have h2 := bl_lo hb
  have h3 : 2 ^ bl a ≤ 2 ^ (bl b - 1) := Nat.pow_le_pow_right (by omega) (by omega)
  omega
theorem szC_sign (a : Nat) (ea : Int) (b : Nat) (eb : Int) :
    (szC a ea b eb < 0 ↔ a * 2 ^ (ea - min ea eb).toNat < b * 2 ^ (eb - min ea eb).toNat) ∧ (szC a ea b eb = 0 ↔ a * 2 ^ (ea - min ea eb).toNat = b * 2 ^ (eb - min ea eb).toNat) := by
  have hpa : 0 < 2 ^ (ea - min ea eb).toNat := Nat.pow_pos (by omega)
  have hpb : 0 < 2 ^ (eb - min ea eb).toNat := Nat.pow_pos (by omega)
  unfold szC
  by_cases ha : a = 0
  · subst ha
    rw [bl_zero, if_pos (.inl rfl), Nat.zero_mul]
    by_cases hb : b = 0
    · subst hb; rw [bl_zero, Nat.zero_mul]; simp
    · have h1 := bl_pos hb
      have h2 : 0 < b * 2 ^ (eb - min ea eb).toNat := Nat.mul_pos (by omega) hpb
      constructor <;> constructor <;> intro h <;> omega
  · have h1 := bl_pos ha
    by_cases hb : b = 0
    · subst hb
      rw [bl_zero, if_pos (.inr rfl), Nat.zero_mul]
      have h2 : 0 < a * 2 ^ (ea - min ea eb).toNat := Nat.mul_pos (by omega) hpa
      constructor <;> constructor <;> intro h <;> omega
    · have h2 := bl_pos hb
      rw [if_neg (by omega)]
      by_cases hd : ea + bl a ≠ eb + bl b
      · rw [if_pos hd]
        have e1 := bl_mul_pow a (ea - min ea eb).toNat ha
        have e2 := bl_mul_pow b (eb - min ea eb).toNat hb
        rcases Int.lt_or_lt_of_ne hd with h | h
        · have := lt_of_bl (a := a * 2 ^ (ea - min ea eb).toNat) (b := b * 2 ^ (eb - min ea eb).toNat) (by rw [e1, e2]; omega)
          constructor <;> constructor <;> intro h' <;> omega
        · have := lt_of_bl (a := b * 2 ^ (eb - min ea eb).toNat) (b := a * 2 ^ (ea - min ea eb).toNat) (by rw [e1, e2]; omega)
          constructor <;> constructor <;> intro h' <;> omega
      · rw [if_neg hd]
        split
        · constructor <;> constructor <;> intro h' <;> omega
        · split
          · constructor <;> constructor <;> intro h' <;> omega
          · constructor <;> constructor <;> intro h' <;> omega

/-- The same at any exponent that isn't above. -/
theorem scale_lt (a b : Nat) (ea eb l : Int) (h1 : l ≤ ea) (h2 : l ≤ eb) : (a * 2 ^ (ea - min ea eb).toNat < b * 2 ^ (eb - min ea eb).toNat ↔ a * 2 ^ (ea - l).toNat < b * 2 ^ (eb - l).toNat) ∧ (a * 2 ^ (ea - min ea eb).toNat = b * 2 ^ (eb - min ea eb).toNat ↔ a * 2 ^ (ea - l).toNat = b * 2 ^ (eb - l).toNat) := by
  obtain ⟨x, hx⟩ : ∃ x, x = (min ea eb - l).toNat := ⟨_, rfl⟩
  have e1 : (ea - l).toNat = (ea - min ea eb).toNat + x := by omega
  have e2 : (eb - l).toNat = (eb - min ea eb).toNat + x := by omega
  rw [e1, e2, Nat.pow_add, Nat.pow_add, ← Nat.mul_assoc, ← Nat.mul_assoc]
  have hp : 0 < 2 ^ x := Nat.pow_pos (by omega)
  generalize a * 2 ^ (ea - min ea eb).toNat = u
  generalize b * 2 ^ (eb - min ea eb).toNat = v
  exact ⟨(Nat.mul_lt_mul_right hp).symm, ⟨fun h => by rw [h], fun h => Nat.eq_of_mul_eq_mul_right hp h⟩⟩

end Go.Proofs.YtefpoconpeggpaaGreatDoor.Rd

namespace Go.Proofs.YtefpoconpeggpaaGreatDoor.Rd
open Go Go.RowKit
set_option linter.unusedVariables false
set_option linter.unusedSimpArgs false
set_option maxRecDepth 100000

theorem or_low' (a b s : Nat) (ha : a * 2 ^ s < B) (hb : b < 2 ^ s) (hB : b < B) : bits .or .u64 (b : Int) ((a * 2 ^ s : Nat) : Int) = ((b + a * 2 ^ s : Nat) : Int) := by
  rw [bits_or_u64_nat _ _ (by rw [← B_val]; exact hB) (by rw [← B_val]; exact ha)]
  congr 1
  rw [Nat.or_comm, Nat.mul_comm, Nat.add_comm b, Nat.two_pow_add_eq_or_of_lt hb]

theorem two_pow_32 (k : Nat) : 2 ^ k = C ^ (k / 32) * 2 ^ (k % 32) := by
  rw [C_pow, ← Nat.pow_add]
  congr 1
  omega
end Go.Proofs.YtefpoconpeggpaaGreatDoor.Rd

namespace Go.Proofs.YtefpoconpeggpaaGreatDoor.Rd
open Go Go.RowKit
set_option linter.unusedVariables false
set_option linter.unusedSimpArgs false
set_option maxRecDepth 100000

theorem uc_zeros (q : Nat) : uc q 0 ++ [.int .u32 0] = uc (q + 1) 0 := by
  have := uc_snoc 0 0 q (Cp_pos q) C_pos
  simpa using this

set_option maxHeartbeats 8000000 in
theorem ref01_Shl (va : Value) (la a k : Nat) (w0 : World) (ha : BigAt w0 va la a) (hla : la ≤ 100000) (hk : k ≤ 100000) : GivesB Tryz.prog 18 #[va, .int .i64 k] (a * 2 ^ k) w0 := by
  have hst := St.start [] w0
  have hda := fun (i : Nat) (hi : i ≤ 1000000) (w : World) (hst : Keeps [] w0 w) => ref01_digit va la a i hi w (ha.keep hst)
  obtain ⟨han, _, aa, capa, rfl, _, _⟩ := ha
  obtain ⟨q, hq⟩ : ∃ q, q = k / 32 := ⟨_, rfl⟩
  obtain ⟨r, hr⟩ : ∃ r, r = k % 32 := ⟨_, rfl⟩
  have hm : a * 2 ^ k = a * 2 ^ r * C ^ q := by rw [two_pow_32 k, ← hq, ← hr, Nat.mul_assoc, Nat.mul_comm (C ^ q)]
  have Q1 : (k : Int) / 32 = (q : Int) := by omega
  have Q2 : (k : Int) % 32 = (r : Int) := by omega
  have Q3 : (0 : Int) ≤ (k : Int) := by omega
  have hr32 : r < 32 := by omega
  have hqk : q ≤ 100000 := by omega
  have hr1 : (0 : Int) ≤ (r : Int) := by omega
  have hr2 : (r : Int) < 32 := by omega
  rw [hm]
  have hm' := Lib.hid hm
  clear hq hr hm
  go_enter Tryz.func18, Tryz.ntmps18
  go_wp2_with fail
  go_loopw [6, 5] (fun vi vo wr => ∃ (j : Nat) (Lg : List (Nat × Obj)), j ≤ q ∧ vi = .int .i64 j ∧ GRow w0 Lg 72 1 vo j (uc j 0) ∧ St w0 [] Lg wr) (fun vi _ _ => q - (intOf vi).toNat)
  case atStart => exact ⟨0, [], by omega, by go_num, GRow.nil _ _ _, hst⟩
  case round =>
    clear hst
    obtain ⟨j, Lg, hj, rfl, hgr, hst⟩ := hrel
    by_cases hlt : j < q
    · have hz := Lib.hid (uc_zeros j)
      have hjq : (j : Int) < (q : Int) := by omega
      have hjj : j < 200000 := by omega
      go_wp2_with ((first | (refine wl_append1 (bytes := 4) (o := ⟨some 17, _, _, _, _, _⟩) hgr hst ts39 te72 (show BytesT _ _ _ by unfold BytesT; kernel_rfl) rfl rfl (by rfl) (by rfl) (by repeat (first | exact Tl.here | apply Tl.there)) (by rfl) (by rfl) (by omega) (by omega) ?_; clear hst hgr; intro v17 Lg w hgr hst; (try simp only [List.cons_append, List.nil_append] at hst); (try simp only [pz, pn, sz, sc])) | (refine wl_slice1 (o := ⟨some 16, _, _, _, _, _⟩) hst ts39 te72 rfl rfl (by (simp only [eval_lit, eval_k, eval_f, eval_g, List.getD_cons_succ, List.getD_cons_zero]) <;> rfl) (by rfl) ?_; clear hst; intro b16 w hb16 hst)); try simp only [pz, pn, sz, sc])
      refine ⟨⟨j + 1, _, by omega, by go_num, by rw [← hz.out]; exact hgr, hst⟩, ?_⟩
      simp [intOf]; omega
    · have hje : j = q := by omega
      subst hje
      have hjq : ¬ ((j : Int) < (j : Int)) := by omega
      clear hlt hj
      go_wp2_with fail
      go_loopw [8, 7, 5] (fun vi vc vo wr => ∃ (i c s : Nat) (Lg : List (Nat × Obj)), i ≤ la + 1 ∧ vi = .int .i64 i ∧ vc = .int .u64 c ∧ c < 2 ^ r ∧ s < C ^ i ∧ s + c * C ^ i = a % C ^ i * 2 ^ r ∧ GRow w0 Lg 72 1 vo (j + i) (uc (j + i) (s * C ^ j)) ∧ St w0 [] Lg wr) (fun vi _ _ _ => la + 1 - (intOf vi).toNat)
      case atStart => exact ⟨0, 0, 0, Lg, by omega, rfl, rfl, Nat.pow_pos (by omega), by simp, by simp [Nat.mod_one], by simpa using hgr, hst⟩
      case round =>
        clear hst hgr
        obtain ⟨i, c, s, Lg, hi, rfl, rfl, hc, hs, he, hgr, hst⟩ := hrel
        by_cases hle : i ≤ la
        · have hdai := hda i (by omega)
          have hsa := dg_split a i
          have hx := dg_lt a i
          generalize dg a i = x at *
          obtain ⟨Z, hZ⟩ : ∃ Z, Z = x * 2 ^ r := ⟨_, rfl⟩
          obtain ⟨t2, ht2⟩ : ∃ t2, t2 = c + x * 2 ^ r := ⟨_, rfl⟩
          obtain ⟨d, hd⟩ : ∃ d, d = t2 % C := ⟨_, rfl⟩
          obtain ⟨p, hp⟩ : ∃ p, p = t2 / C := ⟨_, rfl⟩
          have hdC : d < C := by rw [hd]; exact Nat.mod_lt _ C_pos
          have hpr : C * p + d = t2 := by rw [hp, hd]; exact Nat.div_add_mod _ _
          have h2r : 2 ^ r ≤ 2 ^ 31 := Nat.pow_le_pow_right (by omega) (by omega)
          have htC : t2 < C * 2 ^ r := by
            have : (x + 1) * 2 ^ r ≤ C * 2 ^ r := Nat.mul_le_mul_right _ hx
            rw [Nat.add_mul, Nat.one_mul] at this
            omega
          have htB : t2 < B := by
            have : C * 2 ^ r ≤ C * 2 ^ 31 := Nat.mul_le_mul_left _ h2r
            rw [C_val] at this htC
            rw [B_val]; omega
          have hp2 : p < 2 ^ r := by
            rw [hp, Nat.div_lt_iff_lt_mul C_pos, Nat.mul_comm]; exact htC
          have hsl := add_lt_C s d i hs hdC
          have hsC : s * C ^ j < C ^ (j + i) := by
            rw [Nat.pow_add, Nat.mul_comm]
            exact Nat.mul_lt_mul_of_pos_left hs (Cp_pos j)
          have hsn := uc_snoc (s * C ^ j) d (j + i) hsC hdC
          have hse : s * C ^ j + d * C ^ (j + i) = (s + d * C ^ i) * C ^ j := by
            rw [Nat.add_mul, Nat.mul_assoc d, ← Nat.pow_add, Nat.add_comm i]
          rw [hse] at hsn
          have he' : s + d * C ^ i + p * C ^ (i + 1) = a % C ^ (i + 1) * 2 ^ r := by
            rw [hsa, Nat.add_mul]
            have e2 : p * C ^ (i + 1) + d * C ^ i = t2 * C ^ i := by
              rw [← hpr, Nat.add_mul, Nat.pow_succ', ← Nat.mul_assoc, Nat.mul_comm p]
            have e3 : t2 * C ^ i = c * C ^ i + x * C ^ i * 2 ^ r := by
              rw [ht2, Nat.add_mul, Nat.mul_right_comm]
            omega
          have hZB : x * 2 ^ r < B := by omega
          have F0 : IntKind.u64.wrap ((x : Int) * 2 ^ r) = (Z : Int) := u64_wrap' _ Z _ (by rw [hZ, cast_pow2]; exact (Int.natCast_mul _ _).symm) (Nat.mod_eq_of_lt (by rw [hZ]; exact hZB))
          have F1 : bits .or .u64 (c : Int) (Z : Int) = (t2 : Int) := by
            have := or_low' x c r hZB hc (by omega)
            rw [hZ, ht2]; exact this
          have F3 : IntKind.u32.wrap (t2 : Int) = (d : Int) := by rw [u32_wrap, hd]
          have F4 : (t2 : Int) / 4294967296 = (p : Int) := by rw [C_val] at hp; omega
          have hsn' := Lib.hid hsn
          have he'' := Lib.hid he'
          have hp2' := Lib.hid hp2
          have hi1 : (i : Int) ≤ (la : Int) := by omega
          have hi2 : i ≤ 100000 := by omega
          have hji : j + i ≤ 200000 := by omega
          clear he hsa hx hZ ht2 hd hp hdC hpr h2r htC htB hsC hse hsn he' hs hc hle hi hZB hp2
          go_wp2_with ((first | (refine kg gf40 hst (fun w hst => hdai w hst.keeps) rfl rfl rfl rfl ?_; clear hst; intro w hst) | (refine wl_append1 (bytes := 4) (o := ⟨some 36, _, _, _, _, _⟩) hgr hst ts39 te72 (show BytesT _ _ _ by unfold BytesT; kernel_rfl) rfl rfl (by rfl) (by rfl) (by repeat (first | exact Tl.here | apply Tl.there)) (by rfl) (by rfl) (by omega) (by omega) ?_; clear hst hgr; intro v36 Lg w hgr hst; (try simp only [List.cons_append, List.nil_append] at hst); (try simp only [pz, pn, sz, sc])) | (refine wl_slice1 (o := ⟨some 35, _, _, _, _, _⟩) hst ts39 te72 rfl rfl (by (simp only [eval_lit, eval_k, eval_f, eval_g, List.getD_cons_succ, List.getD_cons_zero]) <;> rfl) (by rfl) ?_; clear hst; intro b35 w hb35 hst)); try simp only [pz, pn, sz, sc])
          refine ⟨⟨i + 1, p, s + d * C ^ i, _, by omega, by go_num, rfl, hp2'.out, hsl, he''.out, by rw [show j + (i + 1) = j + i + 1 by omega, ← hsn'.out]; exact hgr, hst⟩, ?_⟩
          simp [intOf]; omega
        · have hie : i = la + 1 := by omega
          subst hie
          have h31 : 2 ^ r < C := Nat.pow_lt_pow_right (n := 32) (by omega) (by omega)
          have hbig : a * 2 ^ r < C ^ (la + 1) := by
            rw [Nat.pow_succ]
            exact Nat.mul_lt_mul'' han h31
          rw [Nat.mod_eq_of_lt (show a < C ^ (la + 1) from Nat.lt_of_lt_of_le han (Nat.pow_le_pow_right C_pos (by omega)))] at he
          have hc0 : c = 0 := by
            rcases Nat.eq_zero_or_pos c with h | h
            · exact h
            · have : 1 * C ^ (la + 1) ≤ c * C ^ (la + 1) := Nat.mul_le_mul_right _ h
              omega
          subst hc0
          rw [Nat.zero_mul, Nat.add_zero] at he
          rw [he] at hgr hs
          have hsC : a * 2 ^ r * C ^ j < C ^ (j + (la + 1)) := by
            rw [Nat.pow_add, Nat.mul_comm]
            exact Nat.mul_lt_mul_of_pos_left hs (Cp_pos j)
          obtain ⟨ao, co, rfl, hat, hbi⟩ := hgr.big (L := Lg) hsC (by omega) (fun x h => h)
          have htr := fun w hst => ref01_trim ao (j + (la + 1)) co _ w (hat [] w hst)
          have hi1 : ¬ ((la : Int) + 1 ≤ (la : Int)) := by omega
          have hi2 : ((la + 1 : Nat) : Int) = (la : Int) + 1 := by omega
          rw [hi2]
          generalize j + (la + 1) = J at *
          generalize a * 2 ^ r * C ^ j = V at *
          clear hs he hi hle hi2 hat hgr hsC hbig h31
          go_wp2_with ((first | (refine kg gf41 hst (htr) rfl rfl rfl rfl ?_; clear hst; intro w hst)); try simp only [pz, pn, sz, sc])
          refine bp_t rfl rfl (by rfl) (PostB.of hst hbi (fun x h => h))

end Go.Proofs.YtefpoconpeggpaaGreatDoor.Rd

namespace Go.Proofs.YtefpoconpeggpaaGreatDoor.Rd
open Go Go.RowKit
set_option linter.unusedVariables false
set_option linter.unusedSimpArgs false
set_option maxRecDepth 100000

set_option maxHeartbeats 4000000 in
theorem ref07_Size (va vb : Value) (la lb' a b : Nat) (na nb : Bool) (ea eb : Int) (hla : la ≤ 1000) (hlb : lb' ≤ 1000) (ha1 : -100000000 ≤ ea) (ha2 : ea ≤ 100000000) (hb1 : -100000000 ≤ eb) (hb2 : eb ≤ 100000000) (hba : bl a ≤ 32000) (hbb : bl b ≤ 32000) (w0 : World) (ha : BigAt w0 va la a) (hb : BigAt w0 vb lb' b) :
    GivesAt Tryz.prog 39 #[.agg #[.bool na, va, .int .i64 ea], .agg #[.bool nb, vb, .int .i64 eb]] (.int .i64 (szC a ea b eb)) w0 := by
  have hst := St.start [] w0
  have hl1 := fun w (h : BigAt w va la a) => ref01_Len va la a w h
  have hl2 := fun w (h : BigAt w vb lb' b) => ref01_Len vb lb' b w h
  have ha' := Lib.hid (fun w (k : Keeps [] w0 w) => ha.keep k)
  have hb' := Lib.hid (fun w (k : Keeps [] w0 w) => hb.keep k)
  unfold szC
  by_cases h0 : bl a = 0 ∨ bl b = 0
  · rw [if_pos h0]
    clear ha hb
    generalize bl a = x at *
    generalize bl b = y at *
    by_cases hx : x = 0
    · subst hx
      clear h0
      rw [show ((0 : Nat) : Int) = 0 from rfl] at hl1 ⊢
      go_enter Tryz.func39, Tryz.ntmps39
      go_wp2_with ((first | (refine kb 2 hst rfl rfl ?_; clear hst; intro b2 w hb2 hst) | (refine kb 3 hst rfl rfl ?_; clear hst; intro b3 w hb3 hst)); try simp only [pz, pn, sz, sc])
      refine wp_region_T 8  hst (by kernel_rfl) ?_; clear hst; intro w hst; (try simp only [List.length_cons, List.length_nil, Nat.reduceAdd, Array.replicate_succ, Array.replicate_zero, List.push_toArray, List.nil_append, List.cons_append])
      refine r0 0 ?_; simp only [pz, pn, sz, sc]
      refine r0 3 ?_; simp only [pz, pn, sz, sc]
      refine rl 1 rfl ?_ (ylC tc39); simp only [pz, pn, sz, sc]
      refine rl 4 rfl ?_ (ylC tc39); simp only [pz, pn, sz, sc]
      refine r1 2 ?_; (refine kg gf20 hst (fun w hst => hl1 w (ha'.out w hst.keeps)) rfl rfl rfl rfl ?_; clear hst; intro w hst); (try simp only [pz, pn, sz, sc]); refine re ?_
      refine r1 5 ?_; (refine kg gf20 hst (fun w hst => hl2 w (hb'.out w hst.keeps)) rfl rfl rfl rfl ?_; clear hst; intro w hst); (try simp only [pz, pn, sz, sc]); refine re ?_
      refine r0 6 ?_; simp only [pz, pn, sz, sc]
      refine r0 7 ?_; simp only [pz, pn, sz, sc]
      refine rd_ ?_
      all_goals
        go_wp2_with fail
        refine bp_t rfl rfl (by rfl) ⟨?_, hst.keeps⟩
        first | rfl | (simp; omega)
    · obtain rfl : y = 0 := by omega
      have Qx : ((x : Int) == 0) = false := by simp; omega
      clear h0 hx
      rw [show ((0 : Nat) : Int) = 0 from rfl] at hl2 ⊢
      go_enter Tryz.func39, Tryz.ntmps39
      go_wp2_with ((first | (refine kb 2 hst rfl rfl ?_; clear hst; intro b2 w hb2 hst) | (refine kb 3 hst rfl rfl ?_; clear hst; intro b3 w hb3 hst)); try simp only [pz, pn, sz, sc])
      refine wp_region_T 8  hst (by kernel_rfl) ?_; clear hst; intro w hst; (try simp only [List.length_cons, List.length_nil, Nat.reduceAdd, Array.replicate_succ, Array.replicate_zero, List.push_toArray, List.nil_append, List.cons_append])
      refine r0 0 ?_; simp only [pz, pn, sz, sc]
      refine r0 3 ?_; simp only [pz, pn, sz, sc]
      refine rl 1 rfl ?_ (ylC tc39); simp only [pz, pn, sz, sc]
      refine rl 4 rfl ?_ (ylC tc39); simp only [pz, pn, sz, sc]
      refine r1 2 ?_; (refine kg gf20 hst (fun w hst => hl1 w (ha'.out w hst.keeps)) rfl rfl rfl rfl ?_; clear hst; intro w hst); (try simp only [pz, pn, sz, sc]); refine re ?_
      refine r1 5 ?_; (refine kg gf20 hst (fun w hst => hl2 w (hb'.out w hst.keeps)) rfl rfl rfl rfl ?_; clear hst; intro w hst); (try simp only [pz, pn, sz, sc]); refine re ?_
      refine r0 6 ?_; simp only [pz, pn, sz, sc]
      refine r0 7 ?_; simp only [pz, pn, sz, sc]
      refine rd_ ?_
      all_goals
        go_wp2_with fail
        refine bp_t rfl rfl (by rfl) ⟨?_, hst.keeps⟩
        first | rfl | (simp; omega)
  · rw [if_neg h0]
    have Qx : ((bl a : Int) == 0) = false := by simp; omega
    have Qy : ((bl b : Int) == 0) = false := by simp; omega
    by_cases hd : ea + (bl a : Int) ≠ eb + bl b
    · rw [if_pos hd]
      have QD : ((ea + (bl a : Int)) != (eb + (bl b : Int))) = true := by simpa using hd
      have QD2 : ((ea + (bl a : Int)) == (eb + (bl b : Int))) = false := by simpa using hd
      clear ha hb hd h0
      generalize bl a = x at *
      generalize bl b = y at *
      go_enter Tryz.func39, Tryz.ntmps39
      go_wp2_with ((first | (refine kb 2 hst rfl rfl ?_; clear hst; intro b2 w hb2 hst) | (refine kb 3 hst rfl rfl ?_; clear hst; intro b3 w hb3 hst)); try simp only [pz, pn, sz, sc])
      refine wp_region_T 8  hst (by kernel_rfl) ?_; clear hst; intro w hst; (try simp only [List.length_cons, List.length_nil, Nat.reduceAdd, Array.replicate_succ, Array.replicate_zero, List.push_toArray, List.nil_append, List.cons_append])
      refine r0 0 ?_; simp only [pz, pn, sz, sc]
      refine r0 3 ?_; simp only [pz, pn, sz, sc]
      refine rl 1 rfl ?_ (ylC tc39); simp only [pz, pn, sz, sc]
      refine rl 4 rfl ?_ (ylC tc39); simp only [pz, pn, sz, sc]
      refine r1 2 ?_; (refine kg gf20 hst (fun w hst => hl1 w (ha'.out w hst.keeps)) rfl rfl rfl rfl ?_; clear hst; intro w hst); (try simp only [pz, pn, sz, sc]); refine re ?_
      refine r1 5 ?_; (refine kg gf20 hst (fun w hst => hl2 w (hb'.out w hst.keeps)) rfl rfl rfl rfl ?_; clear hst; intro w hst); (try simp only [pz, pn, sz, sc]); refine re ?_
      refine r0 6 ?_; simp only [pz, pn, sz, sc]
      refine r0 7 ?_; simp only [pz, pn, sz, sc]
      refine rd_ ?_
      all_goals
        go_wp2_with ((first | (refine kc hst tc3 rfl ?_)); try simp only [pz, pn, sz, sc])
        refine bp_t rfl rfl (by rfl) ⟨?_, hst.keeps⟩
        rfl
    · rw [if_neg hd]
      have hd' : ea + (bl a : Int) = eb + bl b := by omega
      have QD : ((ea + (bl a : Int)) != (eb + (bl b : Int))) = false := by simpa using hd'
      have QD2 : ((ea + (bl a : Int)) == (eb + (bl b : Int))) = true := by simpa using hd'
      obtain ⟨s1, hs1⟩ : ∃ s1, s1 = (ea - min ea eb).toNat := ⟨_, rfl⟩
      obtain ⟨s2, hs2⟩ : ∃ s2, s2 = (eb - min ea eb).toNat := ⟨_, rfl⟩
      rw [← hs1, ← hs2]
      have e1 : ea - min ea eb = (s1 : Int) := by omega
      have e2 : eb - min ea eb = (s2 : Int) := by omega
      have l1 : s1 ≤ 32000 := by omega
      have l2 : s2 ≤ 32000 := by omega
      have W1 : IntKind.i64.wrap (ea - min ea eb) = (s1 : Int) := by rw [e1, IntKind.wrap_i64]; omega
      have W2 : IntKind.i64.wrap (eb - min ea eb) = (s2 : Int) := by rw [e2, IntKind.wrap_i64]; omega
      have hsz : ∀ n s, bl n ≤ 32000 → s ≤ 32000 → dl (n * 2 ^ s) ≤ 100000 := fun n s h1 h2 => by
        have key : ∀ k, 64000 ≤ 32 * k → k ≤ 100000 → dl (n * 2 ^ s) ≤ 100000 := fun k hk hk2 => by
          refine Nat.le_trans (dl_le.2 ?_) hk2
          rw [show C = 2 ^ 32 from rfl, ← Nat.pow_mul]
          have a := Nat.mul_lt_mul_of_pos_right (bl_spec n).1 (show 0 < 2 ^ s from Nat.pow_pos (by omega))
          rw [← Nat.pow_add] at a
          exact Nat.lt_of_lt_of_le a (Nat.pow_le_pow_right (by omega) (by omega))
        exact key 2000 (by omega) (by omega)
      have c1 := fun w (h : BigAt w va la a) => ref01_Shl va la a s1 w h (by omega) (by omega)
      have c2 := fun w (h : BigAt w vb lb' b) => ref01_Shl vb lb' b s2 w h (by omega) (by omega)
      have z1 := hsz a s1 hba l1
      have z2 := hsz b s2 hbb l2
      have hcm : cmp (a * 2 ^ s1) (b * 2 ^ s2) = if a * 2 ^ s1 < b * 2 ^ s2 then -1 else if b * 2 ^ s2 < a * 2 ^ s1 then 1 else 0 := rfl
      rw [← hcm]
      have c3 := fun v1 v2 w (h1 : BigAt w v1 (dl (a * 2 ^ s1)) (a * 2 ^ s1)) (h2 : BigAt w v2 (dl (b * 2 ^ s2)) (b * 2 ^ s2)) => ref01_Cmp v1 v2 _ _ _ _ w h1 h2 z1 z2
      have m1 : min ea eb ≤ 100000000 := by omega
      have m2 : -100000000 ≤ min ea eb := by omega
      clear ha hb hd h0 hd' hcm hsz hs1 hs2 e1 e2
      generalize cmp (a * 2 ^ s1) (b * 2 ^ s2) = res at *
      generalize a * 2 ^ s1 = u at *
      generalize b * 2 ^ s2 = v at *
      generalize bl a = x at *
      generalize bl b = y at *
      go_enter Tryz.func39, Tryz.ntmps39
      go_wp2_with ((first | (refine kb 2 hst rfl rfl ?_; clear hst; intro b2 w hb2 hst) | (refine kb 3 hst rfl rfl ?_; clear hst; intro b3 w hb3 hst)); try simp only [pz, pn, sz, sc])
      refine wp_region_T 8  hst (by kernel_rfl) ?_; clear hst; intro w hst; (try simp only [List.length_cons, List.length_nil, Nat.reduceAdd, Array.replicate_succ, Array.replicate_zero, List.push_toArray, List.nil_append, List.cons_append])
      refine r0 0 ?_; simp only [pz, pn, sz, sc]
      refine r0 3 ?_; simp only [pz, pn, sz, sc]
      refine rl 1 rfl ?_ (ylC tc39); simp only [pz, pn, sz, sc]
      refine rl 4 rfl ?_ (ylC tc39); simp only [pz, pn, sz, sc]
      refine r1 2 ?_; (refine kg gf20 hst (fun w hst => hl1 w (ha'.out w hst.keeps)) rfl rfl rfl rfl ?_; clear hst; intro w hst); (try simp only [pz, pn, sz, sc]); refine re ?_
      refine r1 5 ?_; (refine kg gf20 hst (fun w hst => hl2 w (hb'.out w hst.keeps)) rfl rfl rfl rfl ?_; clear hst; intro w hst); (try simp only [pz, pn, sz, sc]); refine re ?_
      refine r0 6 ?_; simp only [pz, pn, sz, sc]
      refine r0 7 ?_; simp only [pz, pn, sz, sc]
      refine rd_ ?_
      all_goals
        go_wp2_with ((first | (refine kc hst tc3 rfl ?_)); try simp only [pz, pn, sz, sc])
        refine wp_region_T 16  hst (by kernel_rfl) ?_; clear hst; intro w hst; (try simp only [List.length_cons, List.length_nil, Nat.reduceAdd, Array.replicate_succ, Array.replicate_zero, List.push_toArray, List.nil_append, List.cons_append])
        refine r0 0 ?_; simp only [pz, pn, sz, sc, W1, W2]
        refine r0 2 ?_; simp only [pz, pn, sz, sc, W1, W2]
        refine r0 4 ?_; simp only [pz, pn, sz, sc, W1, W2]
        refine r0 7 ?_; simp only [pz, pn, sz, sc, W1, W2]
        refine r0 9 ?_; simp only [pz, pn, sz, sc, W1, W2]
        refine r0 11 ?_; simp only [pz, pn, sz, sc, W1, W2]
        refine rl 1 rfl ?_ (ylC tc39); simp only [pz, pn, sz, sc, W1, W2]
        refine rl 3 rfl ?_ (ylC tc3); simp only [pz, pn, sz, sc, W1, W2]
        refine r0 5 ?_; simp only [pz, pn, sz, sc, W1, W2]
        refine rl 8 rfl ?_ (ylC tc39); simp only [pz, pn, sz, sc, W1, W2]
        refine rl 10 rfl ?_ (ylC tc3); simp only [pz, pn, sz, sc, W1, W2]
        refine r0 12 ?_; simp only [pz, pn, sz, sc, W1, W2]
        refine r1 6 ?_; (refine wl_callB (o := ⟨some 54, _, _, _, _, _⟩) gf18 hst (fun w hst => c1 w (ha'.out w hst.keeps)) rfl rfl rfl rfl rfl ?_; clear hst; intro v54 Lg54 w hb54 hst; (try simp only [List.cons_append, List.nil_append, List.append_nil, List.append_assoc] at hst); (try simp only [pz, pn, sz, sc])); (try simp only [pz, pn, sz, sc, W1, W2]); refine re ?_
        refine r1 13 ?_; (refine wl_callB (o := ⟨some 61, _, _, _, _, _⟩) gf18 hst (fun w hst => c2 w (hb'.out w hst.keeps)) rfl rfl rfl rfl rfl ?_; clear hst; intro v61 Lg61 w hb61 hst; (try simp only [List.cons_append, List.nil_append, List.append_nil, List.append_assoc] at hst); (try simp only [pz, pn, sz, sc])); (try simp only [pz, pn, sz, sc, W1, W2]); refine re ?_
        refine r1 14 ?_; (refine kg gf27 hst (fun w hst => c3 _ _ w (hb54.at hst (fun x h => by simp [h])) (hb61.at hst (fun x h => by simp [h]))) rfl rfl rfl rfl ?_; clear hst; intro w hst); (try simp only [pz, pn, sz, sc, W1, W2]); refine re ?_
        refine r0 15 ?_; simp only [pz, pn, sz, sc, W1, W2]
        refine rd_ ?_
        all_goals
          go_wp2_with fail
          refine bp_t rfl rfl (by rfl) ⟨?_, hst.keeps⟩
          rfl

end Go.Proofs.YtefpoconpeggpaaGreatDoor.Rd

namespace Go.Proofs.YtefpoconpeggpaaGreatDoor.Rd
open Go Go.RowKit
set_option linter.unusedVariables false
set_option linter.unusedSimpArgs false
set_option maxRecDepth 100000

/-- The cells of a number of k digits. -/
def uw (k n : Nat) : Array Value := (Array.range k).map fun i => .int .u32 (dg n i : Nat)
@[simp] theorem uw_size (k n : Nat) : (uw k n).size = k := by simp [uw]
theorem uw_get (k n i : Nat) (h : i < k) : (uw k n)[i]? = some (.int .u32 (dg n i : Nat)) := by simp [uw, h]

theorem dg_add_at (n d k i : Nat) (hn : n < C ^ k) (hd : d < C) : dg (n + d * C ^ k) i = if i = k then d else dg n i := by
  unfold dg
  rcases Nat.lt_trichotomy i k with h | h | h
  · rw [if_neg (by omega)]
    have e : C ^ k = C ^ i * (C * C ^ (k - i - 1)) := by
      rw [← Nat.pow_succ', ← Nat.pow_add]; congr 1; omega
    rw [e, show n + d * (C ^ i * (C * C ^ (k - i - 1))) = n + C ^ i * (C * (d * C ^ (k - i - 1))) by
      rw [Nat.mul_left_comm, Nat.mul_left_comm d], Nat.add_mul_div_left _ _ (Cp_pos i), Nat.add_mul_mod_self_left]
  · subst h
    rw [if_pos rfl, Nat.add_mul_div_right _ _ (Cp_pos i), Nat.div_eq_of_lt hn, Nat.zero_add, Nat.mod_eq_of_lt hd]
  · rw [if_neg (by omega)]
    have h1 : n + d * C ^ k < C ^ (k + 1) := by
      rw [Nat.pow_succ, Nat.mul_comm (C ^ k)]
      calc n + d * C ^ k < C ^ k + d * C ^ k := by omega
        _ = (d + 1) * C ^ k := by rw [Nat.add_mul, Nat.one_mul, Nat.add_comm]
        _ ≤ C * C ^ k := Nat.mul_le_mul_right _ hd
    have h2 : C ^ (k + 1) ≤ C ^ i := Nat.pow_le_pow_right C_pos h
    have h3 : C ^ k ≤ C ^ i := Nat.pow_le_pow_right C_pos (by omega)
    rw [Nat.div_eq_of_lt (by omega), Nat.div_eq_of_lt (by omega)]

theorem dg_part (n o len i : Nat) (h : i < len) : dg (n / C ^ o % C ^ len) i = dg n (o + i) := by
  unfold dg
  have e : C ^ len = C ^ i * C ^ (len - i) := by rw [← Nat.pow_add]; congr 1; omega
  rw [e, Nat.mod_mul_right_div_self, Nat.div_div_eq_div_mul, ← Nat.pow_add, Nat.mod_mod_of_dvd]
  exact ⟨C ^ (len - i - 1), by rw [← Nat.pow_succ']; congr 1; omega⟩

/-- A number with another digit at a place. -/
def setC (m j d : Nat) : Nat := m % C ^ j + d * C ^ j + m / C ^ (j + 1) * C ^ (j + 1)

theorem setC_eq (m j d : Nat) : setC m j d + dg m j * C ^ j = m + d * C ^ j := by
  have h1 := Nat.div_add_mod m (C ^ (j + 1))
  have h2 := dg_split m j
  unfold setC
  rw [Nat.mul_comm] at h1
  omega

theorem dg_setC (m j d i : Nat) (hd : d < C) : dg (setC m j d) i = if i = j then d else dg m i := by
  have hlo : m % C ^ j < C ^ j := Nat.mod_lt _ (Cp_pos j)
  have hlow : m % C ^ j + d * C ^ j < C ^ (j + 1) := by
    rw [Nat.pow_succ, Nat.mul_comm (C ^ j)]
    have : (d + 1) * C ^ j ≤ C * C ^ j := Nat.mul_le_mul_right _ hd
    rw [Nat.add_mul, Nat.one_mul] at this
    omega
  unfold setC
  rcases Nat.lt_or_ge j i with h | h
  · rw [if_neg (by omega)]
    unfold dg
    have e : C ^ i = C ^ (j + 1) * C ^ (i - (j + 1)) := by rw [← Nat.pow_add]; congr 1; omega
    rw [e, ← Nat.div_div_eq_div_mul, ← Nat.div_div_eq_div_mul, Nat.add_mul_div_right _ _ (Cp_pos (j + 1)), Nat.div_eq_of_lt hlow, Nat.zero_add]
  · have e : m / C ^ (j + 1) * C ^ (j + 1) = C ^ i * (C * (m / C ^ (j + 1) * C ^ (j - i))) := by
      have : C ^ (j + 1) = C ^ i * (C * C ^ (j - i)) := by rw [← Nat.pow_succ', ← Nat.pow_add]; congr 1; omega
      rw [Nat.mul_comm (m / C ^ (j + 1)) (C ^ (j - i)), ← Nat.mul_assoc C, ← Nat.mul_assoc (C ^ i), ← this, Nat.mul_comm]
    have h2 : dg (m % C ^ j + d * C ^ j + m / C ^ (j + 1) * C ^ (j + 1)) i = dg (m % C ^ j + d * C ^ j) i := by
      unfold dg
      rw [e, Nat.add_mul_div_left _ _ (Cp_pos i), Nat.add_mul_mod_self_left]
    rw [h2, dg_add_at _ _ _ _ hlo hd]
    by_cases hij : i = j
    · rw [if_pos hij, if_pos hij]
    · rw [if_neg hij, if_neg hij]
      have := dg_part m 0 j i (by omega)
      simpa using this

theorem uw_setC (k m j d : Nat) (hd : d < C) : (uw k m).setIfInBounds j (.int .u32 (d : Nat)) = uw k (setC m j d) := by
  apply Array.ext_getElem?
  intro i
  rw [Array.getElem?_setIfInBounds]
  by_cases hk : i < k
  · rw [uw_get k _ i hk, uw_get k _ i hk, dg_setC m j d i hd, uw_size]
    by_cases h : j = i
    · subst h; simp [hk]
    · rw [if_neg h, if_neg (by omega)]
  · have e1 : (uw k m)[i]? = none := Array.getElem?_eq_none (by simp; omega)
    have e2 : (uw k (setC m j d))[i]? = none := Array.getElem?_eq_none (by simp; omega)
    rw [e1, e2, uw_size]
    split
    · rename_i h; subst h; rw [if_neg hk]
    · rfl

theorem setC_lt (m j d k : Nat) (hm : m < C ^ k) (hd : d < C) (hj : j < k) : setC m j d < C ^ k := by
  have h : setC m j d % C ^ k = setC m j d := by
    have : setC m j d / C ^ k = 0 := by
      have e : C ^ k = C ^ (j + 1) * C ^ (k - (j + 1)) := by rw [← Nat.pow_add]; congr 1; omega
      have hlow : m % C ^ j + d * C ^ j < C ^ (j + 1) := by
        have hlo : m % C ^ j < C ^ j := Nat.mod_lt _ (Cp_pos j)
        rw [Nat.pow_succ, Nat.mul_comm (C ^ j)]
        have : (d + 1) * C ^ j ≤ C * C ^ j := Nat.mul_le_mul_right _ hd
        rw [Nat.add_mul, Nat.one_mul] at this
        omega
      unfold setC
      rw [e, ← Nat.div_div_eq_div_mul, Nat.add_mul_div_right _ _ (Cp_pos (j + 1)), Nat.div_eq_of_lt hlow, Nat.zero_add, Nat.div_div_eq_div_mul, ← e]
      exact Nat.div_eq_of_lt hm
    rw [Nat.mod_eq_of_lt]
    exact (Nat.div_eq_zero_iff_lt (Cp_pos k)).1 this
  rw [← h]
  exact Nat.mod_lt _ (Cp_pos k)

section
variable {P : Program} {ops : Array Oper} {rest : List Oper} {Q : Exit → Act → World → Prop} {a : Act} {w w0 : World} {S : List Nat} {L : List (Nat × Obj)}
theorem run_opLoadOld {o : Oper} {T : TypeId} {x : Operand} {b i : Nat} {cs : Array Value} {E : TypeId} {fr : Nat × Nat} {v : Value} (hk : Keeps [] w0 w) (hT : CellT P T) (ho : o.op = .load T x) (hx : a.eval x = .pointer (some ⟨b, i, none⟩))
    (hb : w0.heap[b]? = some (.cells cs E fr)) (hv : cs[i]? = some v) : (execOp a.eval o).run P w = .ok (.value v) w := by
  have hb' : w.heap[b]? = some (.cells cs E fr) := by rw [hk.block b (lt_of_some hb) (by simp)]; exact hb
  unfold execOp
  simp only [ho, hx, Sem.run_bind, run_loadCell hT hb' hv, Sem.run_pure, Result.andThen_ok]
/-- make, of elements of one cell. -/
theorem wl_make {o : Oper} {T e : TypeId} {x y : Operand} {z : Value} {n bytes : Nat} {cs : Array Value} (hst : St w0 S L w) (hT : SliceT P T e) (he : ElemT P e 1 z) (hby : BytesT P e bytes) (hg : o.guard = none) (ho : o.op = .makeSlice T x y)
    (hx : a.eval x = .int .i64 (n : Int)) (hy : a.eval y = .int .i64 (n : Int)) (hcs : madeCells z.cells n = cs) (hroom : bytes * n ≤ 281474976710656) (hn : n ≤ 9223372036854775807)
    (h : ∀ b w', w0.heap.size ≤ b → St w0 S ((b, .cells cs e) :: L) w' → wpList P ops Q rest (a.put o.dst (.slice (some ⟨b, 0, none⟩) n n)) w') : wpList P ops Q (o :: rest) a w := by
  obtain ⟨i, hi, hisz, hz⟩ := he
  have hby' : i.bytes = bytes := by simpa [BytesT, hi] using hby
  have hr := run_make (P := P) w T e i z hT hi hz .i64 .i64 n n (by omega) (by omega) (by rw [hby']; have : ((bytes * n : Nat) : Int) ≤ 281474976710656 := by omega
                                                                                          rwa [Int.natCast_mul] at this) (by omega)
  simp only [Int.toNat_natCast, hisz, Nat.mul_one, hcs] at hr
  refine wpList_plain hg fun K hK => ?_
  unfold Oper.wp execOp
  simp only [ho, hx, hy, Sem.run_bind, hr, Sem.run_pure, Result.andThen_ok]
  exact hK _ _ (h _ _ hst.keeps.size (hst.alloc _))
end

theorem made_u32 (n : Nat) : madeCells #[.int .u32 0] n = uw n 0 := by
  unfold madeCells uw
  apply Array.ext
  · simp
  · intro i h1 h2
    simp [dg, Nat.mod_one]

/-- A slice of a block of digits. -/
theorem big_of_uw {w0 : World} {L : List (Nat × Obj)} {g l n : Nat} {E : TypeId} (hn : n < C ^ l) (hl : l ≤ 1000000) (hg : w0.heap.size ≤ g) (hm : (g, .cells (uw l n) E (0, 0)) ∈ L) :
    (∀ S w, St w0 S L w → BigAt w (.slice (some ⟨g, 0, none⟩) l l) l n) ∧ BigIn w0.heap.size [(g, .cells (uw l n) E (0, 0))] (.slice (some ⟨g, 0, none⟩) (dl n) l) n := by
  have hd : dl n ≤ l := dl_le.2 hn
  exact ⟨fun S w hst => ⟨hn, hl, _, l, rfl, Nat.le_refl _, fun _ => ⟨g, _, E, rfl, hst.own _ _ hm, fun j hj => uw_get l n j hj⟩⟩, by simpa using hg, by simp, by omega, _, l, rfl, hd, fun _ => ⟨g, _, E, rfl, by simp, fun j hj => uw_get l n j (by omega)⟩⟩

/-- A step of a product's carry. -/
theorem mul_step (m j c x y : Nat) (hc : c < C) (hx : x < C) (hy : y < C) :
    c + dg m j + x * y < C * C ∧ (c + dg m j + x * y) / C < C ∧ setC m j ((c + dg m j + x * y) % C) + (c + dg m j + x * y) / C * C ^ (j + 1) = m + c * C ^ j + x * y * C ^ j := by
  have hd := dg_lt m j
  have h := setC_eq m j ((c + dg m j + x * y) % C)
  have hlt : c + dg m j + x * y < C * C := by
    have h1 : x * y ≤ (C - 1) * (C - 1) := Nat.mul_le_mul (by omega) (by omega)
    have h2 : (C - 1) * (C - 1) + (C - 1) + (C - 1) < C * C := by decide
    omega
  have e := Nat.div_add_mod (c + dg m j + x * y) C
  refine ⟨hlt, (Nat.div_lt_iff_lt_mul C_pos).2 hlt, ?_⟩
  generalize (c + dg m j + x * y) / C = q at *
  generalize (c + dg m j + x * y) % C = r at *
  have e2 : (C * q + r) * C ^ j = (c + dg m j + x * y) * C ^ j := by rw [e]
  rw [Nat.add_mul, Nat.add_mul, Nat.add_mul] at e2
  have e3 : q * C ^ (j + 1) = C * q * C ^ j := by rw [Nat.pow_succ', ← Nat.mul_assoc, Nat.mul_comm q]
  omega

end Go.Proofs.YtefpoconpeggpaaGreatDoor.Rd
