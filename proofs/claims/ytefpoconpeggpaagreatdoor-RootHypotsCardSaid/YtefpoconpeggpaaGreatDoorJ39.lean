/- The law RootFinite answers true. -/
import Derived.Test.YtefpoconpeggpaaGreatDoorJ38
import Derived.Test.YtefpoconpeggpaaGreatDoorJ37
import Derived.Test.YtefpoconpeggpaaGreatDoorJ32
namespace Go.Proofs.YtefpoconpeggpaaGreatDoor.Rd
open Go Go.RowKit
set_option linter.unusedVariables false
set_option linter.unusedSimpArgs false
set_option maxRecDepth 100000

/-- The radicand that an engine is asked of; its root; is there more? -/
def hR (f a b : Nat) : Nat := hP f a b * 2 ^ (2 * hyU (hP f a b))
def hQ (f a b : Nat) : Nat := isqrt (hR f a b)
def hS (f a b : Nat) : Bool := decide (hQ f a b * hQ f a b ≠ hR f a b)
def hX (f a b : Nat) : Int := hM f a b - (hyU (hP f a b) : Nat)
def hypW (f mo a b : Nat) : Nat × Nat := rndR f mo false (hX f a b) (hQ f a b) (hS f a b)

theorem hP_in (f a b : Nat) (f1 : 1 ≤ f) (f4 : f ≤ 4) (hf : f ≠ 4) (ha : wSig f a ≠ 0) (hb : wSig f b ≠ 0) (d1 : uExp f a - uExp f b ≤ 40) (d2 : -40 ≤ uExp f a - uExp f b) : hP f a b ≠ 0 ∧ hP f a b < 2 ^ 187 := by
  refine ⟨?_, sqS_lt _ _ _ _ (uSig_53 f a f1 f4 ha hf) (uSig_53 f b f1 f4 hb hf) d1 d2⟩
  have h := (uSig_in f a ha).1
  have hp : 0 < 2 ^ (fP f - 1) := Nat.pow_pos (by omega)
  unfold hP sqS
  have h2 : 0 < uSig f a * 2 ^ (uExp f a - min (uExp f a) (uExp f b)).toNat := Nat.mul_pos (by omega) (Nat.pow_pos (by omega))
  have h3 := Nat.mul_pos h2 h2
  omega
theorem hR_in (f a b : Nat) (h0 : hP f a b ≠ 0) (h : hP f a b < 2 ^ 187) : hR f a b < 2 ^ 256 ∧ bl (hQ f a b) = 127 ∧ hQ f a b * hQ f a b ≤ hR f a b ∧ hR f a b < (hQ f a b + 1) * (hQ f a b + 1) ∧ bl (hR f a b) = bl (hP f a b) + 2 * hyU (hP f a b) := by
  obtain ⟨u1, u2, u3, u4⟩ := hyU_in _ h
  have hbl : bl (hR f a b) = bl (hP f a b) + 2 * hyU (hP f a b) := by unfold hR; rw [bl_mul_pow _ _ h0]
  have h256 : hR f a b < 2 ^ 256 := Nat.lt_of_lt_of_le (bl_spec _).1 (Nat.pow_le_pow_right (by omega) (by omega))
  obtain ⟨r1, r2⟩ := (isqrt_spec (n := hR f a b) (by rw [show (4:Nat) ^ 128 = 2 ^ 256 by decide]; exact h256)).1
  refine ⟨h256, ?_, r1, r2, hbl⟩
  have hR0 : hR f a b ≠ 0 := fun e => by rw [e, bl_zero] at hbl; omega
  have lo := bl_lo hR0
  have hi := (bl_spec (hR f a b)).1
  have q0 : isqrt (hR f a b) ≠ 0 := fun e => by
    rw [e] at r2
    have : 2 ^ 1 ≤ 2 ^ (bl (hR f a b) - 1) := Nat.pow_le_pow_right (by omega) (by omega)
    omega
  have a1 := (bl_spec (isqrt (hR f a b))).1
  have a2 := bl_lo q0
  have a3 := Nat.mul_self_le_mul_self (show isqrt (hR f a b) + 1 ≤ 2 ^ bl (isqrt (hR f a b)) from a1)
  have a4 := Nat.mul_self_le_mul_self a2
  rw [← Nat.pow_add] at a3 a4
  have b1 := bl_pos q0
  show bl (isqrt (hR f a b)) = 127
  have c1 : 253 ≤ bl (hR f a b) := by omega
  have c2 : bl (hR f a b) ≤ 254 := by omega
  have c3 : ¬ bl (isqrt (hR f a b)) + bl (isqrt (hR f a b)) ≤ bl (hR f a b) - 1 := fun h' => by
    have : 2 ^ (bl (isqrt (hR f a b)) + bl (isqrt (hR f a b))) ≤ 2 ^ (bl (hR f a b) - 1) := Nat.pow_le_pow_right (by omega) h'
    omega
  have c4 : ¬ bl (hR f a b) ≤ bl (isqrt (hR f a b)) - 1 + (bl (isqrt (hR f a b)) - 1) := fun h' => by
    have : 2 ^ bl (hR f a b) ≤ 2 ^ (bl (isqrt (hR f a b)) - 1 + (bl (isqrt (hR f a b)) - 1)) := Nat.pow_le_pow_right (by omega) h'
    omega
  omega

theorem hyp_known (f a b : Nat) (h0 : hP f a b ≠ 0) (h : hP f a b < 2 ^ 187) : KnC (fun m k => szC (m * m) (2 * k) (hN f a b) (2 * hE f a b)) (hX f a b) (hQ f a b) (hS f a b) := by
  obtain ⟨e1, e2⟩ := hP_eq f a b
  obtain ⟨_, _, r1, r2, _⟩ := hR_in f a b h0 h
  refine KnC.root (hN f a b) (2 * hE f a b) (hX f a b) (2 * (hE f a b - hM f a b).toNat + 2 * hyU (hP f a b)) (hR f a b) (hQ f a b) ?_ ?_ r1 r2
  · unfold hX; omega
  · unfold hR; rw [Nat.pow_add, ← Nat.mul_assoc, ← e2]
theorem hypW_P (f mo a b : Nat) (h0 : hP f a b ≠ 0) (h : hP f a b < 2 ^ 187) : rndP f mo false (hX f a b) (hQ f a b) (hS f a b) = hypW f mo a b := by
  obtain ⟨_, q, _⟩ := hR_in f a b h0 h
  have hP' := fP_in f
  have := rnd_eq f mo false (hX f a b) (hQ f a b) 0 (hS f a b) (fun e => by rw [e, bl_zero] at q; omega) (by omega) (fun _ => rfl)
  rw [Nat.pow_zero, Nat.mul_one, show hX f a b - ((0 : Nat) : Int) = hX f a b by omega] at this
  exact this.symm
theorem encW_lt (f j s : Nat) (ng : Bool) (h : wEnc f j s < (2 * fE f + 1) * 2 ^ (fP f - 1)) : encW f ng j s < 2 ^ fB f := by
  have a := fin_lt f
  have d : 2 ^ fB f = 2 ^ (fB f - 1) + 2 ^ (fB f - 1) := by
    obtain ⟨p, hp⟩ : ∃ p, fB f = p + 1 := ⟨fB f - 1, by have := fB_in f; omega⟩
    rw [hp, Nat.add_sub_cancel, Nat.pow_succ]; omega
  unfold encW
  split <;> omega
theorem fB_M2 (f : Nat) : 2 ^ fB f ≤ M2 := by
  have c : 2 ^ fB f ≤ 2 ^ 128 := Nat.pow_le_pow_right (by omega) (fB_in f).2
  have e : M2 = 2 ^ 128 := by decide
  omega
/-- What is rounded is a word of the format. -/
theorem rndR_lt (f m : Nat) (ng : Bool) (e : Int) (r : Nat) (s : Bool) (hb : fP f < bl r) : (rndR f m ng e r s).1 < 2 ^ fB f := by
  have hP := fP_in f
  have hE := fE_in f
  obtain ⟨c1, c2⟩ := cutN_range r (fP f) s m ng (by omega) hb
  by_cases h1 : (fE f : Int) < rTop f m ng e r s
  · rw [rndR_over h1]
    have a := fin_lt f
    have d : 2 ^ fB f = 2 ^ (fB f - 1) + 2 ^ (fB f - 1) := by
      obtain ⟨p, hp⟩ : ∃ p, fB f = p + 1 := ⟨fB f - 1, by have := fB_in f; omega⟩
      rw [hp, Nat.add_sub_cancel, Nat.pow_succ]; omega
    show overW f m ng < _
    unfold overW
    split <;> split <;> omega
  · by_cases h2 : rTop f m ng e r s < 1 - (fE f : Int)
    · rw [rndR_low h2]
      have hbc : fP f ≤ bl (cutN r (bl r - fP f) s m ng) := by
        rcases Nat.lt_or_ge (bl (cutN r (bl r - fP f) s m ng)) (fP f) with h | h
        · have := bl_le.1 (show bl (cutN r (bl r - fP f) s m ng) ≤ fP f - 1 by omega)
          omega
        · exact h
      have hq : r / 2 ^ (2 - (fE f : Int) - fP f - e).toNat < 2 ^ fP f := div_lt_prec r (fP f) _ (by unfold rTop at h2; omega)
      exact encW_lt f 0 _ ng (wEnc_V0 f _ (by have := (cutN_le r (2 - (fE f : Int) - fP f - e).toNat s m ng).2; omega)).1
    · rw [rndR_in (by omega) (by omega)]
      obtain ⟨_, n2, _, _⟩ := norm_sig (fP f) _ c1 c2 (by omega) (by omega)
      refine encW_lt f _ _ ng (wEnc_fin f _ _ ?_ n2)
      unfold rTop at h1 h2 ⊢
      omega
theorem rndR_flags (f m : Nat) (ng : Bool) (e : Int) (r : Nat) (s : Bool) : (rndR f m ng e r s).2 = 0 ∨ (rndR f m ng e r s).2 = 16 ∨ (rndR f m ng e r s).2 = 20 ∨ (rndR f m ng e r s).2 = 24 := by
  unfold rndR
  split
  · simp
  · split
    · split <;> simp
    · split <;> simp

/-- What is needed to round the root of the sum of squares. -/
theorem hyp_in (f a b : Nat) (f1 : 1 ≤ f) (f4 : f ≤ 4) (hf : f ≠ 4) (ha : wSig f a ≠ 0) (hb : wSig f b ≠ 0) (d1 : uExp f a - uExp f b ≤ 40) (d2 : -40 ≤ uExp f a - uExp f b) :
    hP f a b ≠ 0 ∧ hP f a b < 2 ^ 187 ∧ hN f a b < 2 ^ 187 ∧ bl (hQ f a b) = 127 ∧ -100000 ≤ hE f a b ∧ hE f a b ≤ 100000 ∧ -100100 ≤ hM f a b ∧ hM f a b ≤ 100000 ∧ 33 ≤ hyU (hP f a b) ∧ hyU (hP f a b) ≤ 127 ∧
      hX f a b + 126 ≤ ((bl (hN f a b) : Int) + 2 * hE f a b - 1) / 2 + 3 ∧ wExp f a - wExp f b ≤ 200 ∧ -200 ≤ wExp f a - wExp f b := by
  obtain ⟨p0, p1⟩ := hP_in f a b f1 f4 hf ha hb d1 d2
  obtain ⟨e1, e2⟩ := hP_eq f a b
  obtain ⟨_, q, _, _, hbl⟩ := hR_in f a b p0 p1
  obtain ⟨u1, u2, u3, u4⟩ := hyU_in _ p1
  have wa := wExp_in f a
  have wb := wExp_in f b
  have hP' := fP_in f
  have hp53 : fP f ≤ 53 := by unfold fP; split <;> (try split) <;> (try split) <;> omega
  have ua : uExp f a = wExp f a - (uUp f a : Nat) := rfl
  have ub : uExp f b = wExp f b - (uUp f b : Nat) := rfl
  have va : uUp f a ≤ 53 := by unfold uUp; omega
  have vb : uUp f b ≤ 53 := by unfold uUp; omega
  have n0 : hN f a b ≠ 0 := fun h => p0 (by rw [e2, h, Nat.zero_mul])
  have nle : hN f a b ≤ hP f a b := by rw [e2]; exact Nat.le_mul_of_pos_right _ (Nat.pow_pos (by omega))
  have nb : bl (hP f a b) = bl (hN f a b) + 2 * (hE f a b - hM f a b).toNat := by
    conv => lhs; rw [e2]
    exact bl_mul_pow _ _ n0
  have hEb : -100000 ≤ hE f a b ∧ hE f a b ≤ 100000 := by unfold hE; omega
  have hMb : -100100 ≤ hM f a b ∧ hM f a b ≤ 100000 := by unfold hM; omega
  refine ⟨p0, p1, by omega, q, hEb.1, hEb.2, hMb.1, hMb.2, u1, u2, ?_, by omega, by omega⟩
  unfold hX
  omega

end Go.Proofs.YtefpoconpeggpaaGreatDoor.Rd

namespace Go.Proofs.YtefpoconpeggpaaGreatDoor.Rd
open Go Go.RowKit
set_option linter.unusedVariables false
set_option linter.unusedSimpArgs false
set_option maxRecDepth 100000

/-! The examples: the root of 2, and of 3 and 4 squared. -/
theorem root_unique {n a : Nat} (hn : n < 2 ^ 256) (h1 : a * a ≤ n) (h2 : n < (a + 1) * (a + 1)) : isqrt n = a := by
  have h := (isqrt_spec (n := n) (by rw [four_128]; exact hn)).1
  obtain ⟨h3, h4⟩ := h
  rcases Nat.lt_trichotomy (isqrt n) a with h | h | h
  · have := Nat.mul_self_le_mul_self (show isqrt n + 1 ≤ a from h); omega
  · exact h
  · have := Nat.mul_self_le_mul_self (show a + 1 ≤ isqrt n from h); omega
theorem ex1_n : rN 1 0x4000 = 1024 * 2 ^ 15 ∧ rX 1 0x4000 = -12 ∧ someB 1 0x4000 = true := by decide +kernel
theorem ex1_r : rR 1 0x4000 = 5792 := by
  unfold rR
  rw [ex1_n.1]
  exact root_unique (by decide) (by decide) (by decide)
theorem ex1 : rootW 1 1 0x4000 = (0x3da8, 16) := by
  unfold rootW rMore
  rw [ex1_r, ex1_n.1, ex1_n.2.1]
  decide +kernel

end Go.Proofs.YtefpoconpeggpaaGreatDoor.Rd

namespace Go.Proofs.YtefpoconpeggpaaGreatDoor.Rd
open Go Go.RowKit
set_option linter.unusedVariables false
set_option linter.unusedSimpArgs false
set_option maxRecDepth 100000

theorem ex2_s : someB 1 0x4200 = true ∧ someB 1 0x4400 = true ∧ hyC 1 (uExp 1 0x4200) (uSig 1 0x4200) (uExp 1 0x4400) (uSig 1 0x4400) = nbC false (2 * (-9)) 6553600 := by
  refine ⟨by decide +kernel, by decide +kernel, ?_⟩
  have e : uExp 1 0x4200 = -9 ∧ uSig 1 0x4200 = 1536 ∧ uExp 1 0x4400 = -8 ∧ uSig 1 0x4400 = 1024 := by decide +kernel
  rw [e.1, e.2.1, e.2.2.1, e.2.2.2]
  have h1 : hyOk 1 (-9) (-8) = true := by decide
  unfold hyC
  rw [if_pos h1]
  have h2 : sqS (-9) 1536 (-8) 1024 = 6553600 := by decide +kernel
  rw [h2]
  rfl
theorem ex2_u : hyU 6553600 = 115 := by decide +kernel
theorem ex2_r : isqrt (6553600 * 2 ^ (2 * hyU 6553600)) = 5 * 2 ^ 124 := by
  rw [ex2_u]
  exact root_unique (by decide +kernel) (by decide +kernel) (by decide +kernel)
theorem ex2 : rndP 1 1 false (-9 - (hyU 6553600 : Nat)) (5 * 2 ^ 124) false = (0x4500, 0) := by
  rw [ex2_u]
  decide +kernel

theorem word_lit (x : Nat) (hx : x < B) : Wd x = .agg #[.int .u64 0, .int .u64 (x : Int)] := by
  unfold Wd wdc
  have h1 : lb x 1 = 0 := by unfold lb; rw [Nat.pow_one, Nat.div_eq_of_lt hx]; rfl
  have h0 : lb x 0 = x := by rw [lb_zero, Nat.mod_eq_of_lt hx]
  rw [h1, h0]
  rfl

/-- A set that is new, in a world that has the formats. -/
theorem new_ne {w0 : World} {bs br : Nat} {L : List (Nat × Obj)} (hn : NewIn w0.heap.size L) (hS : SetNew bs br L) (hF : FmtIn w0) : bs ≠ 0 ∧ br ≠ 0 := by
  have h1 : w0.heap.size ≤ bs := hn.1 (bs, _) (by rw [hS]; exact List.Mem.head _)
  have h2 : w0.heap.size ≤ br := hn.1 (br, _) (by rw [hS]; exact List.Mem.tail _ (List.Mem.head _))
  have := hF.lt
  omega

set_option maxHeartbeats 4000000 in
theorem law25_awake (w0 : World) (hF : FmtIn w0) : GivesAt Tryz.prog 9 #[] (.bool true) w0 := by
  have hst := St.start [] w0
  have hk := Lib.hid (fun w (k : Keeps [] w0 w) => hF.keep k (by simp))
  have hnew := fun w => engine_New w
  have e1 := Lib.hid (show ∀ bs br L, SetNew bs br L → bs ≠ 0 → br ≠ 0 → ∀ w, FmtIn w → Owns w L → GivesZ Tryz.prog 7 #[.pointer (some ⟨bs, 0, none⟩), .int .i64 4, .int .i64 1, .int .i64 1, .agg #[.int .u64 0, .int .u64 16384]] [bs, br] L (fun L' v => v = .tuple #[Wd 0x3da8, .int .i64 16, .int .i64 0] ∧ ∃ c q, RomOk c ∧ 0 ≤ q 2 ∧ q 2 ≤ 1000 ∧ SetSt bs br c q L') w from
    fun bs br L hS h1 h2 w hw hL => by
      obtain ⟨a1, a2, a3, a4⟩ := someB_spec ex1_n.2.2
      have h := root_Finite bs br h1 h2 romN romN_ok (fun _ => 0) L (.inl ⟨hS, rfl, rfl⟩) 4 (by omega) (by omega) (by simp) (by simp) 1 (by omega) (by omega) 1 (by omega) (by omega) 0x4000 a1 a2 a3 a4 w hw hL
      rw [ex1, word_lit 0x4000 (by decide)] at h
      exact h.weak fun L' v hv => ⟨hv.1, _, _, romK_ok romN_ok, by decide, by decide, hv.2⟩)
  have e2 := Lib.hid (show ∀ bs br c q L, RomOk c → 0 ≤ q 2 → q 2 ≤ 1000 → SetSt bs br c q L → bs ≠ 0 → br ≠ 0 → ∀ w, FmtIn w → Owns w L → GivesZ Tryz.prog 19 #[.pointer (some ⟨bs, 0, none⟩), .int .i64 2, .int .i64 1, .int .i64 1, .agg #[.int .u64 0, .int .u64 16896], .agg #[.int .u64 0, .int .u64 17408]] [bs, br] L (fun L' v => v = .tuple #[Wd 0x4500, .int .i64 0, .int .i64 0] ∧ ∃ c q, SetSt bs br c q L') w from
    fun bs br c q L hc q1 q2 hS h1 h2 w hw hL => by
      have hA := HA_yes 1 (by omega) (by omega) 0x4200 0x4400 ex2_s.1 ex2_s.2.1
      rw [ex2_s.2.2] at hA
      have h := root_Hypot_yes bs br h1 h2 c hc q L hS 2 (by omega) (by omega) q1 q2 1 (by omega) (by omega) 1 (by omega) (by omega) 0x4200 0x4400 (-9) 6553600 (by omega) (by omega) (by omega) (by decide) hA (5 * 2 ^ 124) ex2_r false (by rw [ex2_u]; decide +kernel) (by decide +kernel) (by decide +kernel) 0x4500 0 ex2 w hw hL
      rw [word_lit 0x4200 (by decide), word_lit 0x4400 (by decide)] at h
      exact h.weak fun L' v hv => ⟨hv.1, _, _, hv.2⟩)
  have d1 := word_lit 0x3da8 (by decide)
  have d2 := word_lit 0x4500 (by decide)
  have hl1 := Lib.hid d1
  have hl2 := Lib.hid d2
  have hF' := Lib.hid hF
  clear hF d1 d2
  go_enter Tryz.func9, Tryz.ntmps9
  go_wp2_with ((first | (refine kN (o := ⟨some 8, _, _, _, _, _⟩) gf8 hst (fun w hst => hnew w) rfl rfl rfl rfl ?_; clear hst; intro v8 L w hn8 hR8 hst; obtain ⟨bs, br, hsr, rfl, hS⟩ := hR8; (try simp only [List.cons_append, List.nil_append, List.append_nil, List.append_assoc] at hst); obtain ⟨hbs, hbr⟩ := new_ne hn8 hS hF'.out; have hbs0 : w0.heap.size ≤ bs := hn8.1 (bs, _) (by rw [hS]; exact List.Mem.head _); have hbr0 : w0.heap.size ≤ br := hn8.1 (br, _) (by rw [hS]; exact List.Mem.tail _ (List.Mem.head _))) | (refine kZ (o := ⟨some 12, _, _, _, _, _⟩) (fun L' => L') gf7 hst (fun w hst => e1.out bs br L hS hbs hbr w (hk.out w hst.keeps) (hst.owns (L := L) .here)) rfl rfl rfl rfl ?_; clear hst; intro v12 L1 w hR1 hnew1 hst; obtain ⟨rfl, c1, q1, hc1, hq1, hq2, hS1⟩ := hR1) | (refine kZ (o := ⟨some 20, _, _, _, _, _⟩) (fun L' => (b2, .cells (wdc 0x3da8) 24) :: L') gf19 hst (fun w hst => e2.out bs br c1 q1 L1 hc1 hq1 hq2 hS1 hbs hbr w (hk.out w hst.keeps) (hst.owns (L := L1) (.there .here))) rfl rfl rfl rfl ?_; clear hst; intro v20 L2 w hR2 hnew2 hst; obtain ⟨rfl, c2, q2, hS2⟩ := hR2) | (refine keS (c := true) tf24 tc22 rfl ?_ (hy := hl1.out.symm) (hm := by decide) (hn := by decide) (hc := by decide)) | (refine keS (c := true) tf24 tc22 rfl ?_ (hy := hl2.out.symm) (hm := by decide) (hn := by decide) (hc := by decide)) | (refine wl_guard (by rfl) ?_) | (refine ka 2 hst tz24 rfl rfl ?_; clear hst; intro b2 w hb2 hst) | (refine kt hst ta24 rfl rfl ?_; clear hst; intro w hst) | (refine ka 5 hst tz24 rfl rfl ?_; clear hst; intro b5 w hb5 hst) | (refine kl hst ta24 rfl ?_)); try simp only [pz, pn, sz, sc])
  refine bp_t rfl rfl (by rfl) ⟨?_, hst.keeps⟩
  rfl

end Go.Proofs.YtefpoconpeggpaaGreatDoor.Rd

namespace Go.Proofs.YtefpoconpeggpaaGreatDoor.Rd
open Go Go.RowKit
set_option linter.unusedVariables false
set_option linter.unusedSimpArgs false
set_option maxRecDepth 100000

/-- What a case of the law holds. -/
def caseC (k f m : Int) (a b : Nat) : Array Value := #[.int .i64 k, .int .i64 f, .int .i64 m] ++ wdc a ++ wdc b
theorem caseC_size (k f m : Int) (a b : Nat) : (caseC k f m a b).size = 7 := by simp [caseC, wdc]
theorem caseC_one (k f m : Int) (a b : Nat) : OneC (caseC k f m a b) := ⟨by unfold caseC; rw [Array.all_append, Array.all_append, wdc_one, wdc_one]; simp [Value.oneCell']⟩
theorem caseC_at (k f m : Int) (a b : Nat) : (caseC k f m a b)[0]? = some (.int .i64 k) ∧ (caseC k f m a b)[0 + 1]? = some (.int .i64 f) ∧ (caseC k f m a b)[0 + 2]? = some (.int .i64 m) := ⟨rfl, rfl, rfl⟩
theorem caseC_a (k f m : Int) (a b : Nat) : Part (caseC k f m a b) (wdc a) (caseC k f m a b) (wdc a) 3 := ⟨#[.int .i64 k, .int .i64 f, .int .i64 m], wdc b, rfl, rfl, rfl, rfl⟩
theorem caseC_b (k f m : Int) (a b : Nat) : Part (caseC k f m a b) (wdc b) (caseC k f m a b) (wdc b) 5 := ⟨#[.int .i64 k, .int .i64 f, .int .i64 m] ++ wdc a, #[], by simp [caseC], by simp [caseC], by simp [wdc], rfl⟩

/-- Is a word one of a number above 0, of whatever format? -/
def sB (f : Int) (m : Nat) : Bool := if 1 ≤ f ∧ f ≤ 4 then someB f.toNat m else false
theorem ref25_SomeI (f : Int) (m : Nat) (hm : m < M2) : Gives Tryz.prog 11 #[.int .i64 f, Wd m] (.bool (sB f m)) := by
  unfold sB
  by_cases h : 1 ≤ f ∧ f ≤ 4
  · rw [if_pos h]
    obtain ⟨k, rfl⟩ : ∃ k : Nat, f = k := ⟨f.toNat, by omega⟩
    exact ref25_Some k (by omega) (by omega) m hm
  · rw [if_neg h]
    exact ref25_Some_non f (by omega) m
theorem sB_un {f : Int} {m : Nat} (hm : m < M2) (h : sB f m = false) : UnNo f m := unNo_of f m hm (fun k e k1 k4 => by
  subst e
  unfold sB at h
  rw [if_pos (by omega)] at h
  simpa using h)
theorem sB_yes {f : Int} {m : Nat} (h : sB f m = true) : ∃ k : Nat, f = k ∧ 1 ≤ k ∧ k ≤ 4 ∧ someB k m = true := by
  unfold sB at h
  by_cases hf : 1 ≤ f ∧ f ≤ 4
  · rw [if_pos hf] at h
    exact ⟨f.toNat, by omega, by omega, by omega, h⟩
  · rw [if_neg hf] at h
    cases h
end Go.Proofs.YtefpoconpeggpaaGreatDoor.Rd
