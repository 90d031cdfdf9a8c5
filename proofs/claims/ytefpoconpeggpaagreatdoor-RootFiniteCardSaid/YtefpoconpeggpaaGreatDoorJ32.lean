/- What the reference's Power, Big and Wide answer. -/
import Derived.Test.YtefpoconpeggpaaGreatDoorJ31
import Derived.Test.YtefpoconpeggpaaGreatDoorJ04
import Derived.Test.YtefpoconpeggpaaGreatDoorJ29
namespace Go.Proofs.YtefpoconpeggpaaGreatDoor.Rd
open Go Go.RowKit
set_option linter.unusedVariables false
set_option linter.unusedSimpArgs false
set_option maxRecDepth 100000

/-- By how much a sum of squares is shifted up. -/
def hyU (sg : Nat) : Nat := (254 - bl sg) / 2
theorem hyU_in (sg : Nat) (h : sg < 2 ^ 187) : 33 ≤ hyU sg ∧ hyU sg ≤ 127 ∧ 253 ≤ bl sg + 2 * hyU sg ∧ bl sg + 2 * hyU sg ≤ 254 := by
  have := bl_le.2 h
  unfold hyU
  omega

set_option maxHeartbeats 4000000 in
theorem root_Hypot_yes (bs br : Nat) (hbs : bs ≠ 0) (hbr : br ≠ 0) (c : Array Value) (hc : RomOk c) (q : Nat → Int) (L : List (Nat × Obj)) (hS : SetSt bs br c q L) (k : Nat) (h1 : 1 ≤ k) (h2 : k ≤ 4) (hq1 : 0 ≤ q k) (hq2 : q k ≤ 1000)
    (f : Nat) (f1 : 1 ≤ f) (f4 : f ≤ 4) (m : Nat) (m1 : 1 ≤ m) (m5 : m ≤ 5) (x y : Nat) (E : Int) (sg : Nat) (hE1 : -300000 ≤ E) (hE2 : E ≤ 300000) (h0 : sg ≠ 0) (hsg : sg < 2 ^ 187) (hA : HA f x y true (nbC false (2 * E) sg)) (r : Nat) (hr : isqrt (sg * 2 ^ (2 * hyU sg)) = r) (more : Bool) (hmore : decide (sg * 2 ^ (2 * hyU sg) - r * r = 0) = !more) (hrb : fP f < bl r) (hrb2 : bl r ≤ 511)
    (res fl : Nat) (hres : rndP f m false (E - hyU sg) r more = (res, fl)) (w0 : World) (hF : FmtIn w0) (hL : Owns w0 L) :
    GivesZ Tryz.prog 19 #[.pointer (some ⟨bs, 0, none⟩), .int .i64 k, .int .i64 f, .int .i64 m, Wd x, Wd y] [bs, br] L (fun L' v => v = .tuple #[Wd res, .int .i64 fl, .int .i64 0] ∧ SetSt bs br (romK k (sg * 2 ^ (2 * hyU sg)) c) (bump k q) L') w0 := by
  refine ⟨fun y hy => by simp only [List.mem_cons, List.not_mem_nil, or_false] at hy; rcases hy with rfl | rfl; exact hS.bs.1; exact hS.bs.2, ?_⟩
  have hst := St.ofOwns [bs, br] hL
  have hk := Lib.hid (fun w (k : Keeps [bs, br] w0 w) => hF.keep k (by simp only [List.mem_cons, List.not_mem_nil, or_false, not_or]; exact ⟨fun e => hbs e.symm, fun e => hbr e.symm⟩))
  have hkn := hF.lt
  have hab := Lib.hid hA.z
  obtain ⟨u1, u2, u3, u4⟩ := hyU_in sg hsg
  have hn256 : sg * 2 ^ (2 * hyU sg) < 2 ^ 256 := by
    have a := Nat.mul_lt_mul_of_pos_right (bl_spec sg).1 (show 0 < 2 ^ (2 * hyU sg) from Nat.pow_pos (by omega))
    rw [← Nat.pow_add] at a
    exact Nat.lt_of_lt_of_le a (Nat.pow_le_pow_right (by omega) (by omega))
  have hr0 : r ≠ 0 := fun h => by rw [h, bl_zero] at hrb; omega
  have hmay := fun (w : World) (ho : Owns w L) => root_may bs br c q L hS k h1 h2 m m1 m5 w ho
  have hrd := fun L' (hS' : SetSt bs br c q L') (w : World) (hw : FmtIn w) (ho : Owns w L') => root_roundedA bs br hbs hbr c hc q L' hS' k h1 h2 hq1 hq2 f f1 f4 m m1 m5 (sg * 2 ^ (2 * hyU sg)) hn256 (E - hyU sg) (by omega) (by omega) r hr hr0 hrb2 hrb more hmore res fl hres w hw ho
  have hsM : sg < M := Nat.lt_trans hsg (small_M2 187 (by omega))
  have hev := root_even false (2 * E) sg 0 0 E (by omega) (by omega) hsM (by omega) (by rw [Nat.pow_zero, Nat.mul_one]; exact hsM) (.inl rfl) (by omega)
  rw [Nat.pow_zero, Nat.mul_one, show ((0 : Nat) : Int) = 0 from rfl] at hev
  have hlen := wide_Len sg hsM
  have hshl := wide_Shl sg ((2 * hyU sg : Nat) : Int) hsM
  rw [clampN_nat _ (by omega), Nat.mod_eq_of_lt (Nat.lt_trans hn256 (small_M2 256 (by omega)))] at hshl
  obtain ⟨up, hup⟩ : ∃ up : Int, up = 254 - (bl sg : Int) := ⟨_, rfl⟩
  have E1 : 254 - (bl sg : Int) = up := hup.symm
  have hand : bits .and .i64 up 1 = up - ((2 * hyU sg : Nat) : Int) := by rw [bits_and_one]; unfold hyU; omega
  have E2 : up - (up - ((2 * hyU sg : Nat) : Int)) = ((2 * hyU sg : Nat) : Int) := by omega
  have E3 : ((2 * hyU sg : Nat) : Int).tdiv 2 = (hyU sg : Int) := by rw [Int.tdiv_eq_ediv_of_nonneg (by omega)]; omega
  have E4 : ((2 * hyU sg : Nat) : Int) / 2 = (hyU sg : Int) := by omega
  have p1 : 0 < up := by unfold hyU at u1; omega
  have p2 : up ≤ 254 := by omega
  have p3 : (hyU sg : Int) ≤ 127 := by omega
  have p4 : ((2 * hyU sg : Nat) : Int) ≤ 254 := by omega
  have p5 : (0 : Int) ≤ (hyU sg : Int) := by omega
  have p6 : (0 : Int) ≤ ((2 * hyU sg : Nat) : Int) := by omega
  have hpt : Part (nbC false (2 * E) sg) (wc 8 sg) (nbC false (2 * E) sg) (wc 8 sg) 2 := part1 2 _ _ _ rfl rfl
  have yX := nbC_one false (2 * E) sg
  have zX := nbC_size false (2 * E) sg
  have hM := M_pos
  have Q0 : decide (sg = 0) = false := decide_eq_false h0
  clear hF hA hS hL h1 h2 hbs hbr hc hq1 hq2 m1 m5 f1 f4 hn256 hr hmore hrb hrb2 hr0 hsg u1 u2 u3 u4 hup h0 hres
  generalize nbC false (2 * E) sg = cX at *
  generalize romK k (sg * 2 ^ (2 * hyU sg)) c = c' at *
  generalize bump k q = q' at *
  generalize sg * 2 ^ (2 * hyU sg) = n at *
  generalize ((2 * hyU sg : Nat) : Int) = U2 at *
  generalize (hyU sg : Int) = U1 at *
  generalize bl sg = ks at *
  go_enter Tryz.func19, Tryz.ntmps19
  go_wp2_with ((first | (refine kT gf42 hst (fun w hst => hab.out b8 b11 b15 _ _ w (by have q := hst.nodup; simp only [List.map_cons, List.map_nil, List.nodup_cons, List.mem_cons, List.not_mem_nil, or_false, not_or] at q; omega) (by have q := hst.nodup; simp only [List.map_cons, List.map_nil, List.nodup_cons, List.mem_cons, List.not_mem_nil, or_false, not_or] at q; omega) (by have q := hst.nodup; simp only [List.map_cons, List.map_nil, List.nodup_cons, List.mem_cons, List.not_mem_nil, or_false, not_or] at q; omega) (hk.out w hst.keeps) (by omega) (hst.own _ _ (by repeat (first | exact List.Mem.head _ | refine List.Mem.tail _ ?_))) (hst.own _ _ (by repeat (first | exact List.Mem.head _ | refine List.Mem.tail _ ?_))) (hst.own _ _ (by repeat (first | exact List.Mem.head _ | refine List.Mem.tail _ ?_)))) rfl rfl rfl rfl ?_; clear hst; intro w hst) | (refine klm hst ta44 rfl ?_ (hc := hpt)) | (refine kZ (o := ⟨some 35, _, _, _, _, _⟩) (fun L' => (b15, .cells cX 46) :: (b12, .cells (wc 2 0) 24) :: (b11, .cells (wdc y) 24) :: (b10, .cells (wdc x) 24) :: (b8, .cells #[.int .i64 f] 3) :: L') gf29 hst (fun w hst => hmay w (hst.owns (L := L) (.there (.there (.there (.there (.there .here))))))) rfl rfl rfl rfl ?_; clear hst; intro v35 L1 w hR1 hnew1 hst; obtain ⟨rfl, hS1⟩ := hR1) | (refine kf gf46 hst (hev) rfl rfl rfl rfl ?_; clear hst; intro w hst) | (refine kf gf47 hst (hlen) rfl rfl rfl rfl ?_; clear hst; intro w hst) | (refine kf gf48 hst (hshl) rfl rfl rfl rfl ?_; clear hst; intro w hst) | (refine kZ (o := ⟨some 67, _, _, _, _, _⟩) (fun L' => (b18, .cells (wc 8 n) 44) :: (b15, .cells cX 46) :: (b12, .cells (wc 2 0) 24) :: (b11, .cells (wdc y) 24) :: (b10, .cells (wdc x) 24) :: (b8, .cells #[.int .i64 f] 3) :: L') gf30 hst (fun w hst => hrd L1 hS1 w (hk.out w hst.keeps) (hst.owns (L := L1) (.there (.there (.there (.there (.there (.there .here)))))))) rfl rfl rfl rfl ?_; clear hst; intro v67 L2 w hR2 hnew2 hst; obtain ⟨rfl, hS2⟩ := hR2) | (refine wl_guard (by rfl) ?_) | (refine kb 8 hst rfl rfl ?_; clear hst; intro b8 w hb8 hst) | (refine kb 10 hst rfl rfl ?_; clear hst; intro b10 w hb10 hst) | (refine kb 11 hst rfl rfl ?_; clear hst; intro b11 w hb11 hst) | (refine ka 12 hst tz24 rfl rfl ?_; clear hst; intro b12 w hb12 hst) | (refine ka 15 hst tz46 rfl rfl ?_; clear hst; intro b15 w hb15 hst) | (refine kc hst tc3 rfl ?_) | (refine kl hst ta24 rfl ?_) | (refine kl hst ta44 rfl ?_) | (refine kn tr44 tc22 rfl ?_) | (refine kt hst ta24 rfl rfl ?_; clear hst; intro w hst) | (refine kl hst ta46 rfl ?_) | (refine ka 18 hst tz44 rfl rfl ?_; clear hst; intro b18 w hb18 hst) | (refine kt hst ta44 rfl rfl ?_; clear hst; intro w hst)); try simp only [pz, pn, sz, sc])
  exact bp_ctt rfl rfl (la hst ta24) (by rfl) (by rfl) (PostZ.of hst ⟨rfl, hS2⟩ (fun y hy => (hnew2 y hy).elim (fun h => by
    obtain ⟨z, hz, e⟩ := List.mem_map.1 h
    rw [← e]; exact hnew1 z hz) .inr))

end Go.Proofs.YtefpoconpeggpaaGreatDoor.Rd

namespace Go.Proofs.YtefpoconpeggpaaGreatDoor.Rd
open Go Go.RowKit
set_option linter.unusedVariables false
set_option linter.unusedSimpArgs false
set_option maxRecDepth 100000

/-- What Parts answers, whatever it is. -/
def PartsAt (f : Int) (m : Nat) (n : Nat) (x : Int) (ok : Bool) : Prop := ∀ w, FmtIn w → GivesAt Tryz.prog 23 #[.int .i64 f, Wd m] (.tuple #[W n, .int .i64 x, .bool ok]) w
theorem parts_no (f : Int) (m : Nat) (h : UnNo f m) : PartsAt f m 0 0 false := by
  obtain ⟨ng, e, n, ok, hno, hU⟩ := h
  exact fun w hw => root_Parts_no f m ng e n ok hno w (fun w' k => hU w' (hw.keep k (by simp)))
theorem parts_yes (f : Nat) (f1 : 1 ≤ f) (f4 : f ≤ 4) (m : Nat) (h : someB f m = true) : PartsAt f m (rN f m) (rX f m) true := by
  obtain ⟨h1, h2, h3, h4⟩ := someB_spec h
  exact fun w hw => root_Parts f f1 f4 m h1 h2 h3 h4 w hw
theorem parts_any (f : Int) (m : Nat) (hm : m < M2) : ∃ n x ok, PartsAt f m n x ok := by
  by_cases h : ∃ k : Nat, f = k ∧ 1 ≤ k ∧ k ≤ 4 ∧ someB k m = true
  · obtain ⟨k, rfl, k1, k4, hs⟩ := h
    exact ⟨_, _, _, parts_yes k k1 k4 m hs⟩
  · exact ⟨_, _, _, parts_no f m (unNo_of f m hm (fun k e k1 k4 => by
      cases hs : someB k m
      · rfl
      · exact absurd ⟨k, e, k1, k4, hs⟩ h))⟩

set_option maxHeartbeats 2000000 in
theorem root_Finite_nil (k f mo : Int) (m n : Nat) (x : Int) (ok : Bool) (hP : PartsAt f m n x ok) (w0 : World) (hF : FmtIn w0) :
    GivesAt Tryz.prog 7 #[.pointer none, .int .i64 k, .int .i64 f, .int .i64 mo, Wd m] (.tuple #[Wd 0, .int .i64 0, .int .i64 6]) w0 := by
  have hst := St.start [] w0
  have hk := Lib.hid (fun w (k : Keeps [] w0 w) => hF.keep k (by simp))
  have hp := Lib.hid hP
  have hmay := root_may_nil k mo ok
  have hW' := Lib.hid Wd_zero
  clear hF hP
  go_enter Tryz.func7, Tryz.ntmps7
  go_wp2_with ((first | (refine kg gf23 hst (fun w hst => hp.out w (hk.out w hst.keeps)) rfl rfl rfl rfl ?_; clear hst; intro w hst) | (refine kf gf29 hst (hmay) rfl rfl rfl rfl ?_; clear hst; intro w hst) | (refine kb 9 hst rfl rfl ?_; clear hst; intro b9 w hb9 hst) | (refine ka 10 hst tz24 rfl rfl ?_; clear hst; intro b10 w hb10 hst) | (refine kl hst ta24 rfl ?_) | (refine ka 13 hst tz44 rfl rfl ?_; clear hst; intro b13 w hb13 hst) | (refine kt hst ta44 rfl rfl ?_; clear hst; intro w hst) | (refine kt hst ta24 rfl rfl ?_; clear hst; intro w hst)); try simp only [pz, pn, sz, sc])
  refine bp_ctt rfl rfl (la hst ta24) (by rfl) (by rfl) ⟨?_, hst.keeps⟩
  rw [hW'.out]; rfl
set_option maxHeartbeats 2000000 in
theorem root_Finite_none (bs : Nat) (k : Int) (h : k < 1 ∨ 4 < k) (f mo : Int) (m n : Nat) (x : Int) (ok : Bool) (hP : PartsAt f m n x ok) (w0 : World) (hF : FmtIn w0) :
    GivesAt Tryz.prog 7 #[.pointer (some ⟨bs, 0, none⟩), .int .i64 k, .int .i64 f, .int .i64 mo, Wd m] (.tuple #[Wd 0, .int .i64 0, .int .i64 7]) w0 := by
  have hst := St.start [] w0
  have hk := Lib.hid (fun w (k : Keeps [] w0 w) => hF.keep k (by simp))
  have hp := Lib.hid hP
  have hmay := root_may_none bs k h mo ok
  have hW' := Lib.hid Wd_zero
  clear hF hP h
  go_enter Tryz.func7, Tryz.ntmps7
  go_wp2_with ((first | (refine kg gf23 hst (fun w hst => hp.out w (hk.out w hst.keeps)) rfl rfl rfl rfl ?_; clear hst; intro w hst) | (refine kf gf29 hst (hmay) rfl rfl rfl rfl ?_; clear hst; intro w hst) | (refine kb 9 hst rfl rfl ?_; clear hst; intro b9 w hb9 hst) | (refine ka 10 hst tz24 rfl rfl ?_; clear hst; intro b10 w hb10 hst) | (refine kl hst ta24 rfl ?_) | (refine ka 13 hst tz44 rfl rfl ?_; clear hst; intro b13 w hb13 hst) | (refine kt hst ta44 rfl rfl ?_; clear hst; intro w hst) | (refine kt hst ta24 rfl rfl ?_; clear hst; intro w hst)); try simp only [pz, pn, sz, sc])
  refine bp_ctt rfl rfl (la hst ta24) (by rfl) (by rfl) ⟨?_, hst.keeps⟩
  rw [hW'.out]; rfl
set_option maxHeartbeats 2000000 in
theorem root_Finite_arg (bs br : Nat) (hbs : bs ≠ 0) (c : Array Value) (q : Nat → Int) (L : List (Nat × Obj)) (hS : SetSt bs br c q L) (k : Nat) (h1 : 1 ≤ k) (h2 : k ≤ 4) (f mo : Int) (m n : Nat) (x : Int) (ok : Bool) (hP : PartsAt f m n x ok) (h : (mo < 1 ∨ 5 < mo) ∨ ok = false) (w0 : World) (hF : FmtIn w0) (hL : Owns w0 L) :
    GivesZ Tryz.prog 7 #[.pointer (some ⟨bs, 0, none⟩), .int .i64 k, .int .i64 f, .int .i64 mo, Wd m] [bs] L (fun L' v => v = .tuple #[Wd 0, .int .i64 0, .int .i64 1] ∧ SetSt bs br c q L') w0 := by
  refine ⟨fun x hx => by rw [List.mem_singleton.1 hx]; exact hS.bs.1, ?_⟩
  have hst := St.ofOwns [bs] hL
  have hk := Lib.hid (fun w (k : Keeps [bs] w0 w) => hF.keep k (by simp only [List.mem_singleton]; exact fun e => hbs e.symm))
  have hp := Lib.hid hP
  have hmay := fun (w : World) (ho : Owns w L) => root_may_arg bs br c q L hS k h1 h2 mo ok h w ho
  have hW' := Lib.hid Wd_zero
  clear hF hP h hS hL h1 h2 hbs
  go_enter Tryz.func7, Tryz.ntmps7
  go_wp2_with ((first | (refine kg gf23 hst (fun w hst => hp.out w (hk.out w hst.keeps)) rfl rfl rfl rfl ?_; clear hst; intro w hst) | (refine kZ (o := ⟨some 28, _, _, _, _, _⟩) (fun L' => (b13, .cells (wc 8 n) 44) :: (b10, .cells (wc 2 0) 24) :: (b9, .cells (wdc m) 24) :: L') gf29 hst (fun w hst => hmay w (hst.owns (L := L) (.there (.there (.there .here))))) rfl rfl rfl rfl ?_; clear hst; intro v28 L1 w hR1 hnew1 hst; obtain ⟨rfl, hS1⟩ := hR1) | (refine kb 9 hst rfl rfl ?_; clear hst; intro b9 w hb9 hst) | (refine ka 10 hst tz24 rfl rfl ?_; clear hst; intro b10 w hb10 hst) | (refine kl hst ta24 rfl ?_) | (refine ka 13 hst tz44 rfl rfl ?_; clear hst; intro b13 w hb13 hst) | (refine kt hst ta44 rfl rfl ?_; clear hst; intro w hst) | (refine kt hst ta24 rfl rfl ?_; clear hst; intro w hst)); try simp only [pz, pn, sz, sc])
  exact bp_ctt rfl rfl (la hst ta24) (by rfl) (by rfl) (PostZ.of hst ⟨by rw [hW'.out]; rfl, hS1⟩ hnew1)

/-! The examples: the root of 2, and of 3 and 4 squared. -/
theorem root_unique {n a : Nat} (hn : n < 2 ^ 256) (h1 : a * a ≤ n) (h2 : n < (a + 1) * (a + 1)) : isqrt n = a := by
  have h := (isqrt_spec (n := n) (by rw [four_128]; exact hn)).1
  obtain ⟨h3, h4⟩ := h
  rcases Nat.lt_trichotomy (isqrt n) a with h | h | h
  · have := Nat.mul_self_le_mul_self (show isqrt n + 1 ≤ a from h); omega
  · exact h
  · have := Nat.mul_self_le_mul_self (show a + 1 ≤ isqrt n from h); omega
theorem ex1_n : rN 1 0x4000 = 1024 * 2 ^ 15 ∧ rX 1 0x4000 = -12 ∧ someB 1 0x4000 = true := by decide +kernel
theorem ex1_r : rR 1 0x4000 = 5792 := by
  unfold rR
  rw [ex1_n.1]
  exact root_unique (by decide) (by decide) (by decide)
theorem ex1 : rootW 1 1 0x4000 = (0x3da8, 16) := by
  unfold rootW rMore
  rw [ex1_r, ex1_n.1, ex1_n.2.1]
  decide +kernel

end Go.Proofs.YtefpoconpeggpaaGreatDoor.Rd

namespace Go.Proofs.YtefpoconpeggpaaGreatDoor.Rd
open Go Go.RowKit
set_option linter.unusedVariables false
set_option linter.unusedSimpArgs false
set_option maxRecDepth 100000

theorem ex2_s : someB 1 0x4200 = true ∧ someB 1 0x4400 = true ∧ hyC 1 (uExp 1 0x4200) (uSig 1 0x4200) (uExp 1 0x4400) (uSig 1 0x4400) = nbC false (2 * (-9)) 6553600 := by
  refine ⟨by decide +kernel, by decide +kernel, ?_⟩
  have e : uExp 1 0x4200 = -9 ∧ uSig 1 0x4200 = 1536 ∧ uExp 1 0x4400 = -8 ∧ uSig 1 0x4400 = 1024 := by decide +kernel
  rw [e.1, e.2.1, e.2.2.1, e.2.2.2]
  have h1 : hyOk 1 (-9) (-8) = true := by decide
  unfold hyC
  rw [if_pos h1]
  have h2 : sqS (-9) 1536 (-8) 1024 = 6553600 := by decide +kernel
  rw [h2]
  rfl
theorem ex2_u : hyU 6553600 = 115 := by decide +kernel
theorem ex2_r : isqrt (6553600 * 2 ^ (2 * hyU 6553600)) = 5 * 2 ^ 124 := by
  rw [ex2_u]
  exact root_unique (by decide +kernel) (by decide +kernel) (by decide +kernel)
theorem ex2 : rndP 1 1 false (-9 - (hyU 6553600 : Nat)) (5 * 2 ^ 124) false = (0x4500, 0) := by
  rw [ex2_u]
  decide +kernel

theorem word_lit (x : Nat) (hx : x < B) : Wd x = .agg #[.int .u64 0, .int .u64 (x : Int)] := by
  unfold Wd wdc
  have h1 : lb x 1 = 0 := by unfold lb; rw [Nat.pow_one, Nat.div_eq_of_lt hx]; rfl
  have h0 : lb x 0 = x := by rw [lb_zero, Nat.mod_eq_of_lt hx]
  rw [h1, h0]
  rfl

/-- A set that is new, in a world that has the formats. -/
theorem new_ne {w0 : World} {bs br : Nat} {L : List (Nat × Obj)} (hn : NewIn w0.heap.size L) (hS : SetNew bs br L) (hF : FmtIn w0) : bs ≠ 0 ∧ br ≠ 0 := by
  have h1 : w0.heap.size ≤ bs := hn.1 (bs, _) (by rw [hS]; exact List.Mem.head _)
  have h2 : w0.heap.size ≤ br := hn.1 (br, _) (by rw [hS]; exact List.Mem.tail _ (List.Mem.head _))
  have := hF.lt
  omega

set_option maxHeartbeats 4000000 in
theorem law25_awake (w0 : World) (hF : FmtIn w0) : GivesAt Tryz.prog 9 #[] (.bool true) w0 := by
  have hst := St.start [] w0
  have hk := Lib.hid (fun w (k : Keeps [] w0 w) => hF.keep k (by simp))
  have hnew := fun w => engine_New w
  have e1 := Lib.hid (show ∀ bs br L, SetNew bs br L → bs ≠ 0 → br ≠ 0 → ∀ w, FmtIn w → Owns w L → GivesZ Tryz.prog 7 #[.pointer (some ⟨bs, 0, none⟩), .int .i64 4, .int .i64 1, .int .i64 1, .agg #[.int .u64 0, .int .u64 16384]] [bs, br] L (fun L' v => v = .tuple #[Wd 0x3da8, .int .i64 16, .int .i64 0] ∧ ∃ c q, RomOk c ∧ 0 ≤ q 2 ∧ q 2 ≤ 1000 ∧ SetSt bs br c q L') w from
    fun bs br L hS h1 h2 w hw hL => by
      obtain ⟨a1, a2, a3, a4⟩ := someB_spec ex1_n.2.2
      have h := root_Finite bs br h1 h2 romN romN_ok (fun _ => 0) L (.inl ⟨hS, rfl, rfl⟩) 4 (by omega) (by omega) (by simp) (by simp) 1 (by omega) (by omega) 1 (by omega) (by omega) 0x4000 a1 a2 a3 a4 w hw hL
      rw [ex1, word_lit 0x4000 (by decide)] at h
      exact h.weak fun L' v hv => ⟨hv.1, _, _, romK_ok romN_ok, by decide, by decide, hv.2⟩)
  have e2 := Lib.hid (show ∀ bs br c q L, RomOk c → 0 ≤ q 2 → q 2 ≤ 1000 → SetSt bs br c q L → bs ≠ 0 → br ≠ 0 → ∀ w, FmtIn w → Owns w L → GivesZ Tryz.prog 19 #[.pointer (some ⟨bs, 0, none⟩), .int .i64 2, .int .i64 1, .int .i64 1, .agg #[.int .u64 0, .int .u64 16896], .agg #[.int .u64 0, .int .u64 17408]] [bs, br] L (fun L' v => v = .tuple #[Wd 0x4500, .int .i64 0, .int .i64 0] ∧ ∃ c q, SetSt bs br c q L') w from
    fun bs br c q L hc q1 q2 hS h1 h2 w hw hL => by
      have hA := HA_yes 1 (by omega) (by omega) 0x4200 0x4400 ex2_s.1 ex2_s.2.1
      rw [ex2_s.2.2] at hA
      have h := root_Hypot_yes bs br h1 h2 c hc q L hS 2 (by omega) (by omega) q1 q2 1 (by omega) (by omega) 1 (by omega) (by omega) 0x4200 0x4400 (-9) 6553600 (by omega) (by omega) (by omega) (by decide) hA (5 * 2 ^ 124) ex2_r false (by rw [ex2_u]; decide +kernel) (by decide +kernel) (by decide +kernel) 0x4500 0 ex2 w hw hL
      rw [word_lit 0x4200 (by decide), word_lit 0x4400 (by decide)] at h
      exact h.weak fun L' v hv => ⟨hv.1, _, _, hv.2⟩)
  have d1 := word_lit 0x3da8 (by decide)
  have d2 := word_lit 0x4500 (by decide)
  have hl1 := Lib.hid d1
  have hl2 := Lib.hid d2
  have hF' := Lib.hid hF
  clear hF d1 d2
  go_enter Tryz.func9, Tryz.ntmps9
  go_wp2_with ((first | (refine kN (o := ⟨some 8, _, _, _, _, _⟩) gf8 hst (fun w hst => hnew w) rfl rfl rfl rfl ?_; clear hst; intro v8 L w hn8 hR8 hst; obtain ⟨bs, br, hsr, rfl, hS⟩ := hR8; (try simp only [List.cons_append, List.nil_append, List.append_nil, List.append_assoc] at hst); obtain ⟨hbs, hbr⟩ := new_ne hn8 hS hF'.out; have hbs0 : w0.heap.size ≤ bs := hn8.1 (bs, _) (by rw [hS]; exact List.Mem.head _); have hbr0 : w0.heap.size ≤ br := hn8.1 (br, _) (by rw [hS]; exact List.Mem.tail _ (List.Mem.head _))) | (refine kZ (o := ⟨some 12, _, _, _, _, _⟩) (fun L' => L') gf7 hst (fun w hst => e1.out bs br L hS hbs hbr w (hk.out w hst.keeps) (hst.owns (L := L) .here)) rfl rfl rfl rfl ?_; clear hst; intro v12 L1 w hR1 hnew1 hst; obtain ⟨rfl, c1, q1, hc1, hq1, hq2, hS1⟩ := hR1) | (refine kZ (o := ⟨some 20, _, _, _, _, _⟩) (fun L' => (b2, .cells (wdc 0x3da8) 24) :: L') gf19 hst (fun w hst => e2.out bs br c1 q1 L1 hc1 hq1 hq2 hS1 hbs hbr w (hk.out w hst.keeps) (hst.owns (L := L1) (.there .here))) rfl rfl rfl rfl ?_; clear hst; intro v20 L2 w hR2 hnew2 hst; obtain ⟨rfl, c2, q2, hS2⟩ := hR2) | (refine keS (c := true) tf24 tc22 rfl ?_ (hy := hl1.out.symm) (hm := by decide) (hn := by decide) (hc := by decide)) | (refine keS (c := true) tf24 tc22 rfl ?_ (hy := hl2.out.symm) (hm := by decide) (hn := by decide) (hc := by decide)) | (refine wl_guard (by rfl) ?_) | (refine ka 2 hst tz24 rfl rfl ?_; clear hst; intro b2 w hb2 hst) | (refine kt hst ta24 rfl rfl ?_; clear hst; intro w hst) | (refine ka 5 hst tz24 rfl rfl ?_; clear hst; intro b5 w hb5 hst) | (refine kl hst ta24 rfl ?_)); try simp only [pz, pn, sz, sc])
  refine bp_t rfl rfl (by rfl) ⟨?_, hst.keeps⟩
  rfl

end Go.Proofs.YtefpoconpeggpaaGreatDoor.Rd

namespace Go.Proofs.YtefpoconpeggpaaGreatDoor.Rd
open Go Go.RowKit
set_option linter.unusedVariables false
set_option linter.unusedSimpArgs false
set_option maxRecDepth 100000

section
variable {P : Program} {ops : Array Oper} {rest : List Oper} {Q : Exit → Act → World → Prop} {a : Act} {w w0 : World} {S : List Nat} {L pre Lg : List (Nat × Obj)}
/-- append of two values of one cell, out of a literal. -/
theorem wl_append2 {o : Oper} {s x : Operand} {t e E' : TypeId} {z v u u' : Value} {n : Nat} {xs : List Value} {sb bytes : Nat} {fr : Nat × Nat} (hg : GRow w0 Lg e 1 v n xs) (hst : St w0 S L w) (hT : SliceT P t e) (he : ElemT P e 1 z) (hby : BytesT P e bytes)
    (hgd : o.guard = none) (ho : o.op = .call { callee := .builtin .append, args := #[s, x], argTypes := #[t, t] }) (hs : a.eval s = v) (hx : a.eval x = .slice (some ⟨sb, 0, none⟩) 2 2)
    (htl : Tl Lg L ((sb, .cells #[u, u'] E' fr) :: pre)) (h1 : u.oneCell' = true) (h1' : u'.oneCell' = true)
    (hz1 : z.cells.size = 1) (hroom : (n + 2) * bytes ≤ 140737488355328) (hroom' : n + 2 ≤ 1000000000000)
    (h : ∀ v' Lg' w', GRow w0 Lg' e 1 v' (n + 2) (xs ++ [u, u']) → St w0 S (pre ++ Lg') w' → wpList P ops Q rest (a.put o.dst v') w') : wpList P ops Q (o :: rest) a w := by
  have hL := htl.eq
  subst hL
  refine wl_append [u, u'] hg hst hT he hby hgd ho hs hx htl (src := #[u, u']) (E' := E') (fr := fr) (by simp) (by simp) (fun j u'' hv => ?_) (by simp [h1, h1']) hz1 (by omega) hroom hroom' fun v' Lg' w' hgr hst' => h v' Lg' w' hgr ?_
  · match j with
    | 0 => simpa using hv
    | 1 => simpa using hv
    | j + 2 => simp at hv
  · exact St.drop hst'
end

theorem lb_dg (n i : Nat) : dg n (2 * i) = lb n i % C ∧ dg n (2 * i + 1) = lb n i / C := by
  have hB : B = C * C := by decide
  have e1 : C ^ (2 * i) = B ^ i := by rw [hB, Nat.mul_pow, ← Nat.pow_add]; congr 1; omega
  unfold dg lb
  constructor
  · rw [e1, hB, Nat.mod_mul_left_mod]
  · rw [Nat.pow_succ, e1, ← Nat.div_div_eq_div_mul, hB, Nat.mod_mul_right_div_self]

set_option maxHeartbeats 8000000 in
theorem ref01_Of (b len cap n : Nat) (E : TypeId) (fr : Nat × Nat) (hl : len ≤ 50000) (hn : n < B ^ len) (w0 : World) (hb : w0.heap[b]? = some (.cells (wc len n) E fr)) : GivesB Tryz.prog 65 #[.slice (some ⟨b, 0, none⟩) len cap] n w0 := by
  have hst := (St.start [] w0).add hb (by simp)
  have hown : ∀ w, Keeps [] w0 w → w.heap[b]? = some (.cells (wc len n) E fr) := fun w k => by rw [k.block b (lt_of_some hb) (by simp)]; exact hb
  clear hb
  go_enter Tryz.func65, Tryz.ntmps65
  go_wp2_with fail
  go_loopw [4, 3] (fun vi vo wr => ∃ (i : Nat) (Lg : List (Nat × Obj)), i ≤ len ∧ vi = .int .i64 i ∧ GRow w0 Lg 72 1 vo (2 * i) (uc (2 * i) (n % C ^ (2 * i))) ∧ St w0 [] ((b, .cells (wc len n) E fr) :: Lg) wr) (fun vi _ _ => len - (intOf vi).toNat)
  case atStart => exact ⟨0, [], by omega, by go_num, GRow.nil _ _ _, hst⟩
  case round =>
    clear hst
    obtain ⟨i, Lg, hi, rfl, hgr, hst⟩ := hrel
    by_cases hlt : i < len
    · obtain ⟨e1, e2⟩ := lb_dg n i
      have s1 := uc_snoc (n % C ^ (2 * i)) (dg n (2 * i)) (2 * i) (Nat.mod_lt _ (Cp_pos _)) (dg_lt _ _)
      rw [← dg_split] at s1
      have s2 := uc_snoc (n % C ^ (2 * i + 1)) (dg n (2 * i + 1)) (2 * i + 1) (Nat.mod_lt _ (Cp_pos _)) (dg_lt _ _)
      rw [← dg_split, ← s1, List.append_assoc] at s2
      rw [e1, e2] at s2
      have hxB := lb_lt n i
      have hcell := wc_get len n i hlt
      obtain ⟨x, hx⟩ : ∃ x, x = lb n i := ⟨_, rfl⟩
      rw [← hx] at s2 hxB
      obtain ⟨d, hd⟩ : ∃ d, d = x % C := ⟨_, rfl⟩
      obtain ⟨p, hp⟩ : ∃ p, p = x / C := ⟨_, rfl⟩
      rw [← hd, ← hp] at s2
      have hpC : p < C := by rw [C_val] at *; rw [B_val] at hxB; omega
      have F1 : IntKind.u32.wrap ((lb n i : Nat) : Int) = (d : Int) := by rw [← hx, u32_wrap, hd]
      have F2 : ((lb n i : Nat) : Int) / 4294967296 = (p : Int) := by rw [← hx]; rw [C_val] at hp; omega
      have F3 : IntKind.u32.wrap (p : Int) = (p : Int) := by rw [u32_wrap, Nat.mod_eq_of_lt hpC]
      have s2' := Lib.hid s2
      have F1' := Lib.hid F1
      have F2' := Lib.hid F2
      have F3' := Lib.hid F3
      have h1 : (i : Int) < (len : Int) := by omega
      have h0 : (0 : Int) ≤ (i : Int) := by omega
      have hi2 : 2 * i ≤ 200000 := by omega
      have hcell' := hcell
      clear e1 e2 s1 s2 hxB hd hp hpC hi hlt hcell F1 F2 F3 hx
      go_wp2_with fail
      refine wp_region_TV 15 [(b, .cells (wc len n) E fr)] hst (by kernel_rfl) ?_; clear hst; intro w hst; (try simp only [List.length_cons, List.length_nil, Nat.reduceAdd, Array.replicate_succ, Array.replicate_zero, List.push_toArray, List.nil_append, List.cons_append])
      refine r0 0 ?_; simp only [pz, pn, sz, sc]
      refine r0 1 ?_; simp only [pz, pn, sz, sc]
      refine r0 2 ?_; simp only [pz, pn, sz, sc]
      refine r0 3 ?_; simp only [pz, pn, sz, sc]
      refine r0 6 ?_; simp only [pz, pn, sz, sc]
      refine r0 7 ?_; simp only [pz, pn, sz, sc]
      refine r0 8 ?_; simp only [pz, pn, sz, sc]
      refine rl 4 rfl ?_ (ylC tc22); simp only [pz, pn, sz, sc]
      refine r0 5 ?_; simp only [pz, pn, sz, sc]
      refine rl 9 rfl ?_ (ylC tc22); simp only [pz, pn, sz, sc]
      refine r0 10 ?_; simp only [pz, pn, sz, sc]
      refine r0 11 ?_; simp only [pz, pn, sz, sc]
      refine r1 12 ?_; (refine wl_slice2 (o := ⟨some 23, _, _, _, _, _⟩) hst ts39 te72 rfl rfl (by (simp only [eval_lit, eval_k, eval_f, eval_g, List.getD_cons_succ, List.getD_cons_zero]) <;> rfl) (by (simp only [eval_lit, eval_k, eval_f, eval_g, List.getD_cons_succ, List.getD_cons_zero]) <;> rfl) (by rfl) (by rfl) ?_; clear hst; intro b23 w hb23 hst); (try simp only [pz, pn, sz, sc]); refine re ?_
      refine r1 13 ?_; (refine wl_append2 (bytes := 4) (o := ⟨some 24, _, _, _, _, _⟩) hgr hst ts39 te72 (show BytesT _ _ _ by unfold BytesT; kernel_rfl) rfl rfl (by rfl) (by rfl) (by repeat (first | exact Tl.here | apply Tl.there)) (by rfl) (by rfl) (by rfl) (by omega) (by omega) ?_; clear hst hgr; intro v24 Lg w hgr hst; (try simp only [List.cons_append, List.nil_append] at hst); (try simp only [pz, pn, sz, sc])); (try simp only [pz, pn, sz, sc]); refine re ?_
      refine r0 14 ?_; simp only [pz, pn, sz, sc]
      refine rd_ ?_
      go_wp2_with fail
      rw [F1'.out, F2'.out, F3'.out] at hgr
      refine ⟨⟨i + 1, _, by omega, by go_num, by rw [show 2 * (i + 1) = 2 * i + 1 + 1 by omega, ← s2'.out]; exact hgr, hst⟩, ?_⟩
      simp [intOf]; omega
    · have hie : i = len := by omega
      subst hie
      have h1 : n < C ^ (2 * i) := by
        have hB : B = C * C := by decide
        have e1 : C ^ (2 * i) = B ^ i := by rw [hB, Nat.mul_pow, ← Nat.pow_add]; congr 1; omega
        rw [e1]; exact hn
      rw [Nat.mod_eq_of_lt h1] at hgr
      obtain ⟨ao, co, rfl, hat, hbi⟩ := hgr.big (L := (b, .cells (wc i n) E fr) :: Lg) h1 (by omega) (fun x h => List.mem_cons_of_mem _ h)
      have htr := fun w hst => ref01_trim ao (2 * i) co n w (hat [] w hst)
      have hi1 : ¬ ((i : Int) < (i : Int)) := by omega
      clear h1 hat hlt hi hgr hn
      go_wp2_with ((first | (refine kg gf41 hst (htr) rfl rfl rfl rfl ?_; clear hst; intro w hst)); try simp only [pz, pn, sz, sc])
      refine bp_t rfl rfl (by rfl) (PostB.of hst hbi (fun x h => List.mem_cons_of_mem _ h))

theorem ref01_Small (n : Nat) (hn : n < B) (w0 : World) : GivesB Tryz.prog 33 #[.int .u64 n] n w0 := by
  have hst := St.start [] w0
  have hof := fun (b : Nat) (w : World) (h : w.heap[b]? = some (.cells (wc 1 n) 22 (0, 0))) => ref01_Of b 1 1 n 22 (0, 0) (by omega) (by simpa using hn) w h
  have h1 := wc_1 n hn
  have h1' := Lib.hid h1
  clear h1 hn
  go_enter Tryz.func33, Tryz.ntmps33
  go_wp2_with ((first | (refine wl_callB (o := ⟨some 5, _, _, _, _, _⟩) gf65 hst (fun w hst => hof _ w (by rw [← h1'.out]; exact hst.own _ _ (by simp))) rfl rfl rfl rfl rfl ?_; clear hst; intro v5 Lg5 w hb5 hst; (try simp only [List.cons_append, List.nil_append, List.append_nil, List.append_assoc] at hst); (try simp only [pz, pn, sz, sc])) | (refine wl_slice1 (o := ⟨some 4, _, _, _, _, _⟩) hst ts123 te22 rfl rfl (by (simp only [eval_lit, eval_k, eval_f, eval_g, List.getD_cons_succ, List.getD_cons_zero]) <;> rfl) (by rfl) ?_; clear hst; intro b4 w hb4 hst)); try simp only [pz, pn, sz, sc])
  all_goals go_outline
  refine bp_t rfl rfl (by rfl) (PostB.of hst hb5 (fun x h => List.mem_cons_of_mem _ h))

end Go.Proofs.YtefpoconpeggpaaGreatDoor.Rd

namespace Go.Proofs.YtefpoconpeggpaaGreatDoor.Rd
open Go Go.RowKit
set_option linter.unusedVariables false
set_option linter.unusedSimpArgs false
set_option maxRecDepth 100000

set_option maxHeartbeats 8000000 in
theorem ref01_Add (va vb : Value) (la lb' a b : Nat) (w0 : World) (ha : BigAt w0 va la a) (hb : BigAt w0 vb lb' b) (hla : la ≤ 100000) (hlb : lb' ≤ 100000) : GivesB Tryz.prog 17 #[va, vb] (a + b) w0 := by
  have hst := St.start [] w0
  have hda := fun (i : Nat) (hi : i ≤ 1000000) (w : World) (hst : Keeps [] w0 w) => ref01_digit va la a i hi w (ha.keep hst)
  have hdb := fun (i : Nat) (hi : i ≤ 1000000) (w : World) (hst : Keeps [] w0 w) => ref01_digit vb lb' b i hi w (hb.keep hst)
  obtain ⟨han, _, aa, capa, rfl, _, _⟩ := ha
  obtain ⟨hbn, _, ab, capb, rfl, _, _⟩ := hb
  obtain ⟨mx, hmx⟩ : ∃ mx, mx = max la lb' := ⟨_, rfl⟩
  have hmx' : (if (lb' : Int) ≤ (la : Int) then (la : Int) else (lb' : Int)) = (mx : Int) := by split <;> omega
  have h1 : a < C ^ mx := Nat.lt_of_lt_of_le han (Nat.pow_le_pow_right C_pos (by omega))
  have h2 : b < C ^ mx := Nat.lt_of_lt_of_le hbn (Nat.pow_le_pow_right C_pos (by omega))
  go_enter Tryz.func17, Tryz.ntmps17
  go_wp2_with fail
  go_loopw [7, 6, 5] (fun vi vc vo wr => ∃ (i c s : Nat) (Lg : List (Nat × Obj)), i ≤ mx + 1 ∧ vi = .int .i64 i ∧ vc = .int .u64 c ∧ c ≤ 1 ∧ s < C ^ i ∧ s + c * C ^ i = a % C ^ i + b % C ^ i ∧ GRow w0 Lg 72 1 vo i (uc i s) ∧ St w0 [] Lg wr) (fun vi _ _ _ => mx + 1 - (intOf vi).toNat)
  case atStart => exact ⟨0, 0, 0, [], by omega, rfl, rfl, by omega, by simp, by simp [Nat.mod_one], GRow.nil _ _ _, hst⟩
  case round =>
    clear hst
    obtain ⟨i, c, s, Lg, hi, rfl, rfl, hc, hs, he, hgr, hst⟩ := hrel
    by_cases hle : i ≤ mx
    · have hdai := hda i (by omega)
      have hdbi := hdb i (by omega)
      have hsa := dg_split a i
      have hsb := dg_split b i
      have hx := dg_lt a i
      have hy := dg_lt b i
      generalize dg a i = x at *
      generalize dg b i = y at *
      obtain ⟨t1, ht1⟩ : ∃ t1, t1 = c + x := ⟨_, rfl⟩
      obtain ⟨t2, ht2⟩ : ∃ t2, t2 = t1 + y := ⟨_, rfl⟩
      obtain ⟨r, hr⟩ : ∃ r, r = t2 % C := ⟨_, rfl⟩
      obtain ⟨q, hq⟩ : ∃ q, q = t2 / C := ⟨_, rfl⟩
      have hrC : r < C := by rw [hr]; exact Nat.mod_lt _ C_pos
      have hsn := uc_snoc s r i hs hrC
      have hsl := add_lt_C s r i hs hrC
      have hqr : C * q + r = t2 := by rw [hq, hr]; exact Nat.div_add_mod _ _
      rw [C_val] at hx hy hqr hrC hr hq
      have F1 : IntKind.u64.wrap ((c : Int) + (x : Int)) = (t1 : Int) := u64_wrap' _ t1 _ (by omega) (by rw [B_val]; omega)
      have F2 : IntKind.u64.wrap ((t1 : Int) + (y : Int)) = (t2 : Int) := u64_wrap' _ t2 _ (by omega) (by rw [B_val]; omega)
      have F3 : IntKind.u32.wrap (t2 : Int) = (r : Int) := by rw [u32_wrap, C_val, hr]
      have F4 : (t2 : Int) / 4294967296 = (q : Int) := by omega
      have hq1 : q ≤ 1 := by omega
      have he' : s + r * C ^ i + q * C ^ (i + 1) = a % C ^ (i + 1) + b % C ^ (i + 1) := by
        rw [hsa, hsb]
        have : t2 * C ^ i = c * C ^ i + x * C ^ i + y * C ^ i := by rw [ht2, ht1, Nat.add_mul, Nat.add_mul]
        have e2 : q * C ^ (i + 1) + r * C ^ i = t2 * C ^ i := by
          rw [← hqr, Nat.add_mul, Nat.pow_succ', ← Nat.mul_assoc, Nat.mul_comm q, C_val]
        omega
      have hsn' := Lib.hid hsn
      have he'' := Lib.hid he'
      have hi1 : (i : Int) ≤ (mx : Int) := by omega
      have hi2 : i ≤ 100000 := by omega
      clear he hsa hsb hx hy ht1 ht2 hr hq hqr hrC hsn he' hs hc hle hi
      go_wp2_with ((first | (refine kg gf40 hst (fun w hst => hdai w hst.keeps) rfl rfl rfl rfl ?_; clear hst; intro w hst) | (refine kg gf40 hst (fun w hst => hdbi w hst.keeps) rfl rfl rfl rfl ?_; clear hst; intro w hst) | (refine wl_append1 (bytes := 4) (o := ⟨some 30, _, _, _, _, _⟩) hgr hst ts39 te72 (show BytesT _ _ _ by unfold BytesT; kernel_rfl) rfl rfl (by rfl) (by rfl) (by repeat (first | exact Tl.here | apply Tl.there)) (by rfl) (by rfl) (by omega) (by omega) ?_; clear hst hgr; intro v30 Lg w hgr hst; (try simp only [List.cons_append, List.nil_append] at hst); (try simp only [pz, pn, sz, sc])) | (refine wl_slice1 (o := ⟨some 29, _, _, _, _, _⟩) hst ts39 te72 rfl rfl (by (simp only [eval_lit, eval_k, eval_f, eval_g, List.getD_cons_succ, List.getD_cons_zero]) <;> rfl) (by rfl) ?_; clear hst; intro b29 w hb29 hst)); try simp only [pz, pn, sz, sc])
      refine ⟨⟨i + 1, q, s + r * C ^ i, _, by omega, by go_num, rfl, hq1, hsl, he''.out, by rw [← hsn'.out]; exact hgr, hst⟩, ?_⟩
      simp [intOf]; omega
    · have hie : i = mx + 1 := by omega
      subst hie
      have hp : C ^ mx * 2 ≤ C ^ (mx + 1) := by rw [Nat.pow_succ]; exact Nat.mul_le_mul_left _ (by rw [C_val]; omega)
      rw [Nat.mod_eq_of_lt (show a < C ^ (mx + 1) by omega), Nat.mod_eq_of_lt (show b < C ^ (mx + 1) by omega)] at he
      have hc0 : c = 0 := by
        rcases Nat.eq_zero_or_pos c with h | h
        · exact h
        · have : 1 * C ^ (mx + 1) ≤ c * C ^ (mx + 1) := Nat.mul_le_mul_right _ h
          omega
      subst hc0
      rw [Nat.zero_mul, Nat.add_zero] at he
      subst he
      obtain ⟨ao, co, rfl, hat, hbi⟩ := hgr.big (L := Lg) hs (by omega) (fun x h => h)
      have htr := fun w hst => ref01_trim ao (mx + 1) co (a + b) w (hat [] w hst)
      have hi1 : ¬ ((mx : Int) + 1 ≤ (mx : Int)) := by omega
      have hi2 : ((mx + 1 : Nat) : Int) = (mx : Int) + 1 := by omega
      rw [hi2]
      clear hs hp hi hle h1 h2 hi2 hat
      go_wp2_with ((first | (refine kg gf41 hst (htr) rfl rfl rfl rfl ?_; clear hst; intro w hst)); try simp only [pz, pn, sz, sc])
      refine bp_t rfl rfl (by rfl) (PostB.of hst hbi (fun x h => h))

end Go.Proofs.YtefpoconpeggpaaGreatDoor.Rd

namespace Go.Proofs.YtefpoconpeggpaaGreatDoor.Rd
open Go Go.RowKit
set_option linter.unusedVariables false
set_option linter.unusedSimpArgs false
set_option maxRecDepth 100000

section
variable {P : Program} {ops : Array Oper} {rest : List Oper} {Q : Exit → Act → World → Prop} {a : Act} {w w0 : World} {S : List Nat} {L : List (Nat × Obj)}
theorem wl_slice0 {o : Oper} {T e : TypeId} {z : Value} (hst : St w0 S L w) (hu : SliceT P T e) (he : ElemT P e 1 z) (hg : o.guard = none) (ho : o.op = .buildSlice T 0 #[])
    (h : ∀ b w', w0.heap.size ≤ b → St w0 S ((b, .cells #[] e) :: L) w' → wpList P ops Q rest (a.put o.dst (.slice (some ⟨b, 0, none⟩) 0 0)) w') : wpList P ops Q (o :: rest) a w := by
  obtain ⟨i, hi, hisz, hz⟩ := he
  have e1 : Array.range 0 = #[] := by decide
  have hr : (Instr.buildSlice T 0 #[]).run P w = .ok (.slice (some ⟨w.heap.size, 0, none⟩) 0 0) (w.alloc (.cells #[] e)) := by
    simp [Instr.buildSlice, run_underlying (show P.underlying T = some (.slice e) from hu), sizeOf, typeInfo, hi, Instr.fill, newRow, e1]
  refine wpList_plain hg fun K hK => ?_
  unfold Oper.wp execOp
  simp only [ho, Sem.run_bind, List.map_toArray, List.map_nil, hr, Sem.run_pure, Result.andThen_ok]
  exact hK _ _ (h _ _ hst.keeps.size (hst.alloc _))
end
theorem BigIn.zero (s : Nat) (a : Option Addr) (c : Nat) : BigIn s [] (.slice a 0 c) 0 := ⟨by simp, by simp, by rw [dl_zero]; omega, a, c, rfl, by rw [dl_zero]; omega, fun h => by rw [dl_zero] at h; omega⟩
theorem dl_B (x : Nat) (h : x < B) : dl x ≤ 2 := dl_le.2 (by rw [show C ^ 2 = B from rfl]; exact h)
theorem B_pow (i : Nat) : B ^ i = 2 ^ (64 * i) := by rw [show B = 2 ^ 64 from rfl, ← Nat.pow_mul]
theorem M_C : M = C ^ 16 := by decide

theorem ref02_Power (n : Nat) (hn : n ≤ 100000) (w0 : World) : GivesB Tryz.prog 90 #[.int .i64 n] (2 ^ n) w0 := by
  have hst := St.start [] w0
  have hs := ref01_Small 1 (by decide)
  have hd := dl_B 1 (by decide)
  have hshl := fun v w (h : BigAt w v (dl 1) 1) => ref01_Shl v (dl 1) 1 n w h (by omega) hn
  rw [Nat.one_mul] at hshl
  clear hd
  go_enter Tryz.func90, Tryz.ntmps90
  go_wp2_with ((first | (refine wl_callB (o := ⟨some 3, _, _, _, _, _⟩) gf33 hst (fun w hst => hs w) rfl rfl rfl rfl rfl ?_; clear hst; intro v3 Lg3 w hb3 hst; (try simp only [List.cons_append, List.nil_append, List.append_nil, List.append_assoc] at hst); (try simp only [pz, pn, sz, sc])) | (refine wl_callB (o := ⟨some 5, _, _, _, _, _⟩) gf18 hst (fun w hst => hshl _ w (hb3.at hst (fun x h => h))) rfl rfl rfl rfl rfl ?_; clear hst; intro v5 Lg5 w hb5 hst; (try simp only [List.cons_append, List.nil_append, List.append_nil, List.append_assoc] at hst); (try simp only [pz, pn, sz, sc]))); try simp only [pz, pn, sz, sc])
  refine bp_t rfl rfl (by rfl) (PostB.of hst hb5 (fun x h => by simp [h]))

set_option maxHeartbeats 4000000 in
theorem ref02_Big (n : Nat) (hn : n < M) (w0 : World) : GivesB Tryz.prog 16 #[W n] n w0 := by
  have hst := St.start [] w0
  go_enter Tryz.func16, Tryz.ntmps16
  go_wp2_with ((first | (refine kb 1 hst rfl rfl ?_; clear hst; intro b1 w hb1 hst) | (refine wl_slice0 (o := ⟨some 5, _, _, _, _, _⟩) hst (show SliceT _ 39 72 by unfold SliceT; kernel_rfl) (show ElemT Tryz.prog 72 1 (.int .u32 0) from ElemT.of (by kernel_rfl)) rfl rfl ?_; clear hst; intro b5 w hb5 hst)); try simp only [pz, pn, sz, sc])
  go_loopw [4, 3] (fun vi vb wr => ∃ (i : Nat) (Lb : List (Nat × Obj)), i ≤ 8 ∧ vi = .int .i64 i ∧ BigIn w0.heap.size Lb vb (n % B ^ i) ∧ St w0 [] ((b1, .cells (wc 8 n) 44) :: Lb) wr) (fun vi _ _ => 8 - (intOf vi).toNat)
  case atStart => exact ⟨0, [], by omega, rfl, by rw [Nat.pow_zero, Nat.mod_one]; exact BigIn.zero _ _ _, hst.drop⟩
  case round =>
    clear hst
    obtain ⟨i, Lb, hi, rfl, hbb, hst⟩ := hrel
    by_cases hlt : i < 8
    · have h0 : (0 : Int) ≤ (i : Int) := by omega
      have h1 : (i : Int) < 8 := by omega
      have hs := ref01_Small (lb n i) (lb_lt _ _)
      have hd := dl_B (lb n i) (lb_lt _ _)
      have hshl : ∀ v w (h : BigAt w v (dl (lb n i)) (lb n i)), GivesB Tryz.prog 18 #[v, .int .i64 (64 * (i : Int))] (lb n i * B ^ i) w := fun v w h => by
        have := ref01_Shl v _ _ (64 * i) w h (by omega) (by omega)
        rw [← B_pow, show ((64 * i : Nat) : Int) = 64 * (i : Int) by omega] at this
        exact this
      have hlow : n % B ^ i < C ^ 16 := by rw [← M_C]; exact Nat.lt_of_le_of_lt (Nat.mod_le _ _) hn
      have hsum : lb n i * B ^ i < C ^ 16 := by
        rw [← M_C]
        exact Nat.lt_of_le_of_lt (Nat.le_trans (by rw [lb_split]; exact Nat.le_add_left _ _) (Nat.mod_le n (B ^ (i + 1)))) hn
      have hadd : ∀ va vb w (ha : BigAt w va (dl (n % B ^ i)) (n % B ^ i)) (hb : BigAt w vb (dl (lb n i * B ^ i)) (lb n i * B ^ i)), GivesB Tryz.prog 17 #[va, vb] (n % B ^ (i + 1)) w := fun va vb w ha hb => by
        have := ref01_Add va vb _ _ _ _ w ha hb (Nat.le_trans (dl_le.2 hlow) (by omega)) (Nat.le_trans (dl_le.2 hsum) (by omega))
        rwa [← lb_split] at this
      clear hd hlow hsum hi hlt
      go_wp2_with ((first | (refine wl_callB (o := ⟨some 14, _, _, _, _, _⟩) gf33 hst (fun w hst => hs w) rfl rfl rfl rfl rfl ?_; clear hst; intro v14 Lg14 w hb14 hst; (try simp only [List.cons_append, List.nil_append, List.append_nil, List.append_assoc] at hst); (try simp only [pz, pn, sz, sc])) | (refine wl_callB (o := ⟨some 17, _, _, _, _, _⟩) gf18 hst (fun w hst => hshl _ w (hb14.at hst (fun x h => by simp [h]))) rfl rfl rfl rfl rfl ?_; clear hst; intro v17 Lg17 w hb17 hst; (try simp only [List.cons_append, List.nil_append, List.append_nil, List.append_assoc] at hst); (try simp only [pz, pn, sz, sc])) | (refine wl_callB (o := ⟨some 18, _, _, _, _, _⟩) gf17 hst (fun w hst => hadd _ _ w (hbb.at hst (fun x h => by simp [h])) (hb17.at hst (fun x h => by simp [h]))) rfl rfl rfl rfl rfl ?_; clear hst; intro v18 Lg18 w hb18 hst; (try simp only [List.cons_append, List.nil_append, List.append_nil, List.append_assoc] at hst); (try simp only [pz, pn, sz, sc])) | (refine kc hst tc22 rfl ?_)); try simp only [pz, pn, sz, sc])
      go_roundw
      case rel => exact ⟨i + 1, Lg18, by omega, by go_num, hb18, hst.sub (by repeat (first | exact List.Sublist.refl _ | refine List.Sublist.cons_cons _ ?_ | refine List.Sublist.trans ?_ (List.sublist_append_right _ _)))⟩
      case measure => simp [intOf]; omega
    · have hie : i = 8 := by omega
      subst hie
      rw [← M_eq, Nat.mod_eq_of_lt hn] at hbb
      have hi1 : ¬ ((8 : Int) < 8) := by omega
      go_wp2_with fail
      refine bp_t rfl rfl (by rfl) (PostB.of hst hbb (fun x h => by simp [h]))

end Go.Proofs.YtefpoconpeggpaaGreatDoor.Rd
