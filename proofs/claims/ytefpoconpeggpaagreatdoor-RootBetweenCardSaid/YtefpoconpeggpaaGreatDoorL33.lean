/- The root of a word, rounded down, up, and to the nearest (plain): how these lie. -/
import Derived.Test.YtefpoconpeggpaaGreatDoorL32
import Derived.Test.YtefpoconpeggpaaGreatDoorL20
import Derived.Test.YtefpoconpeggpaaGreatDoorL01
import Derived.Test.YtefpoconpeggpaaGreatDoorL28
import Derived.Deep.DeepCutAuto
namespace Go.Proofs.YtefpoconpeggpaaGreatDoor.Rd
open Go Go.RowKit
set_option linter.unusedVariables false
set_option linter.unusedSimpArgs false
set_option maxRecDepth 100000

/-- By how much a sum of squares is shifted up. -/
def hyU (sg : Nat) : Nat := (254 - bl sg) / 2
theorem hyU_in (sg : Nat) (h : sg < 2 ^ 187) : 33 ≤ hyU sg ∧ hyU sg ≤ 127 ∧ 253 ≤ bl sg + 2 * hyU sg ∧ bl sg + 2 * hyU sg ≤ 254 := by
  have := bl_le.2 h
  unfold hyU
  omega

set_option maxHeartbeats 4000000 in
theorem root_Hypot_yes (bs br : Nat) (hbs : bs ≠ 0) (hbr : br ≠ 0) (c : Array Value) (hc : RomOk c) (q : Nat → Int) (L : List (Nat × Obj)) (hS : SetSt bs br c q L) (k : Nat) (h1 : 1 ≤ k) (h2 : k ≤ 4) (hq1 : 0 ≤ q k) (hq2 : q k ≤ 1000)
    (f : Nat) (f1 : 1 ≤ f) (f4 : f ≤ 4) (m : Nat) (m1 : 1 ≤ m) (m5 : m ≤ 5) (x y : Nat) (E : Int) (sg : Nat) (hE1 : -300000 ≤ E) (hE2 : E ≤ 300000) (h0 : sg ≠ 0) (hsg : sg < 2 ^ 187) (hA : HA f x y true (nbC false (2 * E) sg)) (r : Nat) (hr : isqrt (sg * 2 ^ (2 * hyU sg)) = r) (more : Bool) (hmore : decide (sg * 2 ^ (2 * hyU sg) - r * r = 0) = !more) (hrb : fP f < bl r) (hrb2 : bl r ≤ 511)
    (res fl : Nat) (hres : rndP f m false (E - hyU sg) r more = (res, fl)) (w0 : World) (hF : FmtIn w0) (hL : Owns w0 L) :
    GivesZ Tryz.prog 19 #[.pointer (some ⟨bs, 0, none⟩), .int .i64 k, .int .i64 f, .int .i64 m, Wd x, Wd y] [bs, br] L (fun L' v => v = .tuple #[Wd res, .int .i64 fl, .int .i64 0] ∧ SetSt bs br (romK k (sg * 2 ^ (2 * hyU sg)) c) (bump k q) L') w0 := by
  refine ⟨fun y hy => by simp only [List.mem_cons, List.not_mem_nil, or_false] at hy; rcases hy with rfl | rfl; exact hS.bs.1; exact hS.bs.2, ?_⟩
  have hst := St.ofOwns [bs, br] hL
  have hk := Lib.hid (fun w (k : Keeps [bs, br] w0 w) => hF.keep k (by simp only [List.mem_cons, List.not_mem_nil, or_false, not_or]; exact ⟨fun e => hbs e.symm, fun e => hbr e.symm⟩))
  have hkn := hF.lt
  have hab := Lib.hid hA.z
  obtain ⟨u1, u2, u3, u4⟩ := hyU_in sg hsg
  have hn256 : sg * 2 ^ (2 * hyU sg) < 2 ^ 256 := by
    have a := Nat.mul_lt_mul_of_pos_right (bl_spec sg).1 (show 0 < 2 ^ (2 * hyU sg) from Nat.pow_pos (by omega))
    rw [← Nat.pow_add] at a
    exact Nat.lt_of_lt_of_le a (Nat.pow_le_pow_right (by omega) (by omega))
  have hr0 : r ≠ 0 := fun h => by rw [h, bl_zero] at hrb; omega
  have hmay := fun (w : World) (ho : Owns w L) => root_may bs br c q L hS k h1 h2 m m1 m5 w ho
  have hrd := fun L' (hS' : SetSt bs br c q L') (w : World) (hw : FmtIn w) (ho : Owns w L') => root_roundedA bs br hbs hbr c hc q L' hS' k h1 h2 hq1 hq2 f f1 f4 m m1 m5 (sg * 2 ^ (2 * hyU sg)) hn256 (E - hyU sg) (by omega) (by omega) r hr hr0 hrb2 hrb more hmore res fl hres w hw ho
  have hsM : sg < M := Nat.lt_trans hsg (small_M2 187 (by omega))
  have hev := root_even false (2 * E) sg 0 0 E (by omega) (by omega) hsM (by omega) (by rw [Nat.pow_zero, Nat.mul_one]; exact hsM) (.inl rfl) (by omega)
  rw [Nat.pow_zero, Nat.mul_one, show ((0 : Nat) : Int) = 0 from rfl] at hev
  have hlen := wide_Len sg hsM
  have hshl := wide_Shl sg ((2 * hyU sg : Nat) : Int) hsM
  rw [clampN_nat _ (by omega), Nat.mod_eq_of_lt (Nat.lt_trans hn256 (small_M2 256 (by omega)))] at hshl
  obtain ⟨up, hup⟩ : ∃ up : Int, up = 254 - (bl sg : Int) := ⟨_, rfl⟩
  have E1 : 254 - (bl sg : Int) = up := hup.symm
  have hand : bits .and .i64 up 1 = up - ((2 * hyU sg : Nat) : Int) := by rw [bits_and_one]; unfold hyU; omega
  have E2 : up - (up - ((2 * hyU sg : Nat) : Int)) = ((2 * hyU sg : Nat) : Int) := by omega
  have E3 : ((2 * hyU sg : Nat) : Int).tdiv 2 = (hyU sg : Int) := by rw [Int.tdiv_eq_ediv_of_nonneg (by omega)]; omega
  have E4 : ((2 * hyU sg : Nat) : Int) / 2 = (hyU sg : Int) := by omega
  have p1 : 0 < up := by unfold hyU at u1; omega
  have p2 : up ≤ 254 := by omega
  have p3 : (hyU sg : Int) ≤ 127 := by omega
  have p4 : ((2 * hyU sg : Nat) : Int) ≤ 254 := by omega
  have p5 : (0 : Int) ≤ (hyU sg : Int) := by omega
  have p6 : (0 : Int) ≤ ((2 * hyU sg : Nat) : Int) := by omega
  have hpt : Part (nbC false (2 * E) sg) (wc 8 sg) (nbC false (2 * E) sg) (wc 8 sg) 2 := part1 2 _ _ _ rfl rfl
  have yX := nbC_one false (2 * E) sg
  have zX := nbC_size false (2 * E) sg
  have hM := M_pos
  have Q0 : decide (sg = 0) = false := decide_eq_false h0
  clear hF hA hS hL h1 h2 hbs hbr hc hq1 hq2 m1 m5 f1 f4 hn256 hr hmore hrb hrb2 hr0 hsg u1 u2 u3 u4 hup h0 hres
  generalize nbC false (2 * E) sg = cX at *
  generalize romK k (sg * 2 ^ (2 * hyU sg)) c = c' at *
  generalize bump k q = q' at *
  generalize sg * 2 ^ (2 * hyU sg) = n at *
  generalize ((2 * hyU sg : Nat) : Int) = U2 at *
  generalize (hyU sg : Int) = U1 at *
  generalize bl sg = ks at *
  go_enter Tryz.func19, Tryz.ntmps19
  go_wp2_with ((first | (refine kT gf42 hst (fun w hst => hab.out b8 b11 b15 _ _ w (by have q := hst.nodup; simp only [List.map_cons, List.map_nil, List.nodup_cons, List.mem_cons, List.not_mem_nil, or_false, not_or] at q; omega) (by have q := hst.nodup; simp only [List.map_cons, List.map_nil, List.nodup_cons, List.mem_cons, List.not_mem_nil, or_false, not_or] at q; omega) (by have q := hst.nodup; simp only [List.map_cons, List.map_nil, List.nodup_cons, List.mem_cons, List.not_mem_nil, or_false, not_or] at q; omega) (hk.out w hst.keeps) (by omega) (hst.own _ _ (by repeat (first | exact List.Mem.head _ | refine List.Mem.tail _ ?_))) (hst.own _ _ (by repeat (first | exact List.Mem.head _ | refine List.Mem.tail _ ?_))) (hst.own _ _ (by repeat (first | exact List.Mem.head _ | refine List.Mem.tail _ ?_)))) rfl rfl rfl rfl ?_; clear hst; intro w hst) | (refine klm hst ta44 rfl ?_ (hc := hpt)) | (refine kZ (o := ⟨some 35, _, _, _, _, _⟩) (fun L' => (b15, .cells cX 46) :: (b12, .cells (wc 2 0) 24) :: (b11, .cells (wdc y) 24) :: (b10, .cells (wdc x) 24) :: (b8, .cells #[.int .i64 f] 3) :: L') gf29 hst (fun w hst => hmay w (hst.owns (L := L) (.there (.there (.there (.there (.there .here))))))) rfl rfl rfl rfl ?_; clear hst; intro v35 L1 w hR1 hnew1 hst; obtain ⟨rfl, hS1⟩ := hR1) | (refine kf gf46 hst (hev) rfl rfl rfl rfl ?_; clear hst; intro w hst) | (refine kf gf47 hst (hlen) rfl rfl rfl rfl ?_; clear hst; intro w hst) | (refine kf gf48 hst (hshl) rfl rfl rfl rfl ?_; clear hst; intro w hst) | (refine kZ (o := ⟨some 67, _, _, _, _, _⟩) (fun L' => (b18, .cells (wc 8 n) 44) :: (b15, .cells cX 46) :: (b12, .cells (wc 2 0) 24) :: (b11, .cells (wdc y) 24) :: (b10, .cells (wdc x) 24) :: (b8, .cells #[.int .i64 f] 3) :: L') gf30 hst (fun w hst => hrd L1 hS1 w (hk.out w hst.keeps) (hst.owns (L := L1) (.there (.there (.there (.there (.there (.there .here)))))))) rfl rfl rfl rfl ?_; clear hst; intro v67 L2 w hR2 hnew2 hst; obtain ⟨rfl, hS2⟩ := hR2) | (refine wl_guard (by rfl) ?_) | (refine kb 8 hst rfl rfl ?_; clear hst; intro b8 w hb8 hst) | (refine kb 10 hst rfl rfl ?_; clear hst; intro b10 w hb10 hst) | (refine kb 11 hst rfl rfl ?_; clear hst; intro b11 w hb11 hst) | (refine ka 12 hst tz24 rfl rfl ?_; clear hst; intro b12 w hb12 hst) | (refine ka 15 hst tz46 rfl rfl ?_; clear hst; intro b15 w hb15 hst) | (refine kc hst tc3 rfl ?_) | (refine kl hst ta24 rfl ?_) | (refine kl hst ta44 rfl ?_) | (refine kn tr44 tc22 rfl ?_) | (refine kt hst ta24 rfl rfl ?_; clear hst; intro w hst) | (refine kl hst ta46 rfl ?_) | (refine ka 18 hst tz44 rfl rfl ?_; clear hst; intro b18 w hb18 hst) | (refine kt hst ta44 rfl rfl ?_; clear hst; intro w hst)); try simp only [pz, pn, sz, sc])
  exact bp_ctt rfl rfl (la hst ta24) (by rfl) (by rfl) (PostZ.of hst ⟨rfl, hS2⟩ (fun y hy => (hnew2 y hy).elim (fun h => by
    obtain ⟨z, hz, e⟩ := List.mem_map.1 h
    rw [← e]; exact hnew1 z hz) .inr))

end Go.Proofs.YtefpoconpeggpaaGreatDoor.Rd

namespace Go.Proofs.YtefpoconpeggpaaGreatDoor.Rd
set_option linter.unusedVariables false

end Go.Proofs.YtefpoconpeggpaaGreatDoor.Rd

namespace Go.Proofs.YtefpoconpeggpaaGreatDoor.Rd
open Go Go.RowKit
set_option linter.unusedVariables false

theorem St.perm {w0 w : World} {S : List Nat} {L L' : List (Nat × Obj)} (h : St w0 S L w) (p : L'.Perm L) : St w0 S L' w :=
  ⟨h.keeps, fun b o hm => h.own b o (p.mem_iff.1 hm), (p.map Prod.fst).nodup_iff.2 h.nodup⟩
/-- Out x L L': L without its x is L'. -/
inductive Out (x : Nat × Obj) : List (Nat × Obj) → List (Nat × Obj) → Prop
  | head {L} : Out x (x :: L) L
  | tail {y L L'} : Out x L L' → Out x (y :: L) (y :: L')
  | app {A L L'} : Out x L L' → Out x (A ++ L) (A ++ L')
theorem Out.perm {x : Nat × Obj} {L L' : List (Nat × Obj)} (h : Out x L L') : (x :: L').Perm L := by
  induction h with
  | head => exact .refl _
  | @tail y L L' _ ih => exact (List.Perm.swap y x L').trans (ih.cons y)
  | @app A L L' _ ih => exact (List.perm_middle.symm).trans (ih.append_left A)
theorem St.front {w0 w : World} {S : List Nat} {L L' : List (Nat × Obj)} (x : Nat × Obj) (h : St w0 S L w) (ho : Out x L L') : St w0 S (x :: L') w := h.perm ho.perm

section picks
variable {P : Program} {ops : Array Oper} {rest : List Oper} {Q : Exit → Act → World → Prop} {a : Act} {w : World}
end picks

end Go.Proofs.YtefpoconpeggpaaGreatDoor.Rd

namespace Go.Proofs.YtefpoconpeggpaaGreatDoor.Rd
open Go Go.RowKit
set_option linter.unusedVariables false
set_option linter.unusedSimpArgs false
set_option maxRecDepth 100000

/-- The sum of two words' squares, as the reference has it, and its root's exponent. -/
def hN (f a b : Nat) : Nat := sqS (wExp f a) (wSig f a) (wExp f b) (wSig f b)
def hE (f a b : Nat) : Int := min (wExp f a) (wExp f b)
/-- The same of the numbers whose highest digits are at their places. -/
def hP (f a b : Nat) : Nat := sqS (uExp f a) (uSig f a) (uExp f b) (uSig f b)
def hM (f a b : Nat) : Int := min (uExp f a) (uExp f b)
end Go.Proofs.YtefpoconpeggpaaGreatDoor.Rd

namespace Go.Proofs.YtefpoconpeggpaaGreatDoor.Rd
open Go Go.RowKit
set_option linter.unusedVariables false
set_option linter.unusedSimpArgs false
set_option maxRecDepth 100000

/-- The radicand that an engine is asked of; its root; is there more? -/
def hR (f a b : Nat) : Nat := hP f a b * 2 ^ (2 * hyU (hP f a b))
def hQ (f a b : Nat) : Nat := isqrt (hR f a b)
def hS (f a b : Nat) : Bool := decide (hQ f a b * hQ f a b ≠ hR f a b)
theorem fB_M2 (f : Nat) : 2 ^ fB f ≤ M2 := by
  have c : 2 ^ fB f ≤ 2 ^ 128 := Nat.pow_le_pow_right (by omega) (fB_in f).2
  have e : M2 = 2 ^ 128 := by decide
  omega
end Go.Proofs.YtefpoconpeggpaaGreatDoor.Rd

namespace Go.Proofs.YtefpoconpeggpaaGreatDoor.Rd
open Go Go.RowKit
set_option linter.unusedVariables false
set_option linter.unusedSimpArgs false
set_option maxRecDepth 100000

/-! The examples: the root of 2, and of 3 and 4 squared. -/
theorem root_unique {n a : Nat} (hn : n < 2 ^ 256) (h1 : a * a ≤ n) (h2 : n < (a + 1) * (a + 1)) : isqrt n = a := by
  have h := (isqrt_spec (n := n) (by rw [four_128]; exact hn)).1
  obtain ⟨h3, h4⟩ := h
  rcases Nat.lt_trichotomy (isqrt n) a with h | h | h
  · have := Nat.mul_self_le_mul_self (show isqrt n + 1 ≤ a from h); omega
  · exact h
  · have := Nat.mul_self_le_mul_self (show a + 1 ≤ isqrt n from h); omega
theorem ex1_n : rN 1 0x4000 = 1024 * 2 ^ 15 ∧ rX 1 0x4000 = -12 ∧ someB 1 0x4000 = true := by decide +kernel
theorem ex1_r : rR 1 0x4000 = 5792 := by
  unfold rR
  rw [ex1_n.1]
  exact root_unique (by decide) (by decide) (by decide)
theorem ex1 : rootW 1 1 0x4000 = (0x3da8, 16) := by
  unfold rootW rMore
  rw [ex1_r, ex1_n.1, ex1_n.2.1]
  decide +kernel

end Go.Proofs.YtefpoconpeggpaaGreatDoor.Rd

namespace Go.Proofs.YtefpoconpeggpaaGreatDoor.Rd
open Go Go.RowKit
set_option linter.unusedVariables false
set_option linter.unusedSimpArgs false
set_option maxRecDepth 100000

theorem ex2_s : someB 1 0x4200 = true ∧ someB 1 0x4400 = true ∧ hyC 1 (uExp 1 0x4200) (uSig 1 0x4200) (uExp 1 0x4400) (uSig 1 0x4400) = nbC false (2 * (-9)) 6553600 := by
  refine ⟨by decide +kernel, by decide +kernel, ?_⟩
  have e : uExp 1 0x4200 = -9 ∧ uSig 1 0x4200 = 1536 ∧ uExp 1 0x4400 = -8 ∧ uSig 1 0x4400 = 1024 := by decide +kernel
  rw [e.1, e.2.1, e.2.2.1, e.2.2.2]
  have h1 : hyOk 1 (-9) (-8) = true := by decide
  unfold hyC
  rw [if_pos h1]
  have h2 : sqS (-9) 1536 (-8) 1024 = 6553600 := by decide +kernel
  rw [h2]
  rfl
theorem ex2_u : hyU 6553600 = 115 := by decide +kernel
theorem ex2_r : isqrt (6553600 * 2 ^ (2 * hyU 6553600)) = 5 * 2 ^ 124 := by
  rw [ex2_u]
  exact root_unique (by decide +kernel) (by decide +kernel) (by decide +kernel)
theorem ex2 : rndP 1 1 false (-9 - (hyU 6553600 : Nat)) (5 * 2 ^ 124) false = (0x4500, 0) := by
  rw [ex2_u]
  decide +kernel

theorem word_lit (x : Nat) (hx : x < B) : Wd x = .agg #[.int .u64 0, .int .u64 (x : Int)] := by
  unfold Wd wdc
  have h1 : lb x 1 = 0 := by unfold lb; rw [Nat.pow_one, Nat.div_eq_of_lt hx]; rfl
  have h0 : lb x 0 = x := by rw [lb_zero, Nat.mod_eq_of_lt hx]
  rw [h1, h0]
  rfl

/-- A set that is new, in a world that has the formats. -/
theorem new_ne {w0 : World} {bs br : Nat} {L : List (Nat × Obj)} (hn : NewIn w0.heap.size L) (hS : SetNew bs br L) (hF : FmtIn w0) : bs ≠ 0 ∧ br ≠ 0 := by
  have h1 : w0.heap.size ≤ bs := hn.1 (bs, _) (by rw [hS]; exact List.Mem.head _)
  have h2 : w0.heap.size ≤ br := hn.1 (br, _) (by rw [hS]; exact List.Mem.tail _ (List.Mem.head _))
  have := hF.lt
  omega

set_option maxHeartbeats 4000000 in
theorem law25_awake (w0 : World) (hF : FmtIn w0) : GivesAt Tryz.prog 9 #[] (.bool true) w0 := by
  have hst := St.start [] w0
  have hk := Lib.hid (fun w (k : Keeps [] w0 w) => hF.keep k (by simp))
  have hnew := fun w => engine_New w
  have e1 := Lib.hid (show ∀ bs br L, SetNew bs br L → bs ≠ 0 → br ≠ 0 → ∀ w, FmtIn w → Owns w L → GivesZ Tryz.prog 7 #[.pointer (some ⟨bs, 0, none⟩), .int .i64 4, .int .i64 1, .int .i64 1, .agg #[.int .u64 0, .int .u64 16384]] [bs, br] L (fun L' v => v = .tuple #[Wd 0x3da8, .int .i64 16, .int .i64 0] ∧ ∃ c q, RomOk c ∧ 0 ≤ q 2 ∧ q 2 ≤ 1000 ∧ SetSt bs br c q L') w from
    fun bs br L hS h1 h2 w hw hL => by
      obtain ⟨a1, a2, a3, a4⟩ := someB_spec ex1_n.2.2
      have h := root_Finite bs br h1 h2 romN romN_ok (fun _ => 0) L (.inl ⟨hS, rfl, rfl⟩) 4 (by omega) (by omega) (by simp) (by simp) 1 (by omega) (by omega) 1 (by omega) (by omega) 0x4000 a1 a2 a3 a4 w hw hL
      rw [ex1, word_lit 0x4000 (by decide)] at h
      exact h.weak fun L' v hv => ⟨hv.1, _, _, romK_ok romN_ok, by decide, by decide, hv.2⟩)
  have e2 := Lib.hid (show ∀ bs br c q L, RomOk c → 0 ≤ q 2 → q 2 ≤ 1000 → SetSt bs br c q L → bs ≠ 0 → br ≠ 0 → ∀ w, FmtIn w → Owns w L → GivesZ Tryz.prog 19 #[.pointer (some ⟨bs, 0, none⟩), .int .i64 2, .int .i64 1, .int .i64 1, .agg #[.int .u64 0, .int .u64 16896], .agg #[.int .u64 0, .int .u64 17408]] [bs, br] L (fun L' v => v = .tuple #[Wd 0x4500, .int .i64 0, .int .i64 0] ∧ ∃ c q, SetSt bs br c q L') w from
    fun bs br c q L hc q1 q2 hS h1 h2 w hw hL => by
      have hA := HA_yes 1 (by omega) (by omega) 0x4200 0x4400 ex2_s.1 ex2_s.2.1
      rw [ex2_s.2.2] at hA
      have h := root_Hypot_yes bs br h1 h2 c hc q L hS 2 (by omega) (by omega) q1 q2 1 (by omega) (by omega) 1 (by omega) (by omega) 0x4200 0x4400 (-9) 6553600 (by omega) (by omega) (by omega) (by decide) hA (5 * 2 ^ 124) ex2_r false (by rw [ex2_u]; decide +kernel) (by decide +kernel) (by decide +kernel) 0x4500 0 ex2 w hw hL
      rw [word_lit 0x4200 (by decide), word_lit 0x4400 (by decide)] at h
      exact h.weak fun L' v hv => ⟨hv.1, _, _, hv.2⟩)
  have d1 := word_lit 0x3da8 (by decide)
  have d2 := word_lit 0x4500 (by decide)
  have hl1 := Lib.hid d1
  have hl2 := Lib.hid d2
  have hF' := Lib.hid hF
  clear hF d1 d2
  go_enter Tryz.func9, Tryz.ntmps9
  go_wp2_with ((first | (refine kN (o := ⟨some 8, _, _, _, _, _⟩) gf8 hst (fun w hst => hnew w) rfl rfl rfl rfl ?_; clear hst; intro v8 L w hn8 hR8 hst; obtain ⟨bs, br, hsr, rfl, hS⟩ := hR8; (try simp only [List.cons_append, List.nil_append, List.append_nil, List.append_assoc] at hst); obtain ⟨hbs, hbr⟩ := new_ne hn8 hS hF'.out; have hbs0 : w0.heap.size ≤ bs := hn8.1 (bs, _) (by rw [hS]; exact List.Mem.head _); have hbr0 : w0.heap.size ≤ br := hn8.1 (br, _) (by rw [hS]; exact List.Mem.tail _ (List.Mem.head _))) | (refine kZ (o := ⟨some 12, _, _, _, _, _⟩) (fun L' => L') gf7 hst (fun w hst => e1.out bs br L hS hbs hbr w (hk.out w hst.keeps) (hst.owns (L := L) .here)) rfl rfl rfl rfl ?_; clear hst; intro v12 L1 w hR1 hnew1 hst; obtain ⟨rfl, c1, q1, hc1, hq1, hq2, hS1⟩ := hR1) | (refine kZ (o := ⟨some 20, _, _, _, _, _⟩) (fun L' => (b2, .cells (wdc 0x3da8) 24) :: L') gf19 hst (fun w hst => e2.out bs br c1 q1 L1 hc1 hq1 hq2 hS1 hbs hbr w (hk.out w hst.keeps) (hst.owns (L := L1) (.there .here))) rfl rfl rfl rfl ?_; clear hst; intro v20 L2 w hR2 hnew2 hst; obtain ⟨rfl, c2, q2, hS2⟩ := hR2) | (refine keS (c := true) tf24 tc22 rfl ?_ (hy := hl1.out.symm) (hm := by decide) (hn := by decide) (hc := by decide)) | (refine keS (c := true) tf24 tc22 rfl ?_ (hy := hl2.out.symm) (hm := by decide) (hn := by decide) (hc := by decide)) | (refine wl_guard (by rfl) ?_) | (refine ka 2 hst tz24 rfl rfl ?_; clear hst; intro b2 w hb2 hst) | (refine kt hst ta24 rfl rfl ?_; clear hst; intro w hst) | (refine ka 5 hst tz24 rfl rfl ?_; clear hst; intro b5 w hb5 hst) | (refine kl hst ta24 rfl ?_)); try simp only [pz, pn, sz, sc])
  refine bp_t rfl rfl (by rfl) ⟨?_, hst.keeps⟩
  rfl

end Go.Proofs.YtefpoconpeggpaaGreatDoor.Rd

namespace Go.Proofs.YtefpoconpeggpaaGreatDoor.Rd
open Go Go.RowKit
set_option linter.unusedVariables false
set_option linter.unusedSimpArgs false
set_option maxRecDepth 100000

/-- Is a word one of a number above 0, of whatever format? -/
def sB (f : Int) (m : Nat) : Bool := if 1 ≤ f ∧ f ≤ 4 then someB f.toNat m else false
theorem ref25_SomeI (f : Int) (m : Nat) (hm : m < M2) : Gives Tryz.prog 11 #[.int .i64 f, Wd m] (.bool (sB f m)) := by
  unfold sB
  by_cases h : 1 ≤ f ∧ f ≤ 4
  · rw [if_pos h]
    obtain ⟨k, rfl⟩ : ∃ k : Nat, f = k := ⟨f.toNat, by omega⟩
    exact ref25_Some k (by omega) (by omega) m hm
  · rw [if_neg h]
    exact ref25_Some_non f (by omega) m
theorem sB_yes {f : Int} {m : Nat} (h : sB f m = true) : ∃ k : Nat, f = k ∧ 1 ≤ k ∧ k ≤ 4 ∧ someB k m = true := by
  unfold sB at h
  by_cases hf : 1 ≤ f ∧ f ≤ 4
  · rw [if_pos hf] at h
    exact ⟨f.toNat, by omega, by omega, by omega, h⟩
  · rw [if_neg hf] at h
    cases h
end Go.Proofs.YtefpoconpeggpaaGreatDoor.Rd

namespace Go.Proofs.YtefpoconpeggpaaGreatDoor.Rd
open Go Go.RowKit
set_option linter.unusedVariables false
set_option linter.unusedSimpArgs false
set_option maxRecDepth 100000

/-- A word made of a field and digits has these. -/
theorem enc_parts (f j s : Nat) (h1 : 2 ^ (fP f - 1) ≤ s) (h2 : s < 2 ^ fP f) (hj : j + 1 ≤ 2 * fE f) :
    wNeg f (encW f false j s) = false ∧ wSig f (encW f false j s) = s ∧ wExp f (encW f false j s) = (j : Int) + (1 - (fE f : Int)) - fP f + 1 ∧ encW f false j s < 2 ^ fB f := by
  have hlt := wEnc_fin f j s hj h2
  have hfin := fin_lt f
  have hB := fB_in f
  have e : encW f false j s = wEnc f j s := by unfold encW; simp
  have hp : 0 < 2 ^ (fP f - 1) := Nat.pow_pos (by omega)
  have hPP : 2 ^ fP f = 2 ^ (fP f - 1) + 2 ^ (fP f - 1) := by
    obtain ⟨p, hp⟩ : ∃ p, fP f = p + 1 := ⟨fP f - 1, by have := fP_in f; omega⟩
    rw [hp, Nat.add_sub_cancel, Nat.pow_succ]; omega
  obtain ⟨fr, hfr⟩ : ∃ fr, s = 2 ^ (fP f - 1) + fr := ⟨s - 2 ^ (fP f - 1), by omega⟩
  have hw : wEnc f j s = fr + (j + 1) * 2 ^ (fP f - 1) := by unfold wEnc; rw [Nat.add_mul]; omega
  have hlo : wEnc f j s < 2 ^ (fB f - 1) := by omega
  have hF : wField f (wEnc f j s) = j + 1 := by
    rw [wField_lo f _ hlo, hw, Nat.add_mul_div_right _ _ hp, Nat.div_eq_of_lt (by omega)]
    omega
  have hR : wFrac f (wEnc f j s) = fr := by
    unfold wFrac
    rw [hw, Nat.add_mul_mod_self_right, Nat.mod_eq_of_lt (by omega)]
  rw [e]
  refine ⟨?_, ?_, ?_, Nat.lt_of_lt_of_le hlo (Nat.pow_le_pow_right (by omega) (by omega))⟩
  · unfold wNeg; exact decide_eq_false (by omega)
  · unfold wSig; rw [hF, if_neg (by omega), hR]; omega
  · unfold wExp; rw [hF]; omega

/-- A root's digits, rounded. -/
def rootU (f mo a : Nat) : Nat := cutN (rR f a) (bl (rR f a) - fP f) (rMore f a) mo false
def rootD (f a : Nat) : Nat := restN (rR f a) (bl (rR f a) - fP f) (rMore f a)
def rootB (f a : Nat) : Nat := bl (rR f a) - fP f
theorem rootW_val (f mo a : Nat) (hs : someB f a = true) : ∃ k : Nat, k = (if rootU f mo a = 2 ^ fP f then 1 else 0) ∧ wNeg f (rootW f mo a).1 = false ∧ wSig f (rootW f mo a).1 * 2 ^ k = rootU f mo a ∧ wExp f (rootW f mo a).1 = rX f a + (rootB f a : Int) + (k : Int) ∧ (rootW f mo a).1 < 2 ^ fB f := by
  obtain ⟨hm, hfin, h0, hng⟩ := someB_spec hs
  obtain ⟨q1, q2, _, _⟩ := rR_bl f a h0
  have hP := fP_in f
  obtain ⟨c1, c2⟩ := cutN_range (rR f a) (fP f) (rMore f a) mo false (by omega) q1
  obtain ⟨r1, r2⟩ := root_range f a mo hfin h0
  obtain ⟨e1, _⟩ := rootW_in f a mo hfin h0 _ rfl
  have hp : 0 < 2 ^ (fP f - 1) := Nat.pow_pos (by omega)
  have hPP : 2 ^ fP f = 2 ^ (fP f - 1) + 2 ^ (fP f - 1) := by
    obtain ⟨p, hp⟩ : ∃ p, fP f = p + 1 := ⟨fP f - 1, by omega⟩
    rw [hp, Nat.add_sub_cancel, Nat.pow_succ]; omega
  rw [e1]
  unfold rootU rootB
  generalize hu : cutN (rR f a) (bl (rR f a) - fP f) (rMore f a) mo false = u at *
  rcases Nat.lt_or_eq_of_le c2 with hlt | heq
  · have hb : bl u = fP f := by
      have a1 := bl_le.2 hlt
      rcases Nat.lt_or_ge (bl u) (fP f) with h | h
      · have := bl_le.1 (show bl u ≤ fP f - 1 by omega); omega
      · omega
    rw [hb] at r1 r2 ⊢
    rw [Nat.mul_div_cancel _ (by omega)]
    obtain ⟨x1, x2, x3, x4⟩ := enc_parts f (rX f a + ((bl (rR f a) - fP f : Nat) : Int) + (fP f : Int) - 1 - (1 - (fE f : Int))).toNat u c1 hlt (by omega)
    exact ⟨0, by rw [if_neg (by omega)], x1, by rw [x2]; simp, by rw [x3]; omega, x4⟩
  · have hb : bl u = fP f + 1 := by
      have := bl_mul_pow 1 (fP f) (by omega)
      rw [Nat.one_mul, bl_one] at this
      rw [heq, this]; omega
    rw [hb] at r1 r2 ⊢
    have hq : u * 2 ^ fP f / 2 ^ (fP f + 1) = 2 ^ (fP f - 1) := by
      rw [heq, Nat.pow_succ, Nat.mul_div_mul_left _ _ (by omega)]; omega
    rw [hq]
    obtain ⟨x1, x2, x3, x4⟩ := enc_parts f (rX f a + ((bl (rR f a) - fP f : Nat) : Int) + ((fP f + 1 : Nat) : Int) - 1 - (1 - (fE f : Int))).toNat (2 ^ (fP f - 1)) (Nat.le_refl _) (by omega) (by omega)
    refine ⟨1, by rw [if_pos heq], x1, by rw [x2, heq]; omega, by rw [x3]; omega, x4⟩
/-- The words hang on the digits alone. -/
theorem rootW_same (f m1 m2 a : Nat) (hs : someB f a = true) (h : rootU f m1 a = rootU f m2 a) : (rootW f m1 a).1 = (rootW f m2 a).1 := by
  obtain ⟨hm, hfin, h0, hng⟩ := someB_spec hs
  obtain ⟨e1, _⟩ := rootW_in f a m1 hfin h0 _ rfl
  obtain ⟨e2, _⟩ := rootW_in f a m2 hfin h0 _ rfl
  unfold rootU at h
  rw [e1, e2, h]
theorem rootW_fl (f mo a : Nat) (hs : someB f a = true) : (rootW f mo a).2 = if rootD f a = 0 then 0 else 16 := by
  obtain ⟨hm, hfin, h0, hng⟩ := someB_spec hs
  obtain ⟨_, e2⟩ := rootW_in f a mo hfin h0 _ rfl
  unfold rootD
  by_cases h : restN (rR f a) (bl (rR f a) - fP f) (rMore f a) = 0
  · rw [if_pos h]
    rw [if_neg (by simpa using h)] at e2
    omega
  · rw [if_neg h]
    rw [if_pos (by simpa using h)] at e2
    omega
/-- A root is never in the middle. -/
theorem rootD_ne2 (f a : Nat) (hs : someB f a = true) : rootD f a ≠ 2 := by
  intro h
  obtain ⟨hm, hfin, h0, hng⟩ := someB_spec hs
  obtain ⟨q1, q2, _, _⟩ := rR_bl f a h0
  obtain ⟨_, t2⟩ := rX_t f a
  have hP := fP_in f
  obtain ⟨b, hb⟩ : ∃ b, bl (rR f a) - fP f = b + 1 := ⟨bl (rR f a) - fP f - 1, by omega⟩
  unfold rootD restN at h
  rw [hb, if_neg (by omega), Nat.add_sub_cancel] at h
  have hh : rR f a % 2 ^ (b + 1) = 2 ^ b ∧ rMore f a = false := by
    split at h
    · omega
    · split at h
      · omega
      · split at h
        · assumption
        · omega
  obtain ⟨h1, h2⟩ := hh
  have hN : rR f a * rR f a = wSig f a * 2 ^ (uUp f a + rB f a) := by
    unfold rMore at h2
    rw [← t2]
    simpa using h2
  obtain ⟨Q, hQ⟩ : ∃ Q, rR f a / 2 ^ (b + 1) = Q := ⟨_, rfl⟩
  have hr : rR f a = (2 * Q + 1) * 2 ^ b := by
    have := Nat.div_add_mod (rR f a) (2 ^ (b + 1))
    rw [h1, hQ, Nat.pow_succ] at this
    rw [Nat.add_mul, ← this]
    generalize 2 ^ b = x
    grind
  have hQlo : 2 ^ (fP f - 1) ≤ Q := by
    have := (cutN_range (rR f a) (fP f) (rMore f a) 3 false (by omega) q1).1
    rw [hb] at this
    have e : cutN (rR f a) (b + 1) (rMore f a) 3 false = Q := by unfold cutN growsB; rw [hQ]; simp
    omega
  rw [hr] at hN
  obtain ⟨t, ht⟩ : ∃ t, uUp f a + rB f a = t := ⟨_, rfl⟩
  rw [ht] at hN
  have hodd : ((2 * Q + 1) * (2 * Q + 1)) % 2 = 1 := by rw [Nat.mul_mod, show (2 * Q + 1) % 2 = 1 by omega]
  have hcop : Nat.Coprime ((2 * Q + 1) * (2 * Q + 1)) (2 ^ t) := by
    apply Nat.Coprime.pow_right
    unfold Nat.Coprime
    rw [Nat.gcd_comm, Nat.gcd_rec, hodd]
    decide
  have hdvd : (2 * Q + 1) * (2 * Q + 1) ∣ wSig f a * 2 ^ t := by
    rw [← hN]
    exact ⟨2 ^ b * 2 ^ b, by generalize 2 ^ b = x; grind⟩
  have hle := Nat.le_of_dvd (by omega) (hcop.dvd_of_dvd_mul_right hdvd)
  have hsg := wSig_lt f a
  have hPP : 2 ^ fP f = 2 ^ (fP f - 1) + 2 ^ (fP f - 1) := by
    obtain ⟨p, hp⟩ : ∃ p, fP f = p + 1 := ⟨fP f - 1, by omega⟩
    rw [hp, Nat.add_sub_cancel, Nat.pow_succ]; omega
  have : 2 * Q + 1 ≤ (2 * Q + 1) * (2 * Q + 1) := Nat.le_mul_of_pos_left _ (by omega)
  omega

/-- How a number stands to the root. -/
def rootC (f a m : Nat) (k : Int) : Int := szC (m * m) (2 * k) (wSig f a) (wExp f a)
theorem gr5 (od : Bool) (d : Nat) : growsB 5 false od d = false := by unfold growsB; split <;> simp
theorem gr4 (od : Bool) (d : Nat) : growsB 4 false od d = decide (d ≠ 0) := by
  unfold growsB
  by_cases h : d = 0
  · rw [if_pos h, decide_eq_false (by omega)]
  · rw [if_neg h, decide_eq_true h]; rfl
theorem gr12 (od : Bool) (d : Nat) (h : d ≤ 3) (h2 : d ≠ 2) : growsB 1 false od d = decide (d = 3) ∧ growsB 2 false od d = decide (d = 3) := by
  obtain rfl | rfl | rfl : d = 0 ∨ d = 1 ∨ d = 3 := by omega
  all_goals cases od <;> exact ⟨rfl, rfl⟩
theorem ite_dec (p : Prop) [Decidable p] (x : Nat) : x + (if decide p = true then 1 else 0) = x + (if p then 1 else 0) := by
  by_cases h : p
  · rw [if_pos h, if_pos (decide_eq_true h)]
  · rw [if_neg h, if_neg (by rw [decide_eq_false h]; simp)]
theorem ite_dec0 (d x : Nat) : x + (if decide (d ≠ 0) = true then 1 else 0) = x + (if d = 0 then 0 else 1) := by
  by_cases h : d = 0
  · rw [if_pos h, if_neg (by rw [decide_eq_false (by omega)]; simp)]
  · rw [if_neg h, if_pos (decide_eq_true h)]
theorem rootU_vals (f a : Nat) : rootU f 5 a = rR f a / 2 ^ rootB f a ∧ rootU f 4 a = rR f a / 2 ^ rootB f a + (if rootD f a = 0 then 0 else 1) ∧
    (rootD f a ≠ 2 → rootU f 1 a = rR f a / 2 ^ rootB f a + (if rootD f a = 3 then 1 else 0) ∧ rootU f 2 a = rR f a / 2 ^ rootB f a + (if rootD f a = 3 then 1 else 0)) := by
  have hle : rootD f a ≤ 3 := restN_le (rR f a) (bl (rR f a) - fP f) (rMore f a)
  have e : ∀ mo, rootU f mo a = rR f a / 2 ^ rootB f a + (if growsB mo false (decide (rR f a / 2 ^ rootB f a % 2 = 1)) (rootD f a) then 1 else 0) := fun _ => by unfold rootU rootB rootD cutN; rfl
  refine ⟨?_, ?_, fun h2 => ⟨?_, ?_⟩⟩
  · rw [e, gr5, if_neg (by simp), Nat.add_zero]
  · rw [e, gr4, ite_dec0]
  · rw [e, (gr12 _ _ hle h2).1, ite_dec]
  · rw [e, (gr12 _ _ hle h2).2, ite_dec]

theorem rest_spec (r b : Nat) (s : Bool) : (restN r (b + 1) s = 0 → r / 2 ^ (b + 1) * 2 ^ (b + 1) = r ∧ s = false) ∧ (restN r (b + 1) s ≠ 0 → r / 2 ^ (b + 1) * 2 ^ (b + 1) < r ∨ (r / 2 ^ (b + 1) * 2 ^ (b + 1) = r ∧ s = true)) ∧
    (restN r (b + 1) s = 1 → r % 2 ^ (b + 1) < 2 ^ b) ∧ (restN r (b + 1) s = 3 → 2 ^ b < r % 2 ^ (b + 1) ∨ (r % 2 ^ (b + 1) = 2 ^ b ∧ s = true)) := by
  have hdm := Nat.div_add_mod r (2 ^ (b + 1))
  rw [Nat.mul_comm] at hdm
  unfold restN
  rw [if_neg (by omega), Nat.add_sub_cancel]
  generalize r / 2 ^ (b + 1) * 2 ^ (b + 1) = x at *
  generalize r % 2 ^ (b + 1) = y at *
  generalize 2 ^ b = z at *
  have hs : ∀ q : Prop, ¬ (q ∧ s = false) → q → s = true := fun q h hq => by
    cases s
    · exact absurd ⟨hq, rfl⟩ h
    · rfl
  have hrn : y = 0 → x = r := fun h => by omega
  by_cases c0 : y = 0 ∧ s = false
  · rw [if_pos c0]; exact ⟨fun _ => ⟨hrn c0.1, c0.2⟩, fun h => absurd rfl h, fun h => by omega, fun h => by omega⟩
  · have hne : x < r ∨ (x = r ∧ s = true) := by
      by_cases y0 : y = 0
      · exact .inr ⟨hrn y0, hs _ c0 y0⟩
      · exact .inl (by omega)
    rw [if_neg c0]
    by_cases c1 : y < z
    · rw [if_pos c1]
      exact ⟨fun h => by omega, fun _ => hne, fun _ => c1, fun h => by omega⟩
    · rw [if_neg c1]
      by_cases c2 : y = z ∧ s = false
      · rw [if_pos c2]
        exact ⟨fun h => by omega, fun _ => hne, fun h => by omega, fun h => by omega⟩
      · rw [if_neg c2]
        refine ⟨fun h => by omega, fun _ => hne, fun h => by omega, fun _ => ?_⟩
        by_cases y1 : y = z
        · exact .inr ⟨y1, hs _ c2 y1⟩
        · exact .inl (by omega)
set_option maxHeartbeats 1000000 in
theorem root_between (f a : Nat) (hs : someB f a = true) :
    (∃ w, rootW f 5 a = (w, 0) ∧ rootW f 4 a = (w, 0) ∧ rootW f 1 a = (w, 0) ∧ rootW f 2 a = (w, 0) ∧ w < 2 ^ fB f ∧ rootC f a (wSig f w) (wExp f w) = 0) ∨
    (∃ lw hw nw, rootW f 5 a = (lw, 16) ∧ rootW f 4 a = (hw, 16) ∧ rootW f 1 a = (nw, 16) ∧ rootW f 2 a = (nw, 16) ∧ lw < 2 ^ fB f ∧ hw < 2 ^ fB f ∧ lw ≠ hw ∧
      rootC f a (wSig f lw) (wExp f lw) < 0 ∧ 0 < rootC f a (wSig f hw) (wExp f hw) ∧ wExp f lw ≤ wExp f hw ∧ wExp f hw ≤ wExp f lw + 1 ∧
      ((nw = lw ∧ 0 < rootC f a (wSig f lw + wSig f hw * 2 ^ (wExp f hw - wExp f lw).toNat) (wExp f lw - 1)) ∨ (nw = hw ∧ rootC f a (wSig f lw + wSig f hw * 2 ^ (wExp f hw - wExp f lw).toNat) (wExp f lw - 1) < 0))) := by
  obtain ⟨hm, hfin, h0, hng⟩ := someB_spec hs
  have hK := root_known f a h0
  obtain ⟨q1, q2, _, _⟩ := rR_bl f a h0
  have hP := fP_in f
  have hd2 := rootD_ne2 f a hs
  obtain ⟨u5, u4, u12⟩ := rootU_vals f a
  obtain ⟨u1, u2⟩ := u12 hd2
  have f5 := rootW_fl f 5 a hs
  have f4 := rootW_fl f 4 a hs
  have f1 := rootW_fl f 1 a hs
  have f2 := rootW_fl f 2 a hs
  obtain ⟨k5, k5l, _, s5, x5, l5⟩ := rootW_val f 5 a hs
  obtain ⟨b, hb⟩ : ∃ b, rootB f a = b + 1 := ⟨bl (rR f a) - fP f - 1, by unfold rootB; omega⟩
  have hdm := Nat.div_add_mod (rR f a) (2 ^ (b + 1))
  have hml := Nat.mod_lt (rR f a) (show 0 < 2 ^ (b + 1) from Nat.pow_pos (by omega))
  have h2b : 2 ^ (b + 1) = 2 ^ b * 2 := Nat.pow_succ ..
  have hdef : rootD f a = restN (rR f a) (b + 1) (rMore f a) := by unfold rootD; rw [show bl (rR f a) - fP f = b + 1 from hb]
  have hKc : ∀ m k, rootC f a m k = (fun a_1 k => szC (a_1 * a_1) (2 * k) (wSig f a) (wExp f a)) m k := fun _ _ => rfl
  rw [hb] at u5 u4 u1 u2 x5
  rw [u5] at s5
  -- the lower one
  have lo := hK (wSig f (rootW f 5 a).1) (b + 1 + k5)
  rw [show rX f a + ((b + 1 + k5 : Nat) : Int) = wExp f (rootW f 5 a).1 by rw [x5]; omega, Nat.pow_add, Nat.mul_comm (2 ^ (b + 1)), ← Nat.mul_assoc, s5] at lo
  obtain ⟨k4, k4l, _, s4, x4, l4⟩ := rootW_val f 4 a hs
  have g45 := rootW_same f 4 5 a hs
  have g15 := rootW_same f 1 5 a hs
  have g25 := rootW_same f 2 5 a hs
  have g14 := rootW_same f 1 4 a hs
  have g21 := rootW_same f 2 1 a hs
  have hu4 : rootU f 4 a ≤ 2 ^ fP f := (cutN_range (rR f a) (fP f) (rMore f a) 4 false (by omega) q1).2
  generalize rootW f 5 a = p5 at *
  generalize rootW f 4 a = p4 at *
  generalize rootW f 1 a = p1 at *
  generalize rootW f 2 a = p2 at *
  obtain ⟨w5, n5⟩ := p5
  obtain ⟨w4, n4⟩ := p4
  obtain ⟨w1, n1⟩ := p1
  obtain ⟨w2, n2⟩ := p2
  simp only at *
  obtain ⟨rs0, rsn, rs1, rs3⟩ := rest_spec (rR f a) b (rMore f a)
  by_cases hd : rootD f a = 0
  · left
    rw [if_pos hd] at f5 f4 f1 f2 u4
    rw [if_neg (by omega)] at u1 u2
    refine ⟨w5, ?_, ?_, ?_, ?_, l5, ?_⟩
    · exact by rw [f5]
    · exact by rw [g45 (by omega), f4]
    · exact by rw [g15 (by omega), f1]
    · exact by rw [g25 (by omega), f2]
    · rw [hKc]
      refine lo.2.2 ?_
      exact rs0 (by rw [← hdef]; exact hd)
  · right
    rw [if_neg hd] at f5 f4 f1 f2 u4
    rw [hb] at x4
    rw [u4] at s4
    have hi := hK (wSig f w4) (b + 1 + k4)
    rw [show rX f a + ((b + 1 + k4 : Nat) : Int) = wExp f w4 by rw [x4]; omega, Nat.pow_add, Nat.mul_comm (2 ^ (b + 1)), ← Nat.mul_assoc, s4] at hi
    obtain ⟨Q, hQ⟩ : ∃ Q, rR f a / 2 ^ (b + 1) = Q := ⟨_, rfl⟩
    rw [hQ] at u5 u4 u1 u2 s5 s4 lo hi hdm
    have hk5 : k5 = 0 := by rw [k5l, if_neg (by omega)]
    subst hk5
    have hne : w5 ≠ w4 := fun e => by
      rw [← e] at s4 x4
      obtain rfl : k4 = 0 := by omega
      omega
    rw [Nat.pow_zero, Nat.mul_one] at s5
    have hx1 : wExp f w4 = wExp f w5 + (k4 : Int) := by omega
    have hk4 : k4 ≤ 1 := by rw [k4l]; split <;> omega
    have hsum : wSig f w5 + wSig f w4 * 2 ^ (wExp f w4 - wExp f w5).toNat = 2 * Q + 1 := by
      rw [show (wExp f w4 - wExp f w5).toNat = k4 by omega, s4, s5]; omega
    have mi := hK (2 * Q + 1) b
    rw [show rX f a + (b : Int) = wExp f w5 - 1 by rw [x5]; omega] at mi
    have hrest : rootD f a = 1 ∨ rootD f a = 3 := by
      have key : ∀ d : Nat, d ≤ 3 → d ≠ 0 → d ≠ 2 → d = 1 ∨ d = 3 := fun d h1 h2 h3 => by omega
      exact key _ (by rw [hdef]; exact restN_le _ _ _) hd hd2
    rw [Nat.mul_comm Q] at lo
    have e1 : (Q + 1) * 2 ^ (b + 1) = 2 ^ (b + 1) * Q + 2 ^ (b + 1) := by rw [Nat.add_mul, Nat.one_mul, Nat.mul_comm]
    have e2 : (2 * Q + 1) * 2 ^ b = 2 ^ (b + 1) * Q + 2 ^ b := by rw [h2b]; generalize 2 ^ b = x; grind
    rw [e1] at hi
    rw [e2] at mi
    refine ⟨w5, w4, w1, by rw [f5], by rw [f4], by rw [f1], by rw [g21 (by rw [u1, u2]), f2], l5, l4, hne, ?_, ?_, by omega, by omega, ?_⟩
    · rw [hKc]
      refine lo.1.2 ?_
      have := rsn (by rw [← hdef]; exact hd)
      rw [hQ, Nat.mul_comm Q] at this
      exact this
    · rw [hKc]
      have n1 := fun h => hi.1.1 h
      have n2 := fun h => hi.2.1 h
      rcases Int.lt_trichotomy ((fun a_1 k => szC (a_1 * a_1) (2 * k) (wSig f a) (wExp f a)) (wSig f w4) (wExp f w4)) 0 with h | h | h
      · have := n1 h; omega
      · have := n2 h; omega
      · exact h
    · rw [hsum]
      rcases hrest with h1 | h3
      · left
        refine ⟨g15 (by rw [u1, u5, if_neg (by omega), Nat.add_zero]), ?_⟩
        have hlt := rs1 (by rw [← hdef]; exact h1)
        rw [hKc]
        rcases Int.lt_trichotomy ((fun a_1 k => szC (a_1 * a_1) (2 * k) (wSig f a) (wExp f a)) (2 * Q + 1) (wExp f w5 - 1)) 0 with h | h | h
        · have := mi.1.1 h; omega
        · have := mi.2.1 h; omega
        · exact h
      · right
        refine ⟨g14 (by rw [u1, u4, if_pos h3]), ?_⟩
        have hgt := rs3 (by rw [← hdef]; exact h3)
        rw [hKc]
        refine mi.1.2 ?_
        rcases hgt with h | ⟨h, hs'⟩
        · left; omega
        · right; exact ⟨by omega, hs'⟩

end Go.Proofs.YtefpoconpeggpaaGreatDoor.Rd
