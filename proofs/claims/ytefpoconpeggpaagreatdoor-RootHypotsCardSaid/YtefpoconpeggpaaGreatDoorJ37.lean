/- Blocks in another order. -/
import Derived.Test.YtefpoconpeggpaaGreatDoorJ36
import Derived.Test.YtefpoconpeggpaaGreatDoorJ22
import Derived.Test.YtefpoconpeggpaaGreatDoorJ01
namespace Go.Proofs.YtefpoconpeggpaaGreatDoor.Rd
open Go Go.RowKit
set_option linter.unusedVariables false
set_option linter.unusedSimpArgs false
set_option maxRecDepth 100000

/-- By how much a sum of squares is shifted up. -/
def hyU (sg : Nat) : Nat := (254 - bl sg) / 2
theorem hyU_in (sg : Nat) (h : sg < 2 ^ 187) : 33 ≤ hyU sg ∧ hyU sg ≤ 127 ∧ 253 ≤ bl sg + 2 * hyU sg ∧ bl sg + 2 * hyU sg ≤ 254 := by
  have := bl_le.2 h
  unfold hyU
  omega

set_option maxHeartbeats 4000000 in
theorem root_Hypot_yes (bs br : Nat) (hbs : bs ≠ 0) (hbr : br ≠ 0) (c : Array Value) (hc : RomOk c) (q : Nat → Int) (L : List (Nat × Obj)) (hS : SetSt bs br c q L) (k : Nat) (h1 : 1 ≤ k) (h2 : k ≤ 4) (hq1 : 0 ≤ q k) (hq2 : q k ≤ 1000)
    (f : Nat) (f1 : 1 ≤ f) (f4 : f ≤ 4) (m : Nat) (m1 : 1 ≤ m) (m5 : m ≤ 5) (x y : Nat) (E : Int) (sg : Nat) (hE1 : -300000 ≤ E) (hE2 : E ≤ 300000) (h0 : sg ≠ 0) (hsg : sg < 2 ^ 187) (hA : HA f x y true (nbC false (2 * E) sg)) (r : Nat) (hr : isqrt (sg * 2 ^ (2 * hyU sg)) = r) (more : Bool) (hmore : decide (sg * 2 ^ (2 * hyU sg) - r * r = 0) = !more) (hrb : fP f < bl r) (hrb2 : bl r ≤ 511)
    (res fl : Nat) (hres : rndP f m false (E - hyU sg) r more = (res, fl)) (w0 : World) (hF : FmtIn w0) (hL : Owns w0 L) :
    GivesZ Tryz.prog 19 #[.pointer (some ⟨bs, 0, none⟩), .int .i64 k, .int .i64 f, .int .i64 m, Wd x, Wd y] [bs, br] L (fun L' v => v = .tuple #[Wd res, .int .i64 fl, .int .i64 0] ∧ SetSt bs br (romK k (sg * 2 ^ (2 * hyU sg)) c) (bump k q) L') w0 := by
  refine ⟨fun y hy => by simp only [List.mem_cons, List.not_mem_nil, or_false] at hy; rcases hy with rfl | rfl; exact hS.bs.1; exact hS.bs.2, ?_⟩
  have hst := St.ofOwns [bs, br] hL
  have hk := Lib.hid (fun w (k : Keeps [bs, br] w0 w) => hF.keep k (by simp only [List.mem_cons, List.not_mem_nil, or_false, not_or]; exact ⟨fun e => hbs e.symm, fun e => hbr e.symm⟩))
  have hkn := hF.lt
  have hab := Lib.hid hA.z
  obtain ⟨u1, u2, u3, u4⟩ := hyU_in sg hsg
  have hn256 : sg * 2 ^ (2 * hyU sg) < 2 ^ 256 := by
    have a := Nat.mul_lt_mul_of_pos_right (bl_spec sg).1 (show 0 < 2 ^ (2 * hyU sg) from Nat.pow_pos (by omega))
    rw [← Nat.pow_add] at a
    exact Nat.lt_of_lt_of_le a (Nat.pow_le_pow_right (by omega) (by omega))
  have hr0 : r ≠ 0 := fun h => by rw [h, bl_zero] at hrb; omega
  have hmay := fun (w : World) (ho : Owns w L) => root_may bs br c q L hS k h1 h2 m m1 m5 w ho
  have hrd := fun L' (hS' : SetSt bs br c q L') (w : World) (hw : FmtIn w) (ho : Owns w L') => root_roundedA bs br hbs hbr c hc q L' hS' k h1 h2 hq1 hq2 f f1 f4 m m1 m5 (sg * 2 ^ (2 * hyU sg)) hn256 (E - hyU sg) (by omega) (by omega) r hr hr0 hrb2 hrb more hmore res fl hres w hw ho
  have hsM : sg < M := Nat.lt_trans hsg (small_M2 187 (by omega))
  have hev := root_even false (2 * E) sg 0 0 E (by omega) (by omega) hsM (by omega) (by rw [Nat.pow_zero, Nat.mul_one]; exact hsM) (.inl rfl) (by omega)
  rw [Nat.pow_zero, Nat.mul_one, show ((0 : Nat) : Int) = 0 from rfl] at hev
  have hlen := wide_Len sg hsM
  have hshl := wide_Shl sg ((2 * hyU sg : Nat) : Int) hsM
  rw [clampN_nat _ (by omega), Nat.mod_eq_of_lt (Nat.lt_trans hn256 (small_M2 256 (by omega)))] at hshl
  obtain ⟨up, hup⟩ : ∃ up : Int, up = 254 - (bl sg : Int) := ⟨_, rfl⟩
  have E1 : 254 - (bl sg : Int) = up := hup.symm
  have hand : bits .and .i64 up 1 = up - ((2 * hyU sg : Nat) : Int) := by rw [bits_and_one]; unfold hyU; omega
  have E2 : up - (up - ((2 * hyU sg : Nat) : Int)) = ((2 * hyU sg : Nat) : Int) := by omega
  have E3 : ((2 * hyU sg : Nat) : Int).tdiv 2 = (hyU sg : Int) := by rw [Int.tdiv_eq_ediv_of_nonneg (by omega)]; omega
  have E4 : ((2 * hyU sg : Nat) : Int) / 2 = (hyU sg : Int) := by omega
  have p1 : 0 < up := by unfold hyU at u1; omega
  have p2 : up ≤ 254 := by omega
  have p3 : (hyU sg : Int) ≤ 127 := by omega
  have p4 : ((2 * hyU sg : Nat) : Int) ≤ 254 := by omega
  have p5 : (0 : Int) ≤ (hyU sg : Int) := by omega
  have p6 : (0 : Int) ≤ ((2 * hyU sg : Nat) : Int) := by omega
  have hpt : Part (nbC false (2 * E) sg) (wc 8 sg) (nbC false (2 * E) sg) (wc 8 sg) 2 := part1 2 _ _ _ rfl rfl
  have yX := nbC_one false (2 * E) sg
  have zX := nbC_size false (2 * E) sg
  have hM := M_pos
  have Q0 : decide (sg = 0) = false := decide_eq_false h0
  clear hF hA hS hL h1 h2 hbs hbr hc hq1 hq2 m1 m5 f1 f4 hn256 hr hmore hrb hrb2 hr0 hsg u1 u2 u3 u4 hup h0 hres
  generalize nbC false (2 * E) sg = cX at *
  generalize romK k (sg * 2 ^ (2 * hyU sg)) c = c' at *
  generalize bump k q = q' at *
  generalize sg * 2 ^ (2 * hyU sg) = n at *
  generalize ((2 * hyU sg : Nat) : Int) = U2 at *
  generalize (hyU sg : Int) = U1 at *
  generalize bl sg = ks at *
  go_enter Tryz.func19, Tryz.ntmps19
  go_wp2_with ((first | (refine kT gf42 hst (fun w hst => hab.out b8 b11 b15 _ _ w (by have q := hst.nodup; simp only [List.map_cons, List.map_nil, List.nodup_cons, List.mem_cons, List.not_mem_nil, or_false, not_or] at q; omega) (by have q := hst.nodup; simp only [List.map_cons, List.map_nil, List.nodup_cons, List.mem_cons, List.not_mem_nil, or_false, not_or] at q; omega) (by have q := hst.nodup; simp only [List.map_cons, List.map_nil, List.nodup_cons, List.mem_cons, List.not_mem_nil, or_false, not_or] at q; omega) (hk.out w hst.keeps) (by omega) (hst.own _ _ (by repeat (first | exact List.Mem.head _ | refine List.Mem.tail _ ?_))) (hst.own _ _ (by repeat (first | exact List.Mem.head _ | refine List.Mem.tail _ ?_))) (hst.own _ _ (by repeat (first | exact List.Mem.head _ | refine List.Mem.tail _ ?_)))) rfl rfl rfl rfl ?_; clear hst; intro w hst) | (refine klm hst ta44 rfl ?_ (hc := hpt)) | (refine kZ (o := ⟨some 35, _, _, _, _, _⟩) (fun L' => (b15, .cells cX 46) :: (b12, .cells (wc 2 0) 24) :: (b11, .cells (wdc y) 24) :: (b10, .cells (wdc x) 24) :: (b8, .cells #[.int .i64 f] 3) :: L') gf29 hst (fun w hst => hmay w (hst.owns (L := L) (.there (.there (.there (.there (.there .here))))))) rfl rfl rfl rfl ?_; clear hst; intro v35 L1 w hR1 hnew1 hst; obtain ⟨rfl, hS1⟩ := hR1) | (refine kf gf46 hst (hev) rfl rfl rfl rfl ?_; clear hst; intro w hst) | (refine kf gf47 hst (hlen) rfl rfl rfl rfl ?_; clear hst; intro w hst) | (refine kf gf48 hst (hshl) rfl rfl rfl rfl ?_; clear hst; intro w hst) | (refine kZ (o := ⟨some 67, _, _, _, _, _⟩) (fun L' => (b18, .cells (wc 8 n) 44) :: (b15, .cells cX 46) :: (b12, .cells (wc 2 0) 24) :: (b11, .cells (wdc y) 24) :: (b10, .cells (wdc x) 24) :: (b8, .cells #[.int .i64 f] 3) :: L') gf30 hst (fun w hst => hrd L1 hS1 w (hk.out w hst.keeps) (hst.owns (L := L1) (.there (.there (.there (.there (.there (.there .here)))))))) rfl rfl rfl rfl ?_; clear hst; intro v67 L2 w hR2 hnew2 hst; obtain ⟨rfl, hS2⟩ := hR2) | (refine wl_guard (by rfl) ?_) | (refine kb 8 hst rfl rfl ?_; clear hst; intro b8 w hb8 hst) | (refine kb 10 hst rfl rfl ?_; clear hst; intro b10 w hb10 hst) | (refine kb 11 hst rfl rfl ?_; clear hst; intro b11 w hb11 hst) | (refine ka 12 hst tz24 rfl rfl ?_; clear hst; intro b12 w hb12 hst) | (refine ka 15 hst tz46 rfl rfl ?_; clear hst; intro b15 w hb15 hst) | (refine kc hst tc3 rfl ?_) | (refine kl hst ta24 rfl ?_) | (refine kl hst ta44 rfl ?_) | (refine kn tr44 tc22 rfl ?_) | (refine kt hst ta24 rfl rfl ?_; clear hst; intro w hst) | (refine kl hst ta46 rfl ?_) | (refine ka 18 hst tz44 rfl rfl ?_; clear hst; intro b18 w hb18 hst) | (refine kt hst ta44 rfl rfl ?_; clear hst; intro w hst)); try simp only [pz, pn, sz, sc])
  exact bp_ctt rfl rfl (la hst ta24) (by rfl) (by rfl) (PostZ.of hst ⟨rfl, hS2⟩ (fun y hy => (hnew2 y hy).elim (fun h => by
    obtain ⟨z, hz, e⟩ := List.mem_map.1 h
    rw [← e]; exact hnew1 z hz) .inr))

end Go.Proofs.YtefpoconpeggpaaGreatDoor.Rd

namespace Go.Proofs.YtefpoconpeggpaaGreatDoor.Rd
set_option linter.unusedVariables false

/-- Two numbers, each shifted up by some digits: both squares' sum is shifted up alike. -/
theorem sq_shift (ea eb la lb' : Int) (sa sb da db : Nat) (l mu : Int) (hl : l = min ea eb) (hmu : mu = min (ea - (da : Int)) (eb - (db : Int))) (k : Nat) (hk : (k : Int) = l - mu) :
    sa * 2 ^ da * 2 ^ (ea - (da : Int) - mu).toNat * (sa * 2 ^ da * 2 ^ (ea - (da : Int) - mu).toNat) + sb * 2 ^ db * 2 ^ (eb - (db : Int) - mu).toNat * (sb * 2 ^ db * 2 ^ (eb - (db : Int) - mu).toNat) =
      (sa * 2 ^ (ea - l).toNat * (sa * 2 ^ (ea - l).toNat) + sb * 2 ^ (eb - l).toNat * (sb * 2 ^ (eb - l).toNat)) * 2 ^ (2 * k) := by
  have e1 : 2 ^ da * 2 ^ (ea - (da : Int) - mu).toNat = 2 ^ (ea - l).toNat * 2 ^ k := by
    rw [← Nat.pow_add, ← Nat.pow_add]; congr 1; omega
  have e2 : 2 ^ db * 2 ^ (eb - (db : Int) - mu).toNat = 2 ^ (eb - l).toNat * 2 ^ k := by
    rw [← Nat.pow_add, ← Nat.pow_add]; congr 1; omega
  rw [Nat.mul_assoc sa, Nat.mul_assoc sb, e1, e2, show 2 * k = k + k by omega, Nat.pow_add]
  generalize 2 ^ (ea - l).toNat = x
  generalize 2 ^ (eb - l).toNat = y
  generalize 2 ^ k = z
  grind

end Go.Proofs.YtefpoconpeggpaaGreatDoor.Rd

namespace Go.Proofs.YtefpoconpeggpaaGreatDoor.Rd
open Go Go.RowKit
set_option linter.unusedVariables false

theorem St.perm {w0 w : World} {S : List Nat} {L L' : List (Nat × Obj)} (h : St w0 S L w) (p : L'.Perm L) : St w0 S L' w :=
  ⟨h.keeps, fun b o hm => h.own b o (p.mem_iff.1 hm), (p.map Prod.fst).nodup_iff.2 h.nodup⟩
/-- Out x L L': L without its x is L'. -/
inductive Out (x : Nat × Obj) : List (Nat × Obj) → List (Nat × Obj) → Prop
  | head {L} : Out x (x :: L) L
  | tail {y L L'} : Out x L L' → Out x (y :: L) (y :: L')
  | app {A L L'} : Out x L L' → Out x (A ++ L) (A ++ L')
theorem Out.perm {x : Nat × Obj} {L L' : List (Nat × Obj)} (h : Out x L L') : (x :: L').Perm L := by
  induction h with
  | head => exact .refl _
  | @tail y L L' _ ih => exact (List.Perm.swap y x L').trans (ih.cons y)
  | @app A L L' _ ih => exact (List.perm_middle.symm).trans (ih.append_left A)
theorem St.front {w0 w : World} {S : List Nat} {L L' : List (Nat × Obj)} (x : Nat × Obj) (h : St w0 S L w) (ho : Out x L L') : St w0 S (x :: L') w := h.perm ho.perm

section picks
variable {P : Program} {ops : Array Oper} {rest : List Oper} {Q : Exit → Act → World → Prop} {a : Act} {w : World}
end picks

end Go.Proofs.YtefpoconpeggpaaGreatDoor.Rd
