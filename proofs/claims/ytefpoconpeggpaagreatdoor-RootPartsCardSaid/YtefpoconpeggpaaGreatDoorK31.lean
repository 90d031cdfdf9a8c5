/- Blocks in another order. -/
import Derived.Test.YtefpoconpeggpaaGreatDoorK30
import Derived.Test.YtefpoconpeggpaaGreatDoorK01
namespace Go.Proofs.YtefpoconpeggpaaGreatDoor.Rd
open Go Go.RowKit
set_option linter.unusedVariables false
set_option linter.unusedSimpArgs false
set_option maxRecDepth 100000

/-- By how much a sum of squares is shifted up. -/
def hyU (sg : Nat) : Nat := (254 - bl sg) / 2
theorem hyU_in (sg : Nat) (h : sg < 2 ^ 187) : 33 ≤ hyU sg ∧ hyU sg ≤ 127 ∧ 253 ≤ bl sg + 2 * hyU sg ∧ bl sg + 2 * hyU sg ≤ 254 := by
  have := bl_le.2 h
  unfold hyU
  omega

set_option maxHeartbeats 4000000 in
theorem root_Hypot_yes (bs br : Nat) (hbs : bs ≠ 0) (hbr : br ≠ 0) (c : Array Value) (hc : RomOk c) (q : Nat → Int) (L : List (Nat × Obj)) (hS : SetSt bs br c q L) (k : Nat) (h1 : 1 ≤ k) (h2 : k ≤ 4) (hq1 : 0 ≤ q k) (hq2 : q k ≤ 1000)
    (f : Nat) (f1 : 1 ≤ f) (f4 : f ≤ 4) (m : Nat) (m1 : 1 ≤ m) (m5 : m ≤ 5) (x y : Nat) (E : Int) (sg : Nat) (hE1 : -300000 ≤ E) (hE2 : E ≤ 300000) (h0 : sg ≠ 0) (hsg : sg < 2 ^ 187) (hA : HA f x y true (nbC false (2 * E) sg)) (r : Nat) (hr : isqrt (sg * 2 ^ (2 * hyU sg)) = r) (more : Bool) (hmore : decide (sg * 2 ^ (2 * hyU sg) - r * r = 0) = !more) (hrb : fP f < bl r) (hrb2 : bl r ≤ 511)
    (res fl : Nat) (hres : rndP f m false (E - hyU sg) r more = (res, fl)) (w0 : World) (hF : FmtIn w0) (hL : Owns w0 L) :
    GivesZ Tryz.prog 19 #[.pointer (some ⟨bs, 0, none⟩), .int .i64 k, .int .i64 f, .int .i64 m, Wd x, Wd y] [bs, br] L (fun L' v => v = .tuple #[Wd res, .int .i64 fl, .int .i64 0] ∧ SetSt bs br (romK k (sg * 2 ^ (2 * hyU sg)) c) (bump k q) L') w0 := by
  refine ⟨fun y hy => by simp only [List.mem_cons, List.not_mem_nil, or_false] at hy; rcases hy with rfl | rfl; exact hS.bs.1; exact hS.bs.2, ?_⟩
  have hst := St.ofOwns [bs, br] hL
  have hk := Lib.hid (fun w (k : Keeps [bs, br] w0 w) => hF.keep k (by simp only [List.mem_cons, List.not_mem_nil, or_false, not_or]; exact ⟨fun e => hbs e.symm, fun e => hbr e.symm⟩))
  have hkn := hF.lt
  have hab := Lib.hid hA.z
  obtain ⟨u1, u2, u3, u4⟩ := hyU_in sg hsg
  have hn256 : sg * 2 ^ (2 * hyU sg) < 2 ^ 256 := by
    have a := Nat.mul_lt_mul_of_pos_right (bl_spec sg).1 (show 0 < 2 ^ (2 * hyU sg) from Nat.pow_pos (by omega))
    rw [← Nat.pow_add] at a
    exact Nat.lt_of_lt_of_le a (Nat.pow_le_pow_right (by omega) (by omega))
  have hr0 : r ≠ 0 := fun h => by rw [h, bl_zero] at hrb; omega
  have hmay := fun (w : World) (ho : Owns w L) => root_may bs br c q L hS k h1 h2 m m1 m5 w ho
  have hrd := fun L' (hS' : SetSt bs br c q L') (w : World) (hw : FmtIn w) (ho : Owns w L') => root_roundedA bs br hbs hbr c hc q L' hS' k h1 h2 hq1 hq2 f f1 f4 m m1 m5 (sg * 2 ^ (2 * hyU sg)) hn256 (E - hyU sg) (by omega) (by omega) r hr hr0 hrb2 hrb more hmore res fl hres w hw ho
  have hsM : sg < M := Nat.lt_trans hsg (small_M2 187 (by omega))
  have hev := root_even false (2 * E) sg 0 0 E (by omega) (by omega) hsM (by omega) (by rw [Nat.pow_zero, Nat.mul_one]; exact hsM) (.inl rfl) (by omega)
  rw [Nat.pow_zero, Nat.mul_one, show ((0 : Nat) : Int) = 0 from rfl] at hev
  have hlen := wide_Len sg hsM
  have hshl := wide_Shl sg ((2 * hyU sg : Nat) : Int) hsM
  rw [clampN_nat _ (by omega), Nat.mod_eq_of_lt (Nat.lt_trans hn256 (small_M2 256 (by omega)))] at hshl
  obtain ⟨up, hup⟩ : ∃ up : Int, up = 254 - (bl sg : Int) := ⟨_, rfl⟩
  have E1 : 254 - (bl sg : Int) = up := hup.symm
  have hand : bits .and .i64 up 1 = up - ((2 * hyU sg : Nat) : Int) := by rw [bits_and_one]; unfold hyU; omega
  have E2 : up - (up - ((2 * hyU sg : Nat) : Int)) = ((2 * hyU sg : Nat) : Int) := by omega
  have E3 : ((2 * hyU sg : Nat) : Int).tdiv 2 = (hyU sg : Int) := by rw [Int.tdiv_eq_ediv_of_nonneg (by omega)]; omega
  have E4 : ((2 * hyU sg : Nat) : Int) / 2 = (hyU sg : Int) := by omega
  have p1 : 0 < up := by unfold hyU at u1; omega
  have p2 : up ≤ 254 := by omega
  have p3 : (hyU sg : Int) ≤ 127 := by omega
  have p4 : ((2 * hyU sg : Nat) : Int) ≤ 254 := by omega
  have p5 : (0 : Int) ≤ (hyU sg : Int) := by omega
  have p6 : (0 : Int) ≤ ((2 * hyU sg : Nat) : Int) := by omega
  have hpt : Part (nbC false (2 * E) sg) (wc 8 sg) (nbC false (2 * E) sg) (wc 8 sg) 2 := part1 2 _ _ _ rfl rfl
  have yX := nbC_one false (2 * E) sg
  have zX := nbC_size false (2 * E) sg
  have hM := M_pos
  have Q0 : decide (sg = 0) = false := decide_eq_false h0
  clear hF hA hS hL h1 h2 hbs hbr hc hq1 hq2 m1 m5 f1 f4 hn256 hr hmore hrb hrb2 hr0 hsg u1 u2 u3 u4 hup h0 hres
  generalize nbC false (2 * E) sg = cX at *
  generalize romK k (sg * 2 ^ (2 * hyU sg)) c = c' at *
  generalize bump k q = q' at *
  generalize sg * 2 ^ (2 * hyU sg) = n at *
  generalize ((2 * hyU sg : Nat) : Int) = U2 at *
  generalize (hyU sg : Int) = U1 at *
  generalize bl sg = ks at *
  go_enter Tryz.func19, Tryz.ntmps19
  go_wp2_with ((first | (refine kT gf42 hst (fun w hst => hab.out b8 b11 b15 _ _ w (by have q := hst.nodup; simp only [List.map_cons, List.map_nil, List.nodup_cons, List.mem_cons, List.not_mem_nil, or_false, not_or] at q; omega) (by have q := hst.nodup; simp only [List.map_cons, List.map_nil, List.nodup_cons, List.mem_cons, List.not_mem_nil, or_false, not_or] at q; omega) (by have q := hst.nodup; simp only [List.map_cons, List.map_nil, List.nodup_cons, List.mem_cons, List.not_mem_nil, or_false, not_or] at q; omega) (hk.out w hst.keeps) (by omega) (hst.own _ _ (by repeat (first | exact List.Mem.head _ | refine List.Mem.tail _ ?_))) (hst.own _ _ (by repeat (first | exact List.Mem.head _ | refine List.Mem.tail _ ?_))) (hst.own _ _ (by repeat (first | exact List.Mem.head _ | refine List.Mem.tail _ ?_)))) rfl rfl rfl rfl ?_; clear hst; intro w hst) | (refine klm hst ta44 rfl ?_ (hc := hpt)) | (refine kZ (o := ⟨some 35, _, _, _, _, _⟩) (fun L' => (b15, .cells cX 46) :: (b12, .cells (wc 2 0) 24) :: (b11, .cells (wdc y) 24) :: (b10, .cells (wdc x) 24) :: (b8, .cells #[.int .i64 f] 3) :: L') gf29 hst (fun w hst => hmay w (hst.owns (L := L) (.there (.there (.there (.there (.there .here))))))) rfl rfl rfl rfl ?_; clear hst; intro v35 L1 w hR1 hnew1 hst; obtain ⟨rfl, hS1⟩ := hR1) | (refine kf gf46 hst (hev) rfl rfl rfl rfl ?_; clear hst; intro w hst) | (refine kf gf47 hst (hlen) rfl rfl rfl rfl ?_; clear hst; intro w hst) | (refine kf gf48 hst (hshl) rfl rfl rfl rfl ?_; clear hst; intro w hst) | (refine kZ (o := ⟨some 67, _, _, _, _, _⟩) (fun L' => (b18, .cells (wc 8 n) 44) :: (b15, .cells cX 46) :: (b12, .cells (wc 2 0) 24) :: (b11, .cells (wdc y) 24) :: (b10, .cells (wdc x) 24) :: (b8, .cells #[.int .i64 f] 3) :: L') gf30 hst (fun w hst => hrd L1 hS1 w (hk.out w hst.keeps) (hst.owns (L := L1) (.there (.there (.there (.there (.there (.there .here)))))))) rfl rfl rfl rfl ?_; clear hst; intro v67 L2 w hR2 hnew2 hst; obtain ⟨rfl, hS2⟩ := hR2) | (refine wl_guard (by rfl) ?_) | (refine kb 8 hst rfl rfl ?_; clear hst; intro b8 w hb8 hst) | (refine kb 10 hst rfl rfl ?_; clear hst; intro b10 w hb10 hst) | (refine kb 11 hst rfl rfl ?_; clear hst; intro b11 w hb11 hst) | (refine ka 12 hst tz24 rfl rfl ?_; clear hst; intro b12 w hb12 hst) | (refine ka 15 hst tz46 rfl rfl ?_; clear hst; intro b15 w hb15 hst) | (refine kc hst tc3 rfl ?_) | (refine kl hst ta24 rfl ?_) | (refine kl hst ta44 rfl ?_) | (refine kn tr44 tc22 rfl ?_) | (refine kt hst ta24 rfl rfl ?_; clear hst; intro w hst) | (refine kl hst ta46 rfl ?_) | (refine ka 18 hst tz44 rfl rfl ?_; clear hst; intro b18 w hb18 hst) | (refine kt hst ta44 rfl rfl ?_; clear hst; intro w hst)); try simp only [pz, pn, sz, sc])
  exact bp_ctt rfl rfl (la hst ta24) (by rfl) (by rfl) (PostZ.of hst ⟨rfl, hS2⟩ (fun y hy => (hnew2 y hy).elim (fun h => by
    obtain ⟨z, hz, e⟩ := List.mem_map.1 h
    rw [← e]; exact hnew1 z hz) .inr))

end Go.Proofs.YtefpoconpeggpaaGreatDoor.Rd

namespace Go.Proofs.YtefpoconpeggpaaGreatDoor.Rd
open Go Go.RowKit
set_option linter.unusedVariables false
set_option linter.unusedSimpArgs false
set_option maxRecDepth 100000

set_option maxHeartbeats 4000000 in
theorem unpack_Short (ng : Bool) (e : Int) (m k : Nat) (hm : m % 2 = 1) (hlt : m * 2 ^ k < M) (he1 : -1000000 ≤ e) (he2 : e ≤ 1000000) (hk : k ≤ 600) : Gives Tryz.prog 58 #[.agg (nbC ng e (m * 2 ^ k))] (.agg (nbC ng (e + k) m)) := by
  intro w0
  have hst := St.start [] w0
  have hri := unpack_Right ng e (m * 2 ^ k) (by omega) (by omega)
  have hp0 : 0 < 2 ^ k := Nat.pow_pos (by omega)
  have hn0 : m * 2 ^ k ≠ 0 := by have := Nat.mul_pos (show 0 < m by omega) hp0; omega
  have Q0 : decide (m * 2 ^ k = 0) = false := decide_eq_false hn0
  have hsmall := Lib.hid (show ∀ j, j ≤ k → m * 2 ^ j < M from fun j hj => Nat.lt_of_le_of_lt (Nat.mul_le_mul_left _ (Nat.pow_le_pow_right (by omega) hj)) hlt)
  have hM := M_pos
  have hs1 := Lib.hid (show ∀ (a b v : Value) (n : Nat), (#[a, b] ++ wc 8 n).setIfInBounds (0 + 1) v = #[a, v] ++ wc 8 n from fun a b v n => by rw [Array.setIfInBounds_append_left (by simp)]; rfl)
  have y2 : OneC (#[Value.bool ng, .int .i64 e] ++ wc 8 (m * 2 ^ k)) := nbC_one ng e _
  have y1 : (#[Value.bool ng, .int .i64 e] ++ wc 8 (m * 2 ^ k)).size = 10 := by simp
  have hend := Lib.hid (show ∀ x : Int, OneC (#[Value.bool ng, .int .i64 x] ++ wc 8 m) ∧ (#[Value.bool ng, .int .i64 x] ++ wc 8 m).size = 10 from fun x => ⟨nbC_one ng x m, by simp⟩)
  have hm' := Lib.hid hm
  clear hm hp0 hn0
  unfold nbC at *
  obtain ⟨n, hn⟩ : ∃ n, n = m * 2 ^ k := ⟨_, rfl⟩
  rw [← hn] at hri Q0 y1 y2 hlt ⊢
  have hn' := Lib.hid hn
  clear hn
  go_enter Tryz.func58, Tryz.ntmps58
  go_wp2_with ((first | (refine kf gf85 hst (hri) rfl rfl rfl rfl ?_; clear hst; intro w hst) | (refine kb 1 hst rfl rfl ?_; clear hst; intro b1 w hb1 hst) | (refine ka 2 hst tz46 rfl rfl ?_; clear hst; intro b2 w hb2 hst) | (refine kl hst ta46 rfl ?_) | (refine klm hst ta44 rfl ?_) | (refine ke tr44 tc22 rfl ?_)); try simp only [pz, pn, sz, sc])
  go_loopw [] (fun wr => ∃ i : Nat, i ≤ k ∧ St w0 [] [(b2, .cells #[.bool false, .int .i64 0, .int .u64 0, .int .u64 0, .int .u64 0, .int .u64 0, .int .u64 0, .int .u64 0, .int .u64 0, .int .u64 0] 46), (b1, .cells (#[Value.bool ng, .int .i64 (e + (i : Int))] ++ wc 8 (m * 2 ^ (k - i))) 46)] wr) (fun wr => match wr.heap[b1]? with | some (Obj.cells cs _ _) => (match cs[1]? with | some (Value.int _ x) => (e + k - x).toNat | _ => 0) | _ => 0)
  case atStart => exact ⟨0, by omega, by rw [Nat.sub_zero, ← hn'.out, show e + ((0 : Nat) : Int) = e by omega]; exact hst⟩
  case round =>
    clear hst y1 y2
    obtain ⟨i, hi, hst⟩ := hrel
    have hm0 := hst.own b1 (.cells (#[Value.bool ng, .int .i64 (e + (i : Int))] ++ wc 8 (m * 2 ^ (k - i))) 46) (by simp)
    by_cases hlt2 : i < k
    · obtain ⟨j, hj⟩ : ∃ j, k - i = j + 1 := ⟨k - i - 1, by omega⟩
      rw [hj] at hst hm0
      have hx := hsmall.out (j + 1) (by omega)
      have hbit := wide_Bit (m * 2 ^ (j + 1)) 0 hx (by omega)
      rw [Nat.testBit_zero, show decide (m * 2 ^ (j + 1) % 2 = 1) = false by rw [Nat.pow_succ, ← Nat.mul_assoc, Nat.mul_mod_left]; rfl, show ((0 : Nat) : Int) = 0 from rfl] at hbit
      have hshr := wide_Shr (m * 2 ^ (j + 1)) ((1 : Nat) : Int) hx
      rw [clampN_nat _ (by omega), Nat.pow_one, show m * 2 ^ (j + 1) / 2 = m * 2 ^ j by rw [Nat.pow_succ, ← Nat.mul_assoc, Nat.mul_div_cancel _ (by omega)], show ((1 : Nat) : Int) = 1 from rfl] at hshr
      have e1 : e + (i : Int) ≤ 2000000 := by omega
      have e2 : -2000000 ≤ e + (i : Int) := by omega
      have hnx := Lib.hid (show (e + (i : Int) + 1) = e + ((i + 1 : Nat) : Int) ∧ k - (i + 1) = j from ⟨by omega, by omega⟩)
      have y1 : (#[Value.bool ng, .int .i64 (e + (i : Int))] ++ wc 8 (m * 2 ^ (j + 1))).size = 10 := by simp
      have y3 : (#[Value.bool ng, .int .i64 (e + (i : Int))] ++ wc 8 (m * 2 ^ j)).size = 10 := by simp
      have hm0' := Lib.hid hm0
      have hik := Lib.hid hlt2
      clear hx hj hm0 hlt2 hi
      generalize m * 2 ^ (j + 1) = u1 at *
      obtain ⟨u0, hu0⟩ : ∃ u0, u0 = m * 2 ^ j := ⟨_, rfl⟩
      rw [← hu0] at hshr y3
      have hu0' := Lib.hid hu0
      clear hu0
      generalize (!decide (u0 * 2 = u1)) = bq at *
      obtain ⟨ev, hev⟩ : ∃ ev : Int, ev = e + (i : Int) := ⟨_, rfl⟩
      rw [← hev] at hst y1 y3 e1 e2
      have hev' := Lib.hid hev
      clear hev
      go_wp2_with ((first | (refine kf gf86 hst (hbit) rfl rfl rfl rfl ?_; clear hst; intro w hst) | (refine kf gf87 hst (hshr) rfl rfl rfl rfl ?_; clear hst; intro w hst) | (refine klm hst ta44 rfl ?_) | (refine ktm hst ta44 rfl rfl ?_; clear hst; intro w hst; (try rw [hs1.out] at hst)) | (refine kc hst tc3 rfl ?_) | (refine ks hst tc3 rfl rfl ?_; clear hst; intro w hst; (try rw [hs1.out] at hst))); try simp only [pz, pn, sz, sc])
      refine ⟨⟨i + 1, by have := hik.out; omega, by rw [hnx.out.2, ← hu0'.out, ← hnx.out.1, ← hev'.out]; exact hst⟩, ?_⟩
      have h1 := hst.own b1 (.cells (#[Value.bool ng, .int .i64 (ev + 1)] ++ wc 8 u0) 46) (by simp)
      rw [h1, hm0'.out]
      have := hik.out
      have := hev'.out
      simp
      omega
    · obtain rfl : i = k := by omega
      rw [Nat.sub_self, Nat.pow_zero, Nat.mul_one] at hst
      have hbit := wide_Bit m 0 (by have := hsmall.out 0 (by omega); simpa using this) (by omega)
      rw [Nat.testBit_zero, show decide (m % 2 = 1) = true by simpa using hm'.out, show ((0 : Nat) : Int) = 0 from rfl] at hbit
      obtain ⟨y2, y1⟩ := hend.out (e + (i : Int))
      clear hsmall hend hlt hm' hm0 hlt2 hri Q0
      obtain ⟨ev, hev⟩ : ∃ ev : Int, ev = e + (i : Int) := ⟨_, rfl⟩
      rw [← hev] at hst y1 y2
      have hev' := Lib.hid hev
      clear hev
      go_wp2_with ((first | (refine kf gf86 hst (hbit) rfl rfl rfl rfl ?_; clear hst; intro w hst) | (refine kl hst ta46 rfl ?_) | (refine kt hst ta46 rfl rfl ?_; clear hst; intro w hst) | (refine klm hst ta44 rfl ?_)); try simp only [pz, pn, sz, sc])
      refine bp_c rfl rfl (la hst ta46) ⟨?_, hst.keeps⟩
      rw [hev'.out]

end Go.Proofs.YtefpoconpeggpaaGreatDoor.Rd

namespace Go.Proofs.YtefpoconpeggpaaGreatDoor.Rd
open Go Go.RowKit
set_option linter.unusedVariables false
set_option linter.unusedSimpArgs false
set_option maxRecDepth 100000

/-- What Parts answers, whatever it is. -/
def PartsAt (f : Int) (m : Nat) (n : Nat) (x : Int) (ok : Bool) : Prop := ∀ w, FmtIn w → GivesAt Tryz.prog 23 #[.int .i64 f, Wd m] (.tuple #[W n, .int .i64 x, .bool ok]) w
theorem parts_no (f : Int) (m : Nat) (h : UnNo f m) : PartsAt f m 0 0 false := by
  obtain ⟨ng, e, n, ok, hno, hU⟩ := h
  exact fun w hw => root_Parts_no f m ng e n ok hno w (fun w' k => hU w' (hw.keep k (by simp)))
theorem parts_yes (f : Nat) (f1 : 1 ≤ f) (f4 : f ≤ 4) (m : Nat) (h : someB f m = true) : PartsAt f m (rN f m) (rX f m) true := by
  obtain ⟨h1, h2, h3, h4⟩ := someB_spec h
  exact fun w hw => root_Parts f f1 f4 m h1 h2 h3 h4 w hw
/-! The examples: the root of 2, and of 3 and 4 squared. -/
theorem root_unique {n a : Nat} (hn : n < 2 ^ 256) (h1 : a * a ≤ n) (h2 : n < (a + 1) * (a + 1)) : isqrt n = a := by
  have h := (isqrt_spec (n := n) (by rw [four_128]; exact hn)).1
  obtain ⟨h3, h4⟩ := h
  rcases Nat.lt_trichotomy (isqrt n) a with h | h | h
  · have := Nat.mul_self_le_mul_self (show isqrt n + 1 ≤ a from h); omega
  · exact h
  · have := Nat.mul_self_le_mul_self (show a + 1 ≤ isqrt n from h); omega
theorem ex1_n : rN 1 0x4000 = 1024 * 2 ^ 15 ∧ rX 1 0x4000 = -12 ∧ someB 1 0x4000 = true := by decide +kernel
theorem ex1_r : rR 1 0x4000 = 5792 := by
  unfold rR
  rw [ex1_n.1]
  exact root_unique (by decide) (by decide) (by decide)
theorem ex1 : rootW 1 1 0x4000 = (0x3da8, 16) := by
  unfold rootW rMore
  rw [ex1_r, ex1_n.1, ex1_n.2.1]
  decide +kernel

end Go.Proofs.YtefpoconpeggpaaGreatDoor.Rd

namespace Go.Proofs.YtefpoconpeggpaaGreatDoor.Rd
open Go Go.RowKit
set_option linter.unusedVariables false
set_option linter.unusedSimpArgs false
set_option maxRecDepth 100000

theorem ex2_s : someB 1 0x4200 = true ∧ someB 1 0x4400 = true ∧ hyC 1 (uExp 1 0x4200) (uSig 1 0x4200) (uExp 1 0x4400) (uSig 1 0x4400) = nbC false (2 * (-9)) 6553600 := by
  refine ⟨by decide +kernel, by decide +kernel, ?_⟩
  have e : uExp 1 0x4200 = -9 ∧ uSig 1 0x4200 = 1536 ∧ uExp 1 0x4400 = -8 ∧ uSig 1 0x4400 = 1024 := by decide +kernel
  rw [e.1, e.2.1, e.2.2.1, e.2.2.2]
  have h1 : hyOk 1 (-9) (-8) = true := by decide
  unfold hyC
  rw [if_pos h1]
  have h2 : sqS (-9) 1536 (-8) 1024 = 6553600 := by decide +kernel
  rw [h2]
  rfl
theorem ex2_u : hyU 6553600 = 115 := by decide +kernel
theorem ex2_r : isqrt (6553600 * 2 ^ (2 * hyU 6553600)) = 5 * 2 ^ 124 := by
  rw [ex2_u]
  exact root_unique (by decide +kernel) (by decide +kernel) (by decide +kernel)
theorem ex2 : rndP 1 1 false (-9 - (hyU 6553600 : Nat)) (5 * 2 ^ 124) false = (0x4500, 0) := by
  rw [ex2_u]
  decide +kernel

theorem word_lit (x : Nat) (hx : x < B) : Wd x = .agg #[.int .u64 0, .int .u64 (x : Int)] := by
  unfold Wd wdc
  have h1 : lb x 1 = 0 := by unfold lb; rw [Nat.pow_one, Nat.div_eq_of_lt hx]; rfl
  have h0 : lb x 0 = x := by rw [lb_zero, Nat.mod_eq_of_lt hx]
  rw [h1, h0]
  rfl

/-- A set that is new, in a world that has the formats. -/
theorem new_ne {w0 : World} {bs br : Nat} {L : List (Nat × Obj)} (hn : NewIn w0.heap.size L) (hS : SetNew bs br L) (hF : FmtIn w0) : bs ≠ 0 ∧ br ≠ 0 := by
  have h1 : w0.heap.size ≤ bs := hn.1 (bs, _) (by rw [hS]; exact List.Mem.head _)
  have h2 : w0.heap.size ≤ br := hn.1 (br, _) (by rw [hS]; exact List.Mem.tail _ (List.Mem.head _))
  have := hF.lt
  omega

set_option maxHeartbeats 4000000 in
theorem law25_awake (w0 : World) (hF : FmtIn w0) : GivesAt Tryz.prog 9 #[] (.bool true) w0 := by
  have hst := St.start [] w0
  have hk := Lib.hid (fun w (k : Keeps [] w0 w) => hF.keep k (by simp))
  have hnew := fun w => engine_New w
  have e1 := Lib.hid (show ∀ bs br L, SetNew bs br L → bs ≠ 0 → br ≠ 0 → ∀ w, FmtIn w → Owns w L → GivesZ Tryz.prog 7 #[.pointer (some ⟨bs, 0, none⟩), .int .i64 4, .int .i64 1, .int .i64 1, .agg #[.int .u64 0, .int .u64 16384]] [bs, br] L (fun L' v => v = .tuple #[Wd 0x3da8, .int .i64 16, .int .i64 0] ∧ ∃ c q, RomOk c ∧ 0 ≤ q 2 ∧ q 2 ≤ 1000 ∧ SetSt bs br c q L') w from
    fun bs br L hS h1 h2 w hw hL => by
      obtain ⟨a1, a2, a3, a4⟩ := someB_spec ex1_n.2.2
      have h := root_Finite bs br h1 h2 romN romN_ok (fun _ => 0) L (.inl ⟨hS, rfl, rfl⟩) 4 (by omega) (by omega) (by simp) (by simp) 1 (by omega) (by omega) 1 (by omega) (by omega) 0x4000 a1 a2 a3 a4 w hw hL
      rw [ex1, word_lit 0x4000 (by decide)] at h
      exact h.weak fun L' v hv => ⟨hv.1, _, _, romK_ok romN_ok, by decide, by decide, hv.2⟩)
  have e2 := Lib.hid (show ∀ bs br c q L, RomOk c → 0 ≤ q 2 → q 2 ≤ 1000 → SetSt bs br c q L → bs ≠ 0 → br ≠ 0 → ∀ w, FmtIn w → Owns w L → GivesZ Tryz.prog 19 #[.pointer (some ⟨bs, 0, none⟩), .int .i64 2, .int .i64 1, .int .i64 1, .agg #[.int .u64 0, .int .u64 16896], .agg #[.int .u64 0, .int .u64 17408]] [bs, br] L (fun L' v => v = .tuple #[Wd 0x4500, .int .i64 0, .int .i64 0] ∧ ∃ c q, SetSt bs br c q L') w from
    fun bs br c q L hc q1 q2 hS h1 h2 w hw hL => by
      have hA := HA_yes 1 (by omega) (by omega) 0x4200 0x4400 ex2_s.1 ex2_s.2.1
      rw [ex2_s.2.2] at hA
      have h := root_Hypot_yes bs br h1 h2 c hc q L hS 2 (by omega) (by omega) q1 q2 1 (by omega) (by omega) 1 (by omega) (by omega) 0x4200 0x4400 (-9) 6553600 (by omega) (by omega) (by omega) (by decide) hA (5 * 2 ^ 124) ex2_r false (by rw [ex2_u]; decide +kernel) (by decide +kernel) (by decide +kernel) 0x4500 0 ex2 w hw hL
      rw [word_lit 0x4200 (by decide), word_lit 0x4400 (by decide)] at h
      exact h.weak fun L' v hv => ⟨hv.1, _, _, hv.2⟩)
  have d1 := word_lit 0x3da8 (by decide)
  have d2 := word_lit 0x4500 (by decide)
  have hl1 := Lib.hid d1
  have hl2 := Lib.hid d2
  have hF' := Lib.hid hF
  clear hF d1 d2
  go_enter Tryz.func9, Tryz.ntmps9
  go_wp2_with ((first | (refine kN (o := ⟨some 8, _, _, _, _, _⟩) gf8 hst (fun w hst => hnew w) rfl rfl rfl rfl ?_; clear hst; intro v8 L w hn8 hR8 hst; obtain ⟨bs, br, hsr, rfl, hS⟩ := hR8; (try simp only [List.cons_append, List.nil_append, List.append_nil, List.append_assoc] at hst); obtain ⟨hbs, hbr⟩ := new_ne hn8 hS hF'.out; have hbs0 : w0.heap.size ≤ bs := hn8.1 (bs, _) (by rw [hS]; exact List.Mem.head _); have hbr0 : w0.heap.size ≤ br := hn8.1 (br, _) (by rw [hS]; exact List.Mem.tail _ (List.Mem.head _))) | (refine kZ (o := ⟨some 12, _, _, _, _, _⟩) (fun L' => L') gf7 hst (fun w hst => e1.out bs br L hS hbs hbr w (hk.out w hst.keeps) (hst.owns (L := L) .here)) rfl rfl rfl rfl ?_; clear hst; intro v12 L1 w hR1 hnew1 hst; obtain ⟨rfl, c1, q1, hc1, hq1, hq2, hS1⟩ := hR1) | (refine kZ (o := ⟨some 20, _, _, _, _, _⟩) (fun L' => (b2, .cells (wdc 0x3da8) 24) :: L') gf19 hst (fun w hst => e2.out bs br c1 q1 L1 hc1 hq1 hq2 hS1 hbs hbr w (hk.out w hst.keeps) (hst.owns (L := L1) (.there .here))) rfl rfl rfl rfl ?_; clear hst; intro v20 L2 w hR2 hnew2 hst; obtain ⟨rfl, c2, q2, hS2⟩ := hR2) | (refine keS (c := true) tf24 tc22 rfl ?_ (hy := hl1.out.symm) (hm := by decide) (hn := by decide) (hc := by decide)) | (refine keS (c := true) tf24 tc22 rfl ?_ (hy := hl2.out.symm) (hm := by decide) (hn := by decide) (hc := by decide)) | (refine wl_guard (by rfl) ?_) | (refine ka 2 hst tz24 rfl rfl ?_; clear hst; intro b2 w hb2 hst) | (refine kt hst ta24 rfl rfl ?_; clear hst; intro w hst) | (refine ka 5 hst tz24 rfl rfl ?_; clear hst; intro b5 w hb5 hst) | (refine kl hst ta24 rfl ?_)); try simp only [pz, pn, sz, sc])
  refine bp_t rfl rfl (by rfl) ⟨?_, hst.keeps⟩
  rfl

end Go.Proofs.YtefpoconpeggpaaGreatDoor.Rd

namespace Go.Proofs.YtefpoconpeggpaaGreatDoor.Rd
open Go Go.RowKit
set_option linter.unusedVariables false

theorem St.perm {w0 w : World} {S : List Nat} {L L' : List (Nat × Obj)} (h : St w0 S L w) (p : L'.Perm L) : St w0 S L' w :=
  ⟨h.keeps, fun b o hm => h.own b o (p.mem_iff.1 hm), (p.map Prod.fst).nodup_iff.2 h.nodup⟩
/-- Out x L L': L without its x is L'. -/
inductive Out (x : Nat × Obj) : List (Nat × Obj) → List (Nat × Obj) → Prop
  | head {L} : Out x (x :: L) L
  | tail {y L L'} : Out x L L' → Out x (y :: L) (y :: L')
  | app {A L L'} : Out x L L' → Out x (A ++ L) (A ++ L')
theorem Out.perm {x : Nat × Obj} {L L' : List (Nat × Obj)} (h : Out x L L') : (x :: L').Perm L := by
  induction h with
  | head => exact .refl _
  | @tail y L L' _ ih => exact (List.Perm.swap y x L').trans (ih.cons y)
  | @app A L L' _ ih => exact (List.perm_middle.symm).trans (ih.append_left A)
theorem St.front {w0 w : World} {S : List Nat} {L L' : List (Nat × Obj)} (x : Nat × Obj) (h : St w0 S L w) (ho : Out x L L') : St w0 S (x :: L') w := h.perm ho.perm

section picks
variable {P : Program} {ops : Array Oper} {rest : List Oper} {Q : Exit → Act → World → Prop} {a : Act} {w : World}
end picks

end Go.Proofs.YtefpoconpeggpaaGreatDoor.Rd
