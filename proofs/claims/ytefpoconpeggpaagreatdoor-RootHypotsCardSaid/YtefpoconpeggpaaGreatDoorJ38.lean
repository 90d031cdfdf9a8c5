/- What ref25.Hypot answers; the root of the sum of squares, known by comparing. -/
import Derived.Test.YtefpoconpeggpaaGreatDoorJ32
import Derived.Test.YtefpoconpeggpaaGreatDoorJ37
import Derived.Deep.DeepCutAuto
namespace Go.Proofs.YtefpoconpeggpaaGreatDoor.Rd
open Go Go.RowKit
set_option linter.unusedVariables false
set_option linter.unusedSimpArgs false
set_option maxRecDepth 100000

/-- The sum of two words' squares, as the reference has it, and its root's exponent. -/
def hN (f a b : Nat) : Nat := sqS (wExp f a) (wSig f a) (wExp f b) (wSig f b)
def hE (f a b : Nat) : Int := min (wExp f a) (wExp f b)
/-- The same of the numbers whose highest digits are at their places. -/
def hP (f a b : Nat) : Nat := sqS (uExp f a) (uSig f a) (uExp f b) (uSig f b)
def hM (f a b : Nat) : Int := min (uExp f a) (uExp f b)
theorem hP_eq (f a b : Nat) : hM f a b ≤ hE f a b ∧ hP f a b = hN f a b * 2 ^ (2 * (hE f a b - hM f a b).toNat) := by
  have h1 : hM f a b ≤ hE f a b := by unfold hM hE uExp; omega
  refine ⟨h1, ?_⟩
  unfold hP hN sqS
  exact sq_shift (wExp f a) (wExp f b) 0 0 (wSig f a) (wSig f b) (uUp f a) (uUp f b) _ _ rfl rfl _ (by unfold hM hE at *; unfold uExp; omega)

set_option maxHeartbeats 4000000 in
theorem ref25_Hypot (f : Nat) (h1 : 1 ≤ f) (h4 : f ≤ 4) (a b : Nat) (ha : a < M2) (hb : b < M2) (hfa : a < 2 ^ fB f) (hfb : b < 2 ^ fB f) (hd1 : wExp f a - wExp f b ≤ 200) (hd2 : -200 ≤ wExp f a - wExp f b) (w0 : World) :
    GivesN Tryz.prog 22 #[.int .i64 f, Wd a, Wd b] (RR false 2 (hN f a b) 1 (2 * hE f a b)) w0 := by
  have hst := St.start [] w0
  have hva := ref07_Value f h1 h4 a ha hfa
  have hvb := ref07_Value f h1 h4 b hb hfb
  have hP := fP_in f
  have hoa := fun w => ref07_Of (wNeg f a) (wExp f a) (wSig f a) (Nat.lt_trans (wSig_lt f a) (small_M2 _ (by omega))) w
  have hob := fun w => ref07_Of (wNeg f b) (wExp f b) (wSig f b) (Nat.lt_trans (wSig_lt f b) (small_M2 _ (by omega))) w
  have hone := fun w => ref01_Small 1 (by decide) w
  have hd := build_real
  have wa := wExp_in f a
  have wb := wExp_in f b
  have sa := wSig_lt f a
  have sb := wSig_lt f b
  obtain ⟨e3, he3⟩ : ∃ e, e = 313 := ⟨_, rfl⟩
  have pw : ∀ s k : Nat, s < 2 ^ fP f → k ≤ 200 → s * 2 ^ k < 2 ^ e3 := fun s k hs hk => by
    have x := pow_lt_of (fP f) (k := k) hs
    exact Nat.lt_of_lt_of_le x (Nat.pow_le_pow_right (by omega) (by omega))
  obtain ⟨qA, hqA⟩ : ∃ qA : Nat, (qA : Int) = wExp f a - hE f a b := ⟨(wExp f a - hE f a b).toNat, by unfold hE; omega⟩
  obtain ⟨qB, hqB⟩ : ∃ qB : Nat, (qB : Int) = wExp f b - hE f a b := ⟨(wExp f b - hE f a b).toNat, by unfold hE; omega⟩
  have hqA2 : qA ≤ 200 := by unfold hE at hqA; omega
  have hqB2 : qB ≤ 200 := by unfold hE at hqB; omega
  have hN' : hN f a b = wSig f a * 2 ^ qA * (wSig f a * 2 ^ qA) + wSig f b * 2 ^ qB * (wSig f b * 2 ^ qB) := by
    unfold hN sqS
    rw [show (wExp f a - min (wExp f a) (wExp f b)).toNat = qA by unfold hE at hqA; omega, show (wExp f b - min (wExp f a) (wExp f b)).toNat = qB by unfold hE at hqB; omega]
  rw [hN']
  have da := dl_2pow _ e3 (pw _ _ sa hqA2)
  have db := dl_2pow _ e3 (pw _ _ sb hqB2)
  have sq : ∀ x, x < 2 ^ e3 → x * x < 2 ^ (e3 + e3) := fun x hx => by have := Nat.mul_lt_mul'' hx hx; rw [← Nat.pow_add] at this; exact this
  have dqa := dl_2pow _ (e3 + e3) (sq _ (pw _ _ sa hqA2))
  have dqb := dl_2pow _ (e3 + e3) (sq _ (pw _ _ sb hqB2))
  have dsa : dl (wSig f a) ≤ 100000 := by have := (wSig_dl f a).1; omega
  have dsb : dl (wSig f b) ≤ 100000 := by have := (wSig_dl f b).1; omega
  have c1 := fun v w (h : BigAt w v (dl (wSig f a)) (wSig f a)) => ref01_Shl v _ _ qA w h dsa (by omega)
  have c2 := fun v w (h : BigAt w v (dl (wSig f b)) (wSig f b)) => ref01_Shl v _ _ qB w h dsb (by omega)
  have m1 := fun v w (h : BigAt w v (dl (wSig f a * 2 ^ qA)) (wSig f a * 2 ^ qA)) => ref01_Mul v v _ _ _ _ w h h (by omega) (by omega)
  have m2 := fun v w (h : BigAt w v (dl (wSig f b * 2 ^ qB)) (wSig f b * 2 ^ qB)) => ref01_Mul v v _ _ _ _ w h h (by omega) (by omega)
  have s1 := fun v u w (h : BigAt w v (dl (wSig f a * 2 ^ qA * (wSig f a * 2 ^ qA))) (wSig f a * 2 ^ qA * (wSig f a * 2 ^ qA))) (h' : BigAt w u (dl (wSig f b * 2 ^ qB * (wSig f b * 2 ^ qB))) (wSig f b * 2 ^ qB * (wSig f b * 2 ^ qB))) => ref01_Add v u _ _ _ _ w h h' (by omega) (by omega)
  have E0 : min (wExp f a) (wExp f b) = hE f a b := rfl
  have W1 : IntKind.i64.wrap (wExp f a - hE f a b) = (qA : Int) := by rw [← hqA, IntKind.wrap_i64]; omega
  have W2 : IntKind.i64.wrap (wExp f b - hE f a b) = (qB : Int) := by rw [← hqB, IntKind.wrap_i64]; omega
  have e1 : -100000 ≤ hE f a b := by unfold hE; omega
  have e2 : hE f a b ≤ 100000 := by unfold hE; omega
  have ya := nbC_size (wNeg f a) (wExp f a) (wSig f a)
  clear pw sq he3 da db dqa dqb dsa dsb sa sb hqA hqB hqA2 hqB2 hN' hd1 hd2 ha hb hfa hfb h1 h4 hP ya
  generalize wSig f a * 2 ^ qA * (wSig f a * 2 ^ qA) + wSig f b * 2 ^ qB * (wSig f b * 2 ^ qB) = tot at *
  generalize wSig f a * 2 ^ qA * (wSig f a * 2 ^ qA) = qa at *
  generalize wSig f b * 2 ^ qB * (wSig f b * 2 ^ qB) = qb at *
  generalize wSig f a * 2 ^ qA = pa at *
  generalize wSig f b * 2 ^ qB = pb at *
  generalize nbC (wNeg f a) (wExp f a) (wSig f a) = ca at *
  generalize nbC (wNeg f b) (wExp f b) (wSig f b) = cb at *
  generalize hE f a b = le at *
  generalize wSig f a = sga at *
  generalize wSig f b = sgb at *
  generalize wExp f a = exa at *
  generalize wExp f b = exb at *
  generalize wNeg f a = nga at *
  generalize wNeg f b = ngb at *
  go_enter Tryz.func22, Tryz.ntmps22
  go_wp2_with ((first | (refine kb 4 hst rfl rfl ?_; clear hst; intro b4 w hb4 hst) | (refine kb 5 hst rfl rfl ?_; clear hst; intro b5 w hb5 hst) | (refine ka 6 hst tz41 rfl rfl ?_; clear hst; intro b6 w hb6 hst)); try simp only [pz, pn, sz, sc])
  go_cut [7, 8] (fun s7 s8 wx => ∃ b7 b8 a15 x15 y15 a19 x19 y19 Lg15 Lg19, s7 = .pointer (some ⟨b7, 0, none⟩) ∧ s8 = .pointer (some ⟨b8, 0, none⟩) ∧ w0.heap.size ≤ b7 ∧ w0.heap.size ≤ b8 ∧ BigIn 0 Lg15 (.slice a15 x15 y15) sga ∧ BigIn 0 Lg19 (.slice a19 x19 y19) sgb ∧ St w0 [] ((b8, .cells #[.bool ngb, .slice a19 x19 y19, .int .i64 exb] 61) :: (b7, .cells #[.bool nga, .slice a15 x15 y15, .int .i64 exa] 61) :: (b6, .cells #[.bool false, .int .i64 0, .slice none 0 0, .slice none 0 0, .int .i64 0] 41) :: (Lg15 ++ Lg19)) wx)
  case first =>
    refine wp_region_TV 12 [(b5, .cells (wdc b) 24), (b4, .cells (wdc a) 24)] hst (by kernel_rfl) ?_; clear hst; intro w hst; (try simp only [List.length_cons, List.length_nil, Nat.reduceAdd, Array.replicate_succ, Array.replicate_zero, List.push_toArray, List.nil_append, List.cons_append])
    refine r0 0 ?_; simp only [pz, pn, sz, sc]
    refine r0 4 ?_; simp only [pz, pn, sz, sc]
    refine rl 1 rfl ?_ (by first | exact ylA ta24 | exact ylM ta24); simp only [pz, pn, sz, sc]
    refine rl 5 rfl ?_ (by first | exact ylA ta24 | exact ylM ta24); simp only [pz, pn, sz, sc]
    refine r3 2 8 9 ?_ ?_ ?_
    (refine kf gf14 hst (hva) rfl rfl rfl rfl ?_; clear hst; intro w hst); (try simp only [pz, pn, sz, sc]); refine re ?_
    refine r3 3 8 9 ?_ ?_ ?_
    (refine kN (o := ⟨some 15, _, _, _, _, _⟩) gf26 hst (fun w hst => hoa w) rfl rfl rfl rfl ?_; clear hst; intro v15 Lg15 w hn15 hR15 hst; (try simp only [List.cons_append, List.nil_append, List.append_nil, List.append_assoc] at hst); obtain ⟨s15, rfl, hb15⟩ := hR15; obtain ⟨a15, x15, y15, rfl⟩ := hb15.slice); (try simp only [pz, pn, sz, sc]); refine re ?_
    refine r3 6 8 9 ?_ ?_ ?_
    (refine kf gf14 hst (hvb) rfl rfl rfl rfl ?_; clear hst; intro w hst); (try simp only [pz, pn, sz, sc]); refine re ?_
    refine r3 7 8 9 ?_ ?_ ?_
    (refine kN (o := ⟨some 19, _, _, _, _, _⟩) gf26 hst (fun w hst => hob w) rfl rfl rfl rfl ?_; clear hst; intro v19 Lg19 w hn19 hR19 hst; (try simp only [List.cons_append, List.nil_append, List.append_nil, List.append_assoc] at hst); obtain ⟨s19, rfl, hb19⟩ := hR19; obtain ⟨a19, x19, y19, rfl⟩ := hb19.slice); (try simp only [pz, pn, sz, sc]); refine re ?_
    refine r2 8 9 ?_ ?_
    (refine ka 7 hst tz61 rfl rfl ?_; clear hst; intro b7 w hb7 hst); (try simp only [pz, pn, sz, sc]); refine re ?_
    refine r1 9 ?_; (refine ka 8 hst tz61 rfl rfl ?_; clear hst; intro b8 w hb8 hst); (try simp only [pz, pn, sz, sc]); refine re ?_
    refine r1 10 ?_; (refine kt hst ta61 rfl rfl ?_; clear hst; intro w hst); (try simp only [pz, pn, sz, sc]); refine re ?_
    refine r1 11 ?_; (refine kt hst ta61 rfl rfl ?_; clear hst; intro w hst); (try simp only [pz, pn, sz, sc]); refine re ?_
    refine rd_ ?_
    rotate_left 1
    (refine ka 8 hst tz61 rfl rfl ?_; clear hst; intro b8 w hb8 hst); (try simp only [pz, pn, sz, sc]); refine re ?_
    refine r1 8 ?_; (refine ka 7 hst tz61 rfl rfl ?_; clear hst; intro b7 w hb7 hst); (try simp only [pz, pn, sz, sc]); refine re ?_
    refine r1 10 ?_; (refine kt hst ta61 rfl rfl ?_; clear hst; intro w hst); (try simp only [pz, pn, sz, sc]); refine re ?_
    refine r1 11 ?_; (refine kt hst ta61 rfl rfl ?_; clear hst; intro w hst); (try simp only [pz, pn, sz, sc]); refine re ?_
    refine rd_ ?_
    rotate_right 1
    rotate_left 2
    (refine ka 7 hst tz61 rfl rfl ?_; clear hst; intro b7 w hb7 hst); (try simp only [pz, pn, sz, sc]); refine re ?_
    refine r2 7 9 ?_ ?_
    (refine kN (o := ⟨some 19, _, _, _, _, _⟩) gf26 hst (fun w hst => hob w) rfl rfl rfl rfl ?_; clear hst; intro v19 Lg19 w hn19 hR19 hst; (try simp only [List.cons_append, List.nil_append, List.append_nil, List.append_assoc] at hst); obtain ⟨s19, rfl, hb19⟩ := hR19; obtain ⟨a19, x19, y19, rfl⟩ := hb19.slice); (try simp only [pz, pn, sz, sc]); refine re ?_
    refine r1 9 ?_; (refine ka 8 hst tz61 rfl rfl ?_; clear hst; intro b8 w hb8 hst); (try simp only [pz, pn, sz, sc]); refine re ?_
    refine r1 10 ?_; (refine kt hst ta61 rfl rfl ?_; clear hst; intro w hst); (try simp only [pz, pn, sz, sc]); refine re ?_
    refine r1 11 ?_; (refine kt hst ta61 rfl rfl ?_; clear hst; intro w hst); (try simp only [pz, pn, sz, sc]); refine re ?_
    refine rd_ ?_
    rotate_left 1
    (refine ka 8 hst tz61 rfl rfl ?_; clear hst; intro b8 w hb8 hst); (try simp only [pz, pn, sz, sc]); refine re ?_
    refine r1 7 ?_; (refine kN (o := ⟨some 19, _, _, _, _, _⟩) gf26 hst (fun w hst => hob w) rfl rfl rfl rfl ?_; clear hst; intro v19 Lg19 w hn19 hR19 hst; (try simp only [List.cons_append, List.nil_append, List.append_nil, List.append_assoc] at hst); obtain ⟨s19, rfl, hb19⟩ := hR19; obtain ⟨a19, x19, y19, rfl⟩ := hb19.slice); (try simp only [pz, pn, sz, sc]); refine re ?_
    refine r1 10 ?_; (refine kt hst ta61 rfl rfl ?_; clear hst; intro w hst); (try simp only [pz, pn, sz, sc]); refine re ?_
    refine r1 11 ?_; (refine kt hst ta61 rfl rfl ?_; clear hst; intro w hst); (try simp only [pz, pn, sz, sc]); refine re ?_
    refine rd_ ?_
    rotate_right 1
    rotate_left 2
    (refine ka 8 hst tz61 rfl rfl ?_; clear hst; intro b8 w hb8 hst); (try simp only [pz, pn, sz, sc]); refine re ?_
    refine r2 7 8 ?_ ?_
    (refine kN (o := ⟨some 19, _, _, _, _, _⟩) gf26 hst (fun w hst => hob w) rfl rfl rfl rfl ?_; clear hst; intro v19 Lg19 w hn19 hR19 hst; (try simp only [List.cons_append, List.nil_append, List.append_nil, List.append_assoc] at hst); obtain ⟨s19, rfl, hb19⟩ := hR19; obtain ⟨a19, x19, y19, rfl⟩ := hb19.slice); (try simp only [pz, pn, sz, sc]); refine re ?_
    refine r1 8 ?_; (refine ka 7 hst tz61 rfl rfl ?_; clear hst; intro b7 w hb7 hst); (try simp only [pz, pn, sz, sc]); refine re ?_
    refine r1 10 ?_; (refine kt hst ta61 rfl rfl ?_; clear hst; intro w hst); (try simp only [pz, pn, sz, sc]); refine re ?_
    refine r1 11 ?_; (refine kt hst ta61 rfl rfl ?_; clear hst; intro w hst); (try simp only [pz, pn, sz, sc]); refine re ?_
    refine rd_ ?_
    rotate_left 1
    (refine ka 7 hst tz61 rfl rfl ?_; clear hst; intro b7 w hb7 hst); (try simp only [pz, pn, sz, sc]); refine re ?_
    refine r1 7 ?_; (refine kN (o := ⟨some 19, _, _, _, _, _⟩) gf26 hst (fun w hst => hob w) rfl rfl rfl rfl ?_; clear hst; intro v19 Lg19 w hn19 hR19 hst; (try simp only [List.cons_append, List.nil_append, List.append_nil, List.append_assoc] at hst); obtain ⟨s19, rfl, hb19⟩ := hR19; obtain ⟨a19, x19, y19, rfl⟩ := hb19.slice); (try simp only [pz, pn, sz, sc]); refine re ?_
    refine r1 10 ?_; (refine kt hst ta61 rfl rfl ?_; clear hst; intro w hst); (try simp only [pz, pn, sz, sc]); refine re ?_
    refine r1 11 ?_; (refine kt hst ta61 rfl rfl ?_; clear hst; intro w hst); (try simp only [pz, pn, sz, sc]); refine re ?_
    refine rd_ ?_
    rotate_right 1
    rotate_right 4
    rotate_left 6
    (refine ka 7 hst tz61 rfl rfl ?_; clear hst; intro b7 w hb7 hst); (try simp only [pz, pn, sz, sc]); refine re ?_
    refine r2 6 9 ?_ ?_
    (refine kf gf14 hst (hvb) rfl rfl rfl rfl ?_; clear hst; intro w hst); (try simp only [pz, pn, sz, sc]); refine re ?_
    refine r2 7 9 ?_ ?_
    (refine kN (o := ⟨some 19, _, _, _, _, _⟩) gf26 hst (fun w hst => hob w) rfl rfl rfl rfl ?_; clear hst; intro v19 Lg19 w hn19 hR19 hst; (try simp only [List.cons_append, List.nil_append, List.append_nil, List.append_assoc] at hst); obtain ⟨s19, rfl, hb19⟩ := hR19; obtain ⟨a19, x19, y19, rfl⟩ := hb19.slice); (try simp only [pz, pn, sz, sc]); refine re ?_
    refine r1 9 ?_; (refine ka 8 hst tz61 rfl rfl ?_; clear hst; intro b8 w hb8 hst); (try simp only [pz, pn, sz, sc]); refine re ?_
    refine r1 10 ?_; (refine kt hst ta61 rfl rfl ?_; clear hst; intro w hst); (try simp only [pz, pn, sz, sc]); refine re ?_
    refine r1 11 ?_; (refine kt hst ta61 rfl rfl ?_; clear hst; intro w hst); (try simp only [pz, pn, sz, sc]); refine re ?_
    refine rd_ ?_
    rotate_left 1
    (refine ka 8 hst tz61 rfl rfl ?_; clear hst; intro b8 w hb8 hst); (try simp only [pz, pn, sz, sc]); refine re ?_
    refine r1 7 ?_; (refine kN (o := ⟨some 19, _, _, _, _, _⟩) gf26 hst (fun w hst => hob w) rfl rfl rfl rfl ?_; clear hst; intro v19 Lg19 w hn19 hR19 hst; (try simp only [List.cons_append, List.nil_append, List.append_nil, List.append_assoc] at hst); obtain ⟨s19, rfl, hb19⟩ := hR19; obtain ⟨a19, x19, y19, rfl⟩ := hb19.slice); (try simp only [pz, pn, sz, sc]); refine re ?_
    refine r1 10 ?_; (refine kt hst ta61 rfl rfl ?_; clear hst; intro w hst); (try simp only [pz, pn, sz, sc]); refine re ?_
    refine r1 11 ?_; (refine kt hst ta61 rfl rfl ?_; clear hst; intro w hst); (try simp only [pz, pn, sz, sc]); refine re ?_
    refine rd_ ?_
    rotate_right 1
    rotate_left 2
    (refine ka 8 hst tz61 rfl rfl ?_; clear hst; intro b8 w hb8 hst); (try simp only [pz, pn, sz, sc]); refine re ?_
    refine r1 6 ?_; (refine kf gf14 hst (hvb) rfl rfl rfl rfl ?_; clear hst; intro w hst); (try simp only [pz, pn, sz, sc]); refine re ?_
    refine r1 7 ?_; (refine kN (o := ⟨some 19, _, _, _, _, _⟩) gf26 hst (fun w hst => hob w) rfl rfl rfl rfl ?_; clear hst; intro v19 Lg19 w hn19 hR19 hst; (try simp only [List.cons_append, List.nil_append, List.append_nil, List.append_assoc] at hst); obtain ⟨s19, rfl, hb19⟩ := hR19; obtain ⟨a19, x19, y19, rfl⟩ := hb19.slice); (try simp only [pz, pn, sz, sc]); refine re ?_
    refine r1 10 ?_; (refine kt hst ta61 rfl rfl ?_; clear hst; intro w hst); (try simp only [pz, pn, sz, sc]); refine re ?_
    refine r1 11 ?_; (refine kt hst ta61 rfl rfl ?_; clear hst; intro w hst); (try simp only [pz, pn, sz, sc]); refine re ?_
    refine rd_ ?_
    rotate_right 2
    rotate_left 3
    (refine ka 8 hst tz61 rfl rfl ?_; clear hst; intro b8 w hb8 hst); (try simp only [pz, pn, sz, sc]); refine re ?_
    refine r2 6 8 ?_ ?_
    (refine kf gf14 hst (hvb) rfl rfl rfl rfl ?_; clear hst; intro w hst); (try simp only [pz, pn, sz, sc]); refine re ?_
    refine r2 7 8 ?_ ?_
    (refine kN (o := ⟨some 19, _, _, _, _, _⟩) gf26 hst (fun w hst => hob w) rfl rfl rfl rfl ?_; clear hst; intro v19 Lg19 w hn19 hR19 hst; (try simp only [List.cons_append, List.nil_append, List.append_nil, List.append_assoc] at hst); obtain ⟨s19, rfl, hb19⟩ := hR19; obtain ⟨a19, x19, y19, rfl⟩ := hb19.slice); (try simp only [pz, pn, sz, sc]); refine re ?_
    refine r1 8 ?_; (refine ka 7 hst tz61 rfl rfl ?_; clear hst; intro b7 w hb7 hst); (try simp only [pz, pn, sz, sc]); refine re ?_
    refine r1 10 ?_; (refine kt hst ta61 rfl rfl ?_; clear hst; intro w hst); (try simp only [pz, pn, sz, sc]); refine re ?_
    refine r1 11 ?_; (refine kt hst ta61 rfl rfl ?_; clear hst; intro w hst); (try simp only [pz, pn, sz, sc]); refine re ?_
    refine rd_ ?_
    rotate_left 1
    (refine ka 7 hst tz61 rfl rfl ?_; clear hst; intro b7 w hb7 hst); (try simp only [pz, pn, sz, sc]); refine re ?_
    refine r1 7 ?_; (refine kN (o := ⟨some 19, _, _, _, _, _⟩) gf26 hst (fun w hst => hob w) rfl rfl rfl rfl ?_; clear hst; intro v19 Lg19 w hn19 hR19 hst; (try simp only [List.cons_append, List.nil_append, List.append_nil, List.append_assoc] at hst); obtain ⟨s19, rfl, hb19⟩ := hR19; obtain ⟨a19, x19, y19, rfl⟩ := hb19.slice); (try simp only [pz, pn, sz, sc]); refine re ?_
    refine r1 10 ?_; (refine kt hst ta61 rfl rfl ?_; clear hst; intro w hst); (try simp only [pz, pn, sz, sc]); refine re ?_
    refine r1 11 ?_; (refine kt hst ta61 rfl rfl ?_; clear hst; intro w hst); (try simp only [pz, pn, sz, sc]); refine re ?_
    refine rd_ ?_
    rotate_right 1
    rotate_left 2
    (refine ka 7 hst tz61 rfl rfl ?_; clear hst; intro b7 w hb7 hst); (try simp only [pz, pn, sz, sc]); refine re ?_
    refine r1 6 ?_; (refine kf gf14 hst (hvb) rfl rfl rfl rfl ?_; clear hst; intro w hst); (try simp only [pz, pn, sz, sc]); refine re ?_
    refine r1 7 ?_; (refine kN (o := ⟨some 19, _, _, _, _, _⟩) gf26 hst (fun w hst => hob w) rfl rfl rfl rfl ?_; clear hst; intro v19 Lg19 w hn19 hR19 hst; (try simp only [List.cons_append, List.nil_append, List.append_nil, List.append_assoc] at hst); obtain ⟨s19, rfl, hb19⟩ := hR19; obtain ⟨a19, x19, y19, rfl⟩ := hb19.slice); (try simp only [pz, pn, sz, sc]); refine re ?_
    refine r1 10 ?_; (refine kt hst ta61 rfl rfl ?_; clear hst; intro w hst); (try simp only [pz, pn, sz, sc]); refine re ?_
    refine r1 11 ?_; (refine kt hst ta61 rfl rfl ?_; clear hst; intro w hst); (try simp only [pz, pn, sz, sc]); refine re ?_
    refine rd_ ?_
    rotate_right 2
    rotate_right 9
    rotate_left 12
    (refine ka 7 hst tz61 rfl rfl ?_; clear hst; intro b7 w hb7 hst); (try simp only [pz, pn, sz, sc]); refine re ?_
    refine r2 3 9 ?_ ?_
    (refine kN (o := ⟨some 15, _, _, _, _, _⟩) gf26 hst (fun w hst => hoa w) rfl rfl rfl rfl ?_; clear hst; intro v15 Lg15 w hn15 hR15 hst; (try simp only [List.cons_append, List.nil_append, List.append_nil, List.append_assoc] at hst); obtain ⟨s15, rfl, hb15⟩ := hR15; obtain ⟨a15, x15, y15, rfl⟩ := hb15.slice); (try simp only [pz, pn, sz, sc]); refine re ?_
    refine r2 6 9 ?_ ?_
    (refine kf gf14 hst (hvb) rfl rfl rfl rfl ?_; clear hst; intro w hst); (try simp only [pz, pn, sz, sc]); refine re ?_
    refine r2 7 9 ?_ ?_
    (refine kN (o := ⟨some 19, _, _, _, _, _⟩) gf26 hst (fun w hst => hob w) rfl rfl rfl rfl ?_; clear hst; intro v19 Lg19 w hn19 hR19 hst; (try simp only [List.cons_append, List.nil_append, List.append_nil, List.append_assoc] at hst); obtain ⟨s19, rfl, hb19⟩ := hR19; obtain ⟨a19, x19, y19, rfl⟩ := hb19.slice); (try simp only [pz, pn, sz, sc]); refine re ?_
    refine r1 9 ?_; (refine ka 8 hst tz61 rfl rfl ?_; clear hst; intro b8 w hb8 hst); (try simp only [pz, pn, sz, sc]); refine re ?_
    refine r1 10 ?_; (refine kt hst ta61 rfl rfl ?_; clear hst; intro w hst); (try simp only [pz, pn, sz, sc]); refine re ?_
    refine r1 11 ?_; (refine kt hst ta61 rfl rfl ?_; clear hst; intro w hst); (try simp only [pz, pn, sz, sc]); refine re ?_
    refine rd_ ?_
    rotate_left 1
    (refine ka 8 hst tz61 rfl rfl ?_; clear hst; intro b8 w hb8 hst); (try simp only [pz, pn, sz, sc]); refine re ?_
    refine r1 7 ?_; (refine kN (o := ⟨some 19, _, _, _, _, _⟩) gf26 hst (fun w hst => hob w) rfl rfl rfl rfl ?_; clear hst; intro v19 Lg19 w hn19 hR19 hst; (try simp only [List.cons_append, List.nil_append, List.append_nil, List.append_assoc] at hst); obtain ⟨s19, rfl, hb19⟩ := hR19; obtain ⟨a19, x19, y19, rfl⟩ := hb19.slice); (try simp only [pz, pn, sz, sc]); refine re ?_
    refine r1 10 ?_; (refine kt hst ta61 rfl rfl ?_; clear hst; intro w hst); (try simp only [pz, pn, sz, sc]); refine re ?_
    refine r1 11 ?_; (refine kt hst ta61 rfl rfl ?_; clear hst; intro w hst); (try simp only [pz, pn, sz, sc]); refine re ?_
    refine rd_ ?_
    rotate_right 1
    rotate_left 2
    (refine ka 8 hst tz61 rfl rfl ?_; clear hst; intro b8 w hb8 hst); (try simp only [pz, pn, sz, sc]); refine re ?_
    refine r1 6 ?_; (refine kf gf14 hst (hvb) rfl rfl rfl rfl ?_; clear hst; intro w hst); (try simp only [pz, pn, sz, sc]); refine re ?_
    refine r1 7 ?_; (refine kN (o := ⟨some 19, _, _, _, _, _⟩) gf26 hst (fun w hst => hob w) rfl rfl rfl rfl ?_; clear hst; intro v19 Lg19 w hn19 hR19 hst; (try simp only [List.cons_append, List.nil_append, List.append_nil, List.append_assoc] at hst); obtain ⟨s19, rfl, hb19⟩ := hR19; obtain ⟨a19, x19, y19, rfl⟩ := hb19.slice); (try simp only [pz, pn, sz, sc]); refine re ?_
    refine r1 10 ?_; (refine kt hst ta61 rfl rfl ?_; clear hst; intro w hst); (try simp only [pz, pn, sz, sc]); refine re ?_
    refine r1 11 ?_; (refine kt hst ta61 rfl rfl ?_; clear hst; intro w hst); (try simp only [pz, pn, sz, sc]); refine re ?_
    refine rd_ ?_
    rotate_right 2
    rotate_left 3
    (refine ka 8 hst tz61 rfl rfl ?_; clear hst; intro b8 w hb8 hst); (try simp only [pz, pn, sz, sc]); refine re ?_
    refine r1 3 ?_; (refine kN (o := ⟨some 15, _, _, _, _, _⟩) gf26 hst (fun w hst => hoa w) rfl rfl rfl rfl ?_; clear hst; intro v15 Lg15 w hn15 hR15 hst; (try simp only [List.cons_append, List.nil_append, List.append_nil, List.append_assoc] at hst); obtain ⟨s15, rfl, hb15⟩ := hR15; obtain ⟨a15, x15, y15, rfl⟩ := hb15.slice); (try simp only [pz, pn, sz, sc]); refine re ?_
    refine r1 6 ?_; (refine kf gf14 hst (hvb) rfl rfl rfl rfl ?_; clear hst; intro w hst); (try simp only [pz, pn, sz, sc]); refine re ?_
    refine r1 7 ?_; (refine kN (o := ⟨some 19, _, _, _, _, _⟩) gf26 hst (fun w hst => hob w) rfl rfl rfl rfl ?_; clear hst; intro v19 Lg19 w hn19 hR19 hst; (try simp only [List.cons_append, List.nil_append, List.append_nil, List.append_assoc] at hst); obtain ⟨s19, rfl, hb19⟩ := hR19; obtain ⟨a19, x19, y19, rfl⟩ := hb19.slice); (try simp only [pz, pn, sz, sc]); refine re ?_
    refine r1 10 ?_; (refine kt hst ta61 rfl rfl ?_; clear hst; intro w hst); (try simp only [pz, pn, sz, sc]); refine re ?_
    refine r1 11 ?_; (refine kt hst ta61 rfl rfl ?_; clear hst; intro w hst); (try simp only [pz, pn, sz, sc]); refine re ?_
    refine rd_ ?_
    rotate_right 3
    rotate_left 4
    (refine ka 8 hst tz61 rfl rfl ?_; clear hst; intro b8 w hb8 hst); (try simp only [pz, pn, sz, sc]); refine re ?_
    refine r2 3 8 ?_ ?_
    (refine kN (o := ⟨some 15, _, _, _, _, _⟩) gf26 hst (fun w hst => hoa w) rfl rfl rfl rfl ?_; clear hst; intro v15 Lg15 w hn15 hR15 hst; (try simp only [List.cons_append, List.nil_append, List.append_nil, List.append_assoc] at hst); obtain ⟨s15, rfl, hb15⟩ := hR15; obtain ⟨a15, x15, y15, rfl⟩ := hb15.slice); (try simp only [pz, pn, sz, sc]); refine re ?_
    refine r2 6 8 ?_ ?_
    (refine kf gf14 hst (hvb) rfl rfl rfl rfl ?_; clear hst; intro w hst); (try simp only [pz, pn, sz, sc]); refine re ?_
    refine r2 7 8 ?_ ?_
    (refine kN (o := ⟨some 19, _, _, _, _, _⟩) gf26 hst (fun w hst => hob w) rfl rfl rfl rfl ?_; clear hst; intro v19 Lg19 w hn19 hR19 hst; (try simp only [List.cons_append, List.nil_append, List.append_nil, List.append_assoc] at hst); obtain ⟨s19, rfl, hb19⟩ := hR19; obtain ⟨a19, x19, y19, rfl⟩ := hb19.slice); (try simp only [pz, pn, sz, sc]); refine re ?_
    refine r1 8 ?_; (refine ka 7 hst tz61 rfl rfl ?_; clear hst; intro b7 w hb7 hst); (try simp only [pz, pn, sz, sc]); refine re ?_
    refine r1 10 ?_; (refine kt hst ta61 rfl rfl ?_; clear hst; intro w hst); (try simp only [pz, pn, sz, sc]); refine re ?_
    refine r1 11 ?_; (refine kt hst ta61 rfl rfl ?_; clear hst; intro w hst); (try simp only [pz, pn, sz, sc]); refine re ?_
    refine rd_ ?_
    rotate_left 1
    (refine ka 7 hst tz61 rfl rfl ?_; clear hst; intro b7 w hb7 hst); (try simp only [pz, pn, sz, sc]); refine re ?_
    refine r1 7 ?_; (refine kN (o := ⟨some 19, _, _, _, _, _⟩) gf26 hst (fun w hst => hob w) rfl rfl rfl rfl ?_; clear hst; intro v19 Lg19 w hn19 hR19 hst; (try simp only [List.cons_append, List.nil_append, List.append_nil, List.append_assoc] at hst); obtain ⟨s19, rfl, hb19⟩ := hR19; obtain ⟨a19, x19, y19, rfl⟩ := hb19.slice); (try simp only [pz, pn, sz, sc]); refine re ?_
    refine r1 10 ?_; (refine kt hst ta61 rfl rfl ?_; clear hst; intro w hst); (try simp only [pz, pn, sz, sc]); refine re ?_
    refine r1 11 ?_; (refine kt hst ta61 rfl rfl ?_; clear hst; intro w hst); (try simp only [pz, pn, sz, sc]); refine re ?_
    refine rd_ ?_
    rotate_right 1
    rotate_left 2
    (refine ka 7 hst tz61 rfl rfl ?_; clear hst; intro b7 w hb7 hst); (try simp only [pz, pn, sz, sc]); refine re ?_
    refine r1 6 ?_; (refine kf gf14 hst (hvb) rfl rfl rfl rfl ?_; clear hst; intro w hst); (try simp only [pz, pn, sz, sc]); refine re ?_
    refine r1 7 ?_; (refine kN (o := ⟨some 19, _, _, _, _, _⟩) gf26 hst (fun w hst => hob w) rfl rfl rfl rfl ?_; clear hst; intro v19 Lg19 w hn19 hR19 hst; (try simp only [List.cons_append, List.nil_append, List.append_nil, List.append_assoc] at hst); obtain ⟨s19, rfl, hb19⟩ := hR19; obtain ⟨a19, x19, y19, rfl⟩ := hb19.slice); (try simp only [pz, pn, sz, sc]); refine re ?_
    refine r1 10 ?_; (refine kt hst ta61 rfl rfl ?_; clear hst; intro w hst); (try simp only [pz, pn, sz, sc]); refine re ?_
    refine r1 11 ?_; (refine kt hst ta61 rfl rfl ?_; clear hst; intro w hst); (try simp only [pz, pn, sz, sc]); refine re ?_
    refine rd_ ?_
    rotate_right 2
    rotate_left 3
    (refine ka 7 hst tz61 rfl rfl ?_; clear hst; intro b7 w hb7 hst); (try simp only [pz, pn, sz, sc]); refine re ?_
    refine r1 3 ?_; (refine kN (o := ⟨some 15, _, _, _, _, _⟩) gf26 hst (fun w hst => hoa w) rfl rfl rfl rfl ?_; clear hst; intro v15 Lg15 w hn15 hR15 hst; (try simp only [List.cons_append, List.nil_append, List.append_nil, List.append_assoc] at hst); obtain ⟨s15, rfl, hb15⟩ := hR15; obtain ⟨a15, x15, y15, rfl⟩ := hb15.slice); (try simp only [pz, pn, sz, sc]); refine re ?_
    refine r1 6 ?_; (refine kf gf14 hst (hvb) rfl rfl rfl rfl ?_; clear hst; intro w hst); (try simp only [pz, pn, sz, sc]); refine re ?_
    refine r1 7 ?_; (refine kN (o := ⟨some 19, _, _, _, _, _⟩) gf26 hst (fun w hst => hob w) rfl rfl rfl rfl ?_; clear hst; intro v19 Lg19 w hn19 hR19 hst; (try simp only [List.cons_append, List.nil_append, List.append_nil, List.append_assoc] at hst); obtain ⟨s19, rfl, hb19⟩ := hR19; obtain ⟨a19, x19, y19, rfl⟩ := hb19.slice); (try simp only [pz, pn, sz, sc]); refine re ?_
    refine r1 10 ?_; (refine kt hst ta61 rfl rfl ?_; clear hst; intro w hst); (try simp only [pz, pn, sz, sc]); refine re ?_
    refine r1 11 ?_; (refine kt hst ta61 rfl rfl ?_; clear hst; intro w hst); (try simp only [pz, pn, sz, sc]); refine re ?_
    refine rd_ ?_
    rotate_right 3
    rotate_right 16
    rotate_left 20
    (refine ka 7 hst tz61 rfl rfl ?_; clear hst; intro b7 w hb7 hst); (try simp only [pz, pn, sz, sc]); refine re ?_
    refine r2 2 9 ?_ ?_
    (refine kf gf14 hst (hva) rfl rfl rfl rfl ?_; clear hst; intro w hst); (try simp only [pz, pn, sz, sc]); refine re ?_
    refine r2 3 9 ?_ ?_
    (refine kN (o := ⟨some 15, _, _, _, _, _⟩) gf26 hst (fun w hst => hoa w) rfl rfl rfl rfl ?_; clear hst; intro v15 Lg15 w hn15 hR15 hst; (try simp only [List.cons_append, List.nil_append, List.append_nil, List.append_assoc] at hst); obtain ⟨s15, rfl, hb15⟩ := hR15; obtain ⟨a15, x15, y15, rfl⟩ := hb15.slice); (try simp only [pz, pn, sz, sc]); refine re ?_
    refine r2 6 9 ?_ ?_
    (refine kf gf14 hst (hvb) rfl rfl rfl rfl ?_; clear hst; intro w hst); (try simp only [pz, pn, sz, sc]); refine re ?_
    refine r2 7 9 ?_ ?_
    (refine kN (o := ⟨some 19, _, _, _, _, _⟩) gf26 hst (fun w hst => hob w) rfl rfl rfl rfl ?_; clear hst; intro v19 Lg19 w hn19 hR19 hst; (try simp only [List.cons_append, List.nil_append, List.append_nil, List.append_assoc] at hst); obtain ⟨s19, rfl, hb19⟩ := hR19; obtain ⟨a19, x19, y19, rfl⟩ := hb19.slice); (try simp only [pz, pn, sz, sc]); refine re ?_
    refine r1 9 ?_; (refine ka 8 hst tz61 rfl rfl ?_; clear hst; intro b8 w hb8 hst); (try simp only [pz, pn, sz, sc]); refine re ?_
    refine r1 10 ?_; (refine kt hst ta61 rfl rfl ?_; clear hst; intro w hst); (try simp only [pz, pn, sz, sc]); refine re ?_
    refine r1 11 ?_; (refine kt hst ta61 rfl rfl ?_; clear hst; intro w hst); (try simp only [pz, pn, sz, sc]); refine re ?_
    refine rd_ ?_
    rotate_left 1
    (refine ka 8 hst tz61 rfl rfl ?_; clear hst; intro b8 w hb8 hst); (try simp only [pz, pn, sz, sc]); refine re ?_
    refine r1 7 ?_; (refine kN (o := ⟨some 19, _, _, _, _, _⟩) gf26 hst (fun w hst => hob w) rfl rfl rfl rfl ?_; clear hst; intro v19 Lg19 w hn19 hR19 hst; (try simp only [List.cons_append, List.nil_append, List.append_nil, List.append_assoc] at hst); obtain ⟨s19, rfl, hb19⟩ := hR19; obtain ⟨a19, x19, y19, rfl⟩ := hb19.slice); (try simp only [pz, pn, sz, sc]); refine re ?_
    refine r1 10 ?_; (refine kt hst ta61 rfl rfl ?_; clear hst; intro w hst); (try simp only [pz, pn, sz, sc]); refine re ?_
    refine r1 11 ?_; (refine kt hst ta61 rfl rfl ?_; clear hst; intro w hst); (try simp only [pz, pn, sz, sc]); refine re ?_
    refine rd_ ?_
    rotate_right 1
    rotate_left 2
    (refine ka 8 hst tz61 rfl rfl ?_; clear hst; intro b8 w hb8 hst); (try simp only [pz, pn, sz, sc]); refine re ?_
    refine r1 6 ?_; (refine kf gf14 hst (hvb) rfl rfl rfl rfl ?_; clear hst; intro w hst); (try simp only [pz, pn, sz, sc]); refine re ?_
    refine r1 7 ?_; (refine kN (o := ⟨some 19, _, _, _, _, _⟩) gf26 hst (fun w hst => hob w) rfl rfl rfl rfl ?_; clear hst; intro v19 Lg19 w hn19 hR19 hst; (try simp only [List.cons_append, List.nil_append, List.append_nil, List.append_assoc] at hst); obtain ⟨s19, rfl, hb19⟩ := hR19; obtain ⟨a19, x19, y19, rfl⟩ := hb19.slice); (try simp only [pz, pn, sz, sc]); refine re ?_
    refine r1 10 ?_; (refine kt hst ta61 rfl rfl ?_; clear hst; intro w hst); (try simp only [pz, pn, sz, sc]); refine re ?_
    refine r1 11 ?_; (refine kt hst ta61 rfl rfl ?_; clear hst; intro w hst); (try simp only [pz, pn, sz, sc]); refine re ?_
    refine rd_ ?_
    rotate_right 2
    rotate_left 3
    (refine ka 8 hst tz61 rfl rfl ?_; clear hst; intro b8 w hb8 hst); (try simp only [pz, pn, sz, sc]); refine re ?_
    refine r1 3 ?_; (refine kN (o := ⟨some 15, _, _, _, _, _⟩) gf26 hst (fun w hst => hoa w) rfl rfl rfl rfl ?_; clear hst; intro v15 Lg15 w hn15 hR15 hst; (try simp only [List.cons_append, List.nil_append, List.append_nil, List.append_assoc] at hst); obtain ⟨s15, rfl, hb15⟩ := hR15; obtain ⟨a15, x15, y15, rfl⟩ := hb15.slice); (try simp only [pz, pn, sz, sc]); refine re ?_
    refine r1 6 ?_; (refine kf gf14 hst (hvb) rfl rfl rfl rfl ?_; clear hst; intro w hst); (try simp only [pz, pn, sz, sc]); refine re ?_
    refine r1 7 ?_; (refine kN (o := ⟨some 19, _, _, _, _, _⟩) gf26 hst (fun w hst => hob w) rfl rfl rfl rfl ?_; clear hst; intro v19 Lg19 w hn19 hR19 hst; (try simp only [List.cons_append, List.nil_append, List.append_nil, List.append_assoc] at hst); obtain ⟨s19, rfl, hb19⟩ := hR19; obtain ⟨a19, x19, y19, rfl⟩ := hb19.slice); (try simp only [pz, pn, sz, sc]); refine re ?_
    refine r1 10 ?_; (refine kt hst ta61 rfl rfl ?_; clear hst; intro w hst); (try simp only [pz, pn, sz, sc]); refine re ?_
    refine r1 11 ?_; (refine kt hst ta61 rfl rfl ?_; clear hst; intro w hst); (try simp only [pz, pn, sz, sc]); refine re ?_
    refine rd_ ?_
    rotate_right 3
    rotate_left 4
    (refine ka 8 hst tz61 rfl rfl ?_; clear hst; intro b8 w hb8 hst); (try simp only [pz, pn, sz, sc]); refine re ?_
    refine r1 2 ?_; (refine kf gf14 hst (hva) rfl rfl rfl rfl ?_; clear hst; intro w hst); (try simp only [pz, pn, sz, sc]); refine re ?_
    refine r1 3 ?_; (refine kN (o := ⟨some 15, _, _, _, _, _⟩) gf26 hst (fun w hst => hoa w) rfl rfl rfl rfl ?_; clear hst; intro v15 Lg15 w hn15 hR15 hst; (try simp only [List.cons_append, List.nil_append, List.append_nil, List.append_assoc] at hst); obtain ⟨s15, rfl, hb15⟩ := hR15; obtain ⟨a15, x15, y15, rfl⟩ := hb15.slice); (try simp only [pz, pn, sz, sc]); refine re ?_
    refine r1 6 ?_; (refine kf gf14 hst (hvb) rfl rfl rfl rfl ?_; clear hst; intro w hst); (try simp only [pz, pn, sz, sc]); refine re ?_
    refine r1 7 ?_; (refine kN (o := ⟨some 19, _, _, _, _, _⟩) gf26 hst (fun w hst => hob w) rfl rfl rfl rfl ?_; clear hst; intro v19 Lg19 w hn19 hR19 hst; (try simp only [List.cons_append, List.nil_append, List.append_nil, List.append_assoc] at hst); obtain ⟨s19, rfl, hb19⟩ := hR19; obtain ⟨a19, x19, y19, rfl⟩ := hb19.slice); (try simp only [pz, pn, sz, sc]); refine re ?_
    refine r1 10 ?_; (refine kt hst ta61 rfl rfl ?_; clear hst; intro w hst); (try simp only [pz, pn, sz, sc]); refine re ?_
    refine r1 11 ?_; (refine kt hst ta61 rfl rfl ?_; clear hst; intro w hst); (try simp only [pz, pn, sz, sc]); refine re ?_
    refine rd_ ?_
    rotate_right 4
    rotate_left 5
    (refine ka 8 hst tz61 rfl rfl ?_; clear hst; intro b8 w hb8 hst); (try simp only [pz, pn, sz, sc]); refine re ?_
    refine r2 2 8 ?_ ?_
    (refine kf gf14 hst (hva) rfl rfl rfl rfl ?_; clear hst; intro w hst); (try simp only [pz, pn, sz, sc]); refine re ?_
    refine r2 3 8 ?_ ?_
    (refine kN (o := ⟨some 15, _, _, _, _, _⟩) gf26 hst (fun w hst => hoa w) rfl rfl rfl rfl ?_; clear hst; intro v15 Lg15 w hn15 hR15 hst; (try simp only [List.cons_append, List.nil_append, List.append_nil, List.append_assoc] at hst); obtain ⟨s15, rfl, hb15⟩ := hR15; obtain ⟨a15, x15, y15, rfl⟩ := hb15.slice); (try simp only [pz, pn, sz, sc]); refine re ?_
    refine r2 6 8 ?_ ?_
    (refine kf gf14 hst (hvb) rfl rfl rfl rfl ?_; clear hst; intro w hst); (try simp only [pz, pn, sz, sc]); refine re ?_
    refine r2 7 8 ?_ ?_
    (refine kN (o := ⟨some 19, _, _, _, _, _⟩) gf26 hst (fun w hst => hob w) rfl rfl rfl rfl ?_; clear hst; intro v19 Lg19 w hn19 hR19 hst; (try simp only [List.cons_append, List.nil_append, List.append_nil, List.append_assoc] at hst); obtain ⟨s19, rfl, hb19⟩ := hR19; obtain ⟨a19, x19, y19, rfl⟩ := hb19.slice); (try simp only [pz, pn, sz, sc]); refine re ?_
    refine r1 8 ?_; (refine ka 7 hst tz61 rfl rfl ?_; clear hst; intro b7 w hb7 hst); (try simp only [pz, pn, sz, sc]); refine re ?_
    refine r1 10 ?_; (refine kt hst ta61 rfl rfl ?_; clear hst; intro w hst); (try simp only [pz, pn, sz, sc]); refine re ?_
    refine r1 11 ?_; (refine kt hst ta61 rfl rfl ?_; clear hst; intro w hst); (try simp only [pz, pn, sz, sc]); refine re ?_
    refine rd_ ?_
    rotate_left 1
    (refine ka 7 hst tz61 rfl rfl ?_; clear hst; intro b7 w hb7 hst); (try simp only [pz, pn, sz, sc]); refine re ?_
    refine r1 7 ?_; (refine kN (o := ⟨some 19, _, _, _, _, _⟩) gf26 hst (fun w hst => hob w) rfl rfl rfl rfl ?_; clear hst; intro v19 Lg19 w hn19 hR19 hst; (try simp only [List.cons_append, List.nil_append, List.append_nil, List.append_assoc] at hst); obtain ⟨s19, rfl, hb19⟩ := hR19; obtain ⟨a19, x19, y19, rfl⟩ := hb19.slice); (try simp only [pz, pn, sz, sc]); refine re ?_
    refine r1 10 ?_; (refine kt hst ta61 rfl rfl ?_; clear hst; intro w hst); (try simp only [pz, pn, sz, sc]); refine re ?_
    refine r1 11 ?_; (refine kt hst ta61 rfl rfl ?_; clear hst; intro w hst); (try simp only [pz, pn, sz, sc]); refine re ?_
    refine rd_ ?_
    rotate_right 1
    rotate_left 2
    (refine ka 7 hst tz61 rfl rfl ?_; clear hst; intro b7 w hb7 hst); (try simp only [pz, pn, sz, sc]); refine re ?_
    refine r1 6 ?_; (refine kf gf14 hst (hvb) rfl rfl rfl rfl ?_; clear hst; intro w hst); (try simp only [pz, pn, sz, sc]); refine re ?_
    refine r1 7 ?_; (refine kN (o := ⟨some 19, _, _, _, _, _⟩) gf26 hst (fun w hst => hob w) rfl rfl rfl rfl ?_; clear hst; intro v19 Lg19 w hn19 hR19 hst; (try simp only [List.cons_append, List.nil_append, List.append_nil, List.append_assoc] at hst); obtain ⟨s19, rfl, hb19⟩ := hR19; obtain ⟨a19, x19, y19, rfl⟩ := hb19.slice); (try simp only [pz, pn, sz, sc]); refine re ?_
    refine r1 10 ?_; (refine kt hst ta61 rfl rfl ?_; clear hst; intro w hst); (try simp only [pz, pn, sz, sc]); refine re ?_
    refine r1 11 ?_; (refine kt hst ta61 rfl rfl ?_; clear hst; intro w hst); (try simp only [pz, pn, sz, sc]); refine re ?_
    refine rd_ ?_
    rotate_right 2
    rotate_left 3
    (refine ka 7 hst tz61 rfl rfl ?_; clear hst; intro b7 w hb7 hst); (try simp only [pz, pn, sz, sc]); refine re ?_
    refine r1 3 ?_; (refine kN (o := ⟨some 15, _, _, _, _, _⟩) gf26 hst (fun w hst => hoa w) rfl rfl rfl rfl ?_; clear hst; intro v15 Lg15 w hn15 hR15 hst; (try simp only [List.cons_append, List.nil_append, List.append_nil, List.append_assoc] at hst); obtain ⟨s15, rfl, hb15⟩ := hR15; obtain ⟨a15, x15, y15, rfl⟩ := hb15.slice); (try simp only [pz, pn, sz, sc]); refine re ?_
    refine r1 6 ?_; (refine kf gf14 hst (hvb) rfl rfl rfl rfl ?_; clear hst; intro w hst); (try simp only [pz, pn, sz, sc]); refine re ?_
    refine r1 7 ?_; (refine kN (o := ⟨some 19, _, _, _, _, _⟩) gf26 hst (fun w hst => hob w) rfl rfl rfl rfl ?_; clear hst; intro v19 Lg19 w hn19 hR19 hst; (try simp only [List.cons_append, List.nil_append, List.append_nil, List.append_assoc] at hst); obtain ⟨s19, rfl, hb19⟩ := hR19; obtain ⟨a19, x19, y19, rfl⟩ := hb19.slice); (try simp only [pz, pn, sz, sc]); refine re ?_
    refine r1 10 ?_; (refine kt hst ta61 rfl rfl ?_; clear hst; intro w hst); (try simp only [pz, pn, sz, sc]); refine re ?_
    refine r1 11 ?_; (refine kt hst ta61 rfl rfl ?_; clear hst; intro w hst); (try simp only [pz, pn, sz, sc]); refine re ?_
    refine rd_ ?_
    rotate_right 3
    rotate_left 4
    (refine ka 7 hst tz61 rfl rfl ?_; clear hst; intro b7 w hb7 hst); (try simp only [pz, pn, sz, sc]); refine re ?_
    refine r1 2 ?_; (refine kf gf14 hst (hva) rfl rfl rfl rfl ?_; clear hst; intro w hst); (try simp only [pz, pn, sz, sc]); refine re ?_
    refine r1 3 ?_; (refine kN (o := ⟨some 15, _, _, _, _, _⟩) gf26 hst (fun w hst => hoa w) rfl rfl rfl rfl ?_; clear hst; intro v15 Lg15 w hn15 hR15 hst; (try simp only [List.cons_append, List.nil_append, List.append_nil, List.append_assoc] at hst); obtain ⟨s15, rfl, hb15⟩ := hR15; obtain ⟨a15, x15, y15, rfl⟩ := hb15.slice); (try simp only [pz, pn, sz, sc]); refine re ?_
    refine r1 6 ?_; (refine kf gf14 hst (hvb) rfl rfl rfl rfl ?_; clear hst; intro w hst); (try simp only [pz, pn, sz, sc]); refine re ?_
    refine r1 7 ?_; (refine kN (o := ⟨some 19, _, _, _, _, _⟩) gf26 hst (fun w hst => hob w) rfl rfl rfl rfl ?_; clear hst; intro v19 Lg19 w hn19 hR19 hst; (try simp only [List.cons_append, List.nil_append, List.append_nil, List.append_assoc] at hst); obtain ⟨s19, rfl, hb19⟩ := hR19; obtain ⟨a19, x19, y19, rfl⟩ := hb19.slice); (try simp only [pz, pn, sz, sc]); refine re ?_
    refine r1 10 ?_; (refine kt hst ta61 rfl rfl ?_; clear hst; intro w hst); (try simp only [pz, pn, sz, sc]); refine re ?_
    refine r1 11 ?_; (refine kt hst ta61 rfl rfl ?_; clear hst; intro w hst); (try simp only [pz, pn, sz, sc]); refine re ?_
    refine rd_ ?_
    rotate_right 4
    rotate_right 25
    all_goals
      go_wp2_with fail
      go_meet
      exact ⟨b7, b8, a15, x15, y15, a19, x19, y19, Lg15, Lg19, rfl, rfl, hb7, hb8, hb15, hb19, ((((hst.front (b6, _) (by repeat (first | exact Out.head | apply Out.tail | apply Out.app))).front (b7, _) (by repeat (first | exact Out.head | apply Out.tail | apply Out.app))).front (b8, _) (by repeat (first | exact Out.head | apply Out.tail | apply Out.app)))).sub (by repeat (first | exact List.Sublist.refl _ | exact List.nil_sublist _ | refine List.Sublist.cons_cons _ ?_ | refine List.Sublist.cons _ ?_))⟩
  case rest =>
    obtain ⟨b7, b8, a15, x15, y15, a19, x19, y19, Lg15, Lg19, rfl, rfl, hb7, hb8, hb15, hb19, hst⟩ := hcut
    go_wp2_with ((first | (refine kc hst tc3 rfl ?_)); try simp only [pz, pn, sz, sc])
    refine wp_region_TV 16 [(b8, .cells #[.bool ngb, .slice a19 x19 y19, .int .i64 exb] 61), (b7, .cells #[.bool nga, .slice a15 x15 y15, .int .i64 exa] 61)] hst (by kernel_rfl) ?_; clear hst; intro w hst; (try simp only [List.length_cons, List.length_nil, Nat.reduceAdd, Array.replicate_succ, Array.replicate_zero, List.push_toArray, List.nil_append, List.cons_append])
    refine r0 0 ?_; simp only [pz, pn, sz, sc, W1, W2]
    refine r0 2 ?_; simp only [pz, pn, sz, sc, W1, W2]
    refine r0 4 ?_; simp only [pz, pn, sz, sc, W1, W2]
    refine r0 7 ?_; simp only [pz, pn, sz, sc, W1, W2]
    refine r0 9 ?_; simp only [pz, pn, sz, sc, W1, W2]
    refine r0 11 ?_; simp only [pz, pn, sz, sc, W1, W2]
    refine rl 1 rfl ?_ (ylC tc39); simp only [pz, pn, sz, sc, W1, W2]
    refine rl 3 rfl ?_ (ylC tc3); simp only [pz, pn, sz, sc, W1, W2]
    refine r0 5 ?_; simp only [pz, pn, sz, sc, W1, W2]
    refine rl 8 rfl ?_ (ylC tc39); simp only [pz, pn, sz, sc, W1, W2]
    refine rl 10 rfl ?_ (ylC tc3); simp only [pz, pn, sz, sc, W1, W2]
    refine r0 12 ?_; simp only [pz, pn, sz, sc, W1, W2]
    refine r1 6 ?_; (refine wl_callB (o := ⟨some 31, _, _, _, _, _⟩) gf18 hst (fun w hst => c1 _ w (hb15.at hst (fun x h => by simp [h]))) rfl rfl rfl rfl rfl ?_; clear hst; intro v31 Lg31 w hb31 hst; (try simp only [List.cons_append, List.nil_append, List.append_nil, List.append_assoc] at hst)); (try simp only [pz, pn, sz, sc, W1, W2]); refine re ?_
    refine r1 13 ?_; (refine wl_callB (o := ⟨some 38, _, _, _, _, _⟩) gf18 hst (fun w hst => c2 _ w (hb19.at hst (fun x h => by simp [h]))) rfl rfl rfl rfl rfl ?_; clear hst; intro v38 Lg38 w hb38 hst; (try simp only [List.cons_append, List.nil_append, List.append_nil, List.append_assoc] at hst)); (try simp only [pz, pn, sz, sc, W1, W2]); refine re ?_
    refine r0 14 ?_; simp only [pz, pn, sz, sc, W1, W2]
    refine r0 15 ?_; simp only [pz, pn, sz, sc, W1, W2]
    refine rd_ ?_
    all_goals
      go_wp2_with ((first | (refine wl_callB (o := ⟨some 41, _, _, _, _, _⟩) gf38 hst (fun w hst => m1 _ w (hb31.at hst (fun x h => by simp [h]))) rfl rfl rfl rfl rfl ?_; clear hst; intro v41 Lg41 w hb41 hst; (try simp only [List.cons_append, List.nil_append, List.append_nil, List.append_assoc] at hst)) | (refine wl_callB (o := ⟨some 44, _, _, _, _, _⟩) gf38 hst (fun w hst => m2 _ w (hb38.at hst (fun x h => by simp [h]))) rfl rfl rfl rfl rfl ?_; clear hst; intro v44 Lg44 w hb44 hst; (try simp only [List.cons_append, List.nil_append, List.append_nil, List.append_assoc] at hst)) | (refine wl_callB (o := ⟨some 45, _, _, _, _, _⟩) gf17 hst (fun w hst => s1 _ _ w (hb41.at hst (fun x h => by simp [h])) (hb44.at hst (fun x h => by simp [h]))) rfl rfl rfl rfl rfl ?_; clear hst; intro v45 Lg45 w hb45 hst; (try simp only [List.cons_append, List.nil_append, List.append_nil, List.append_assoc] at hst); obtain ⟨a45, x45, y45, rfl⟩ := hb45.slice) | (refine wl_callB (o := ⟨some 46, _, _, _, _, _⟩) gf33 hst (fun w hst => hone w) rfl rfl rfl rfl rfl ?_; clear hst; intro v46 Lg46 w hb46 hst; (try simp only [List.cons_append, List.nil_append, List.append_nil, List.append_assoc] at hst); obtain ⟨a46, x46, y46, rfl⟩ := hb46.slice) | (refine kt hst ta41 rfl rfl ?_; clear hst; intro w hst)); try simp only [pz, pn, sz, sc])
      have hn := (hst.sub (L' := Lg45 ++ Lg46) (by repeat (first | exact List.Sublist.refl _ | refine List.Sublist.cons _ ?_ | refine List.Sublist.trans ?_ (List.sublist_append_right _ _)))).nodup
      exact bp_c rfl rfl (la hst ta41) (PostN.of hst (NewIn.add hb45.new hb46.new hn) ⟨_, _, _, _, rfl, hb45.any, hb46.any, fun x h => by simp [h], fun x h => by simp [h]⟩ (fun x h => by
        simp only [List.mem_append, List.mem_cons] at h ⊢
        rcases h with h | h <;> simp [h]))

end Go.Proofs.YtefpoconpeggpaaGreatDoor.Rd
