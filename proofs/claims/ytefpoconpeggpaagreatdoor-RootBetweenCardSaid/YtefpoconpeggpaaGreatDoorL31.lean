/- What root.Hypot answers. -/
import Derived.Test.YtefpoconpeggpaaGreatDoorL27
import Derived.Test.YtefpoconpeggpaaGreatDoorL30
import Derived.Test.YtefpoconpeggpaaGreatDoorL28
import Derived.Test.YtefpoconpeggpaaGreatDoorL20
namespace Go.Proofs.YtefpoconpeggpaaGreatDoor.Rd
open Go Go.RowKit
set_option linter.unusedVariables false
set_option linter.unusedSimpArgs false
set_option maxRecDepth 100000

end Go.Proofs.YtefpoconpeggpaaGreatDoor.Rd

namespace Go.Proofs.YtefpoconpeggpaaGreatDoor.Rd
open Go Go.RowKit
set_option linter.unusedVariables false
set_option linter.unusedSimpArgs false
set_option maxRecDepth 100000

/-- The sum of two squares, by the lesser exponent. -/
def sqS (ex : Int) (sx : Nat) (ey : Int) (sy : Nat) : Nat := sx * 2 ^ (ex - min ex ey).toNat * (sx * 2 ^ (ex - min ex ey).toNat) + sy * 2 ^ (ey - min ex ey).toNat * (sy * 2 ^ (ey - min ex ey).toNat)
theorem sqp_lt (s k : Nat) (h : s < 2 ^ 53) (hk : k ≤ 40) : s * 2 ^ k < 2 ^ 93 ∧ s * 2 ^ k * (s * 2 ^ k) < 2 ^ 186 := by
  have a := pow_lt_of 53 (k := k) h
  have b : 2 ^ (53 + k) ≤ 2 ^ 93 := Nat.pow_le_pow_right (by omega) (by omega)
  have c : s * 2 ^ k < 2 ^ 93 := by omega
  have d := Nat.mul_lt_mul'' c c
  rw [← Nat.pow_add] at d
  exact ⟨c, d⟩
theorem sqS_lt (ex : Int) (sx : Nat) (ey : Int) (sy : Nat) (hx : sx < 2 ^ 53) (hy : sy < 2 ^ 53) (h1 : ex - ey ≤ 40) (h2 : -40 ≤ ex - ey) : sqS ex sx ey sy < 2 ^ 187 := by
  have a := (sqp_lt sx (ex - min ex ey).toNat hx (by omega)).2
  have b := (sqp_lt sy (ey - min ex ey).toNat hy (by omega)).2
  have c : (2 : Nat) ^ 187 = 2 ^ 186 + 2 ^ 186 := by decide
  unfold sqS
  omega

set_option maxHeartbeats 4000000 in
theorem root_squares (ex : Int) (sx : Nat) (ey : Int) (sy : Nat) (hx : sx < 2 ^ 53) (hy : sy < 2 ^ 53) (h1 : ex - ey ≤ 40) (h2 : -40 ≤ ex - ey) (hx1 : -300000 ≤ ex) (hx2 : ex ≤ 300000) (hy1 : -300000 ≤ ey) (hy2 : ey ≤ 300000) :
    Gives Tryz.prog 45 #[.agg (nbC false ex sx), .agg (nbC false ey sy)] (.agg (nbC false (2 * min ex ey) (sqS ex sx ey sy))) := by
  intro w0
  have hst := St.start [] w0
  have hlt := sqS_lt ex sx ey sy hx hy h1 h2
  have h187 : (2 : Nat) ^ 187 < M := small_M2 187 (by omega)
  have h93 : (2 : Nat) ^ 93 < M := small_M2 93 (by omega)
  have h186 : (2 : Nat) ^ 186 < M := small_M2 186 (by omega)
  have hxM : sx < M := Nat.lt_trans hx (small_M2 53 (by omega))
  have hyM : sy < M := Nat.lt_trans hy (small_M2 53 (by omega))
  have W1 : IntKind.i64.wrap (2 * min ex ey) = 2 * min ex ey := by rw [IntKind.wrap_i64]; omega
  have yx : OneC (#[Value.bool false, .int .i64 ex] ++ wc 8 sx) := nbC_one false ex sx
  have yy : OneC (#[Value.bool false, .int .i64 ey] ++ wc 8 sy) := nbC_one false ey sy
  have zx : (#[Value.bool false, .int .i64 ex] ++ wc 8 sx).size = 10 := by simp
  have zy : (#[Value.bool false, .int .i64 ey] ++ wc 8 sy).size = 10 := by simp
  by_cases hlt2 : ex < ey
  · have em : min ex ey = ex := by omega
    obtain ⟨k, hk⟩ : ∃ k : Nat, (k : Int) = ey - ex := ⟨(ey - ex).toNat, by omega⟩
    have es : sqS ex sx ey sy = sy * 2 ^ k * (sy * 2 ^ k) + sx * sx := by
      unfold sqS
      rw [em, show (ex - ex).toNat = 0 by omega, show (ey - ex).toNat = k by omega, Nat.pow_zero, Nat.mul_one, Nat.add_comm]
    obtain ⟨k1, k2⟩ := sqp_lt sy k hy (by omega)
    have k3 := (sqp_lt sx 0 hx (by omega)).2
    rw [Nat.pow_zero, Nat.mul_one] at k3
    rw [es] at hlt ⊢
    rw [em] at W1 ⊢
    have hshl := wide_Shl sy (k : Nat) hyM
    rw [clampN_nat _ (by omega), Nat.mod_eq_of_lt (by omega)] at hshl
    have q1 := prod_Square (sy * 2 ^ k) (by omega)
    rw [Nat.mod_eq_of_lt (by omega)] at q1
    have q2 := prod_Square sx hxM
    rw [Nat.mod_eq_of_lt (by omega)] at q2
    have hsum := fun b w h => prod_Sum [sy * 2 ^ k * (sy * 2 ^ k), sx * sx] b 2 44 (0, 0) (by intro x hx; simp at hx; omega) (by simp) w h
    rw [show [sy * 2 ^ k * (sy * 2 ^ k), sx * sx].sum = sy * 2 ^ k * (sy * 2 ^ k) + sx * sx by simp, Nat.mod_eq_of_lt (by omega)] at hsum
    have E1 : ey - ex = (k : Int) := hk.symm
    have k40 : (k : Int) ≤ 40 := by omega
    clear hlt h187 h93 h186 hxM hyM hx hy em es k1 k2 k3 hk
    unfold nbC
    generalize sy * 2 ^ k * (sy * 2 ^ k) + sx * sx = tot at *
    generalize sy * 2 ^ k * (sy * 2 ^ k) = u1 at *
    generalize decide (u1 < M) = o1 at *
    generalize sx * sx = u2 at *
    generalize decide (u2 < M) = o2 at *
    generalize sy * 2 ^ k = u3 at *
    go_enter Tryz.func45, Tryz.ntmps45
    go_wp2_with ((first | (refine kf gf48 hst (hshl) rfl rfl rfl rfl ?_; clear hst; intro w hst) | (refine kf gf71 hst (q1) rfl rfl rfl rfl ?_; clear hst; intro w hst) | (refine kf gf71 hst (q2) rfl rfl rfl rfl ?_; clear hst; intro w hst) | (refine kb 2 hst rfl rfl ?_; clear hst; intro b2 w hb2 hst) | (refine kb 3 hst rfl rfl ?_; clear hst; intro b3 w hb3 hst) | (refine ka 4 hst tz46 rfl rfl ?_; clear hst; intro b4 w hb4 hst) | (refine kc hst tc3 rfl ?_) | (refine kl hst ta46 rfl ?_) | (refine kt hst ta46 rfl rfl ?_; clear hst; intro w hst) | (refine klm hst ta44 rfl ?_) | (refine ka 5 hst tz44 rfl rfl ?_; clear hst; intro b5 w hb5 hst) | (refine kt hst ta44 rfl rfl ?_; clear hst; intro w hst) | (refine ka 7 hst tz44 rfl rfl ?_; clear hst; intro b7 w hb7 hst)); try simp only [pz, pn, sz, sc])
    refine wp_region_T 8  hst (by kernel_rfl) ?_; clear hst; intro w hst; (try simp only [List.length_cons, List.length_nil, Nat.reduceAdd, Array.replicate_succ, Array.replicate_zero, List.push_toArray, List.nil_append, List.cons_append])
    refine r0 0 ?_; simp only [pz, pn, sz, sc, W1]
    refine rl 1 rfl ?_ (ylC tc3); simp only [pz, pn, sz, sc, W1]
    refine r0 2 ?_; simp only [pz, pn, sz, sc, W1]
    refine rl 3 rfl ?_ (by first | exact ylA ta44 | exact ylM ta44); simp only [pz, pn, sz, sc, W1]
    refine rl 4 rfl ?_ (by first | exact ylA ta44 | exact ylM ta44); simp only [pz, pn, sz, sc, W1]
    refine r1 5 ?_; (refine kS 39 hst ts162_ (tw44_2 _ _) rfl rfl ?_; clear hst; intro b39 w hb39 hst); (try simp only [pz, pn, sz, sc, W1]); refine re ?_
    refine r1 6 ?_; (refine kg gf72 hst (fun w hst => hsum _ w (hst.own _ _ (by repeat (first | exact List.Mem.head _ | refine List.Mem.tail _ ?_)))) rfl rfl rfl rfl ?_; clear hst; intro w hst); (try simp only [pz, pn, sz, sc, W1]); refine re ?_
    refine r0 7 ?_ (hy := yB (tb46_12 _ _)); simp only [pz, pn, sz, sc, W1]
    refine r1 8 ?_; (refine kt hst ta46 rfl rfl ?_; clear hst; intro w hst); (try simp only [pz, pn, sz, sc, W1]); refine re ?_
    refine rd_ ?_
    all_goals
      go_wp2_with fail
      refine bp_c rfl rfl (la hst ta46) ⟨?_, hst.keeps⟩
      rfl
  · have em : min ex ey = ey := by omega
    obtain ⟨k, hk⟩ : ∃ k : Nat, (k : Int) = ex - ey := ⟨(ex - ey).toNat, by omega⟩
    have es : sqS ex sx ey sy = sx * 2 ^ k * (sx * 2 ^ k) + sy * sy := by
      unfold sqS
      rw [em, show (ey - ey).toNat = 0 by omega, show (ex - ey).toNat = k by omega, Nat.pow_zero, Nat.mul_one]
    obtain ⟨k1, k2⟩ := sqp_lt sx k hx (by omega)
    have k3 := (sqp_lt sy 0 hy (by omega)).2
    rw [Nat.pow_zero, Nat.mul_one] at k3
    rw [es] at hlt ⊢
    rw [em] at W1 ⊢
    have hshl := wide_Shl sx (k : Nat) hxM
    rw [clampN_nat _ (by omega), Nat.mod_eq_of_lt (by omega)] at hshl
    have q1 := prod_Square (sx * 2 ^ k) (by omega)
    rw [Nat.mod_eq_of_lt (by omega)] at q1
    have q2 := prod_Square sy hyM
    rw [Nat.mod_eq_of_lt (by omega)] at q2
    have hsum := fun b w h => prod_Sum [sx * 2 ^ k * (sx * 2 ^ k), sy * sy] b 2 44 (0, 0) (by intro x hx; simp at hx; omega) (by simp) w h
    rw [show [sx * 2 ^ k * (sx * 2 ^ k), sy * sy].sum = sx * 2 ^ k * (sx * 2 ^ k) + sy * sy by simp, Nat.mod_eq_of_lt (by omega)] at hsum
    have E1 : ex - ey = (k : Int) := hk.symm
    have k40 : (k : Int) ≤ 40 := by omega
    have hlt3 : decide (ex < ey) = false := decide_eq_false hlt2
    clear hlt h187 h93 h186 hxM hyM hx hy em es k1 k2 k3 hk hlt2
    unfold nbC
    generalize sx * 2 ^ k * (sx * 2 ^ k) + sy * sy = tot at *
    generalize sx * 2 ^ k * (sx * 2 ^ k) = u1 at *
    generalize decide (u1 < M) = o1 at *
    generalize sy * sy = u2 at *
    generalize decide (u2 < M) = o2 at *
    generalize sx * 2 ^ k = u3 at *
    go_enter Tryz.func45, Tryz.ntmps45
    go_wp2_with ((first | (refine kf gf48 hst (hshl) rfl rfl rfl rfl ?_; clear hst; intro w hst) | (refine kf gf71 hst (q1) rfl rfl rfl rfl ?_; clear hst; intro w hst) | (refine kf gf71 hst (q2) rfl rfl rfl rfl ?_; clear hst; intro w hst) | (refine kb 2 hst rfl rfl ?_; clear hst; intro b2 w hb2 hst) | (refine kb 3 hst rfl rfl ?_; clear hst; intro b3 w hb3 hst) | (refine ka 4 hst tz46 rfl rfl ?_; clear hst; intro b4 w hb4 hst) | (refine kc hst tc3 rfl ?_) | (refine klm hst ta44 rfl ?_) | (refine ka 5 hst tz44 rfl rfl ?_; clear hst; intro b5 w hb5 hst) | (refine kt hst ta44 rfl rfl ?_; clear hst; intro w hst) | (refine ka 7 hst tz44 rfl rfl ?_; clear hst; intro b7 w hb7 hst)); try simp only [pz, pn, sz, sc])
    refine wp_region_T 8  hst (by kernel_rfl) ?_; clear hst; intro w hst; (try simp only [List.length_cons, List.length_nil, Nat.reduceAdd, Array.replicate_succ, Array.replicate_zero, List.push_toArray, List.nil_append, List.cons_append])
    refine r0 0 ?_; simp only [pz, pn, sz, sc, W1]
    refine rl 1 rfl ?_ (ylC tc3); simp only [pz, pn, sz, sc, W1]
    refine r0 2 ?_; simp only [pz, pn, sz, sc, W1]
    refine rl 3 rfl ?_ (by first | exact ylA ta44 | exact ylM ta44); simp only [pz, pn, sz, sc, W1]
    refine rl 4 rfl ?_ (by first | exact ylA ta44 | exact ylM ta44); simp only [pz, pn, sz, sc, W1]
    refine r1 5 ?_; (refine kS 39 hst ts162_ (tw44_2 _ _) rfl rfl ?_; clear hst; intro b39 w hb39 hst); (try simp only [pz, pn, sz, sc, W1]); refine re ?_
    refine r1 6 ?_; (refine kg gf72 hst (fun w hst => hsum _ w (hst.own _ _ (by repeat (first | exact List.Mem.head _ | refine List.Mem.tail _ ?_)))) rfl rfl rfl rfl ?_; clear hst; intro w hst); (try simp only [pz, pn, sz, sc, W1]); refine re ?_
    refine r0 7 ?_ (hy := yB (tb46_12 _ _)); simp only [pz, pn, sz, sc, W1]
    refine r1 8 ?_; (refine kt hst ta46 rfl rfl ?_; clear hst; intro w hst); (try simp only [pz, pn, sz, sc, W1]); refine re ?_
    refine rd_ ?_
    all_goals
      go_wp2_with fail
      refine bp_c rfl rfl (la hst ta46) ⟨?_, hst.keeps⟩
      rfl

end Go.Proofs.YtefpoconpeggpaaGreatDoor.Rd

namespace Go.Proofs.YtefpoconpeggpaaGreatDoor.Rd
open Go Go.RowKit
set_option linter.unusedVariables false
set_option linter.unusedSimpArgs false
set_option maxRecDepth 100000

set_option maxHeartbeats 2000000 in
theorem root_above1 (f : Nat) (h1 : 1 ≤ f) (h4 : f ≤ 4) (m : Nat) (hm : m < 2 ^ fB f) (hfin : finB f m = true) (h0 : wSig f m ≠ 0) (hng : wNeg f m = false) (g : FuncId) (hg : GoF Tryz.prog g) (cap : Array Value) (b : Nat) (o o' : Obj) (w0 : World) (hF : FmtIn w0) (hkb : b ≠ 0) (qb : w0.heap[b]? = some o)
    (hT : ∀ w, Keeps [b] w0 w → w.heap[b]? = some o → GivesT Tryz.prog g ([Value.int .i64 (fP f : Nat), .agg (nbC false (uExp f m) (uSig f m))] ++ cap.toList).toArray (.tuple #[]) [(b, o)] [(b, o')] w) :
    GivesT Tryz.prog 42 #[.int .i64 f, Wd m, .func (.func g) #[] cap] (.bool true) [(b, o)] [(b, o')] w0 := by
  have hst : St w0 [b] [(b, o)] w0 := (St.start [b] w0).add qb (by simp)
  have hk := Lib.hid (fun w (k : Keeps [b] w0 w) => hF.keep k (by simp only [List.mem_singleton]; exact fun e => hkb e.symm))
  have hT' := Lib.hid hT
  have hun := fun w h => unpack_Unpack f h1 h4 m hm hfin h0 w h
  rw [hng] at hun
  have hof := fun w h => format_Of f h1 h4 w h
  have lb' := lt_of_some qb
  have y1 := nbC_size false (uExp f m) (uSig f m)
  have y2 := nbC_one false (uExp f m) (uSig f m)
  have y0 := nbC_0 false (uExp f m) (uSig f m)
  have z1 := fmC_size f
  have z2 := fmC_one f
  have g1 : (fmC f)[0 + 1]? = some (.int .i64 (fP f : Nat)) := rfl
  have hun' : ∀ w, FmtIn w → GivesAt Tryz.prog 69 #[.int .i64 f, Wd m] (.tuple #[.agg (nbC false (uExp f m) (uSig f m)), .bool true]) w := hun
  clear hun hF hm hfin h0 hng qb hkb hT
  generalize nbC false (uExp f m) (uSig f m) = cn at *
  generalize fmC f = cs at *
  generalize fP f = p at *
  go_enter Tryz.func42, Tryz.ntmps42
  go_wp2_with ((first | (refine kg gf69 hst (fun w hst => hun' w (hk.out w hst.keeps)) rfl rfl rfl rfl ?_; clear hst; intro w hst) | (refine kg gf70 hst (fun w hst => hof w (hk.out w hst.keeps)) rfl rfl rfl rfl ?_; clear hst; intro w hst) | (refine kT hg hst (fun w hst => hT'.out w hst.keeps (hst.own _ _ (by repeat (first | exact List.Mem.head _ | refine List.Mem.tail _ ?_)))) rfl rfl rfl rfl ?_; clear hst; intro w hst) | (refine wl_guard (by rfl) ?_) | (refine kb 4 hst rfl rfl ?_; clear hst; intro b4 w hb4 hst) | (refine kl hst ta24 rfl ?_) | (refine ka 7 hst tz46 rfl rfl ?_; clear hst; intro b7 w hb7 hst) | (refine kt hst ta46 rfl rfl ?_; clear hst; intro w hst) | (refine kc hst tc4 rfl ?_) | (refine ka 9 hst tz128 rfl rfl ?_; clear hst; intro b9 w hb9 hst) | (refine kt hst ta128 rfl rfl ?_; clear hst; intro w hst) | (refine kc hst tc3 rfl ?_) | (refine kl hst ta46 rfl ?_)); try simp only [pz, pn, sz, sc])
  exact bp_t rfl rfl (by rfl) (GivesT.of hst rfl (by simp))

/-- Are two numbers' exponents near, and isn't the format the greatest? -/
def hyOk (f : Nat) (ex ey : Int) : Bool := decide (ex - ey ≤ 40) && decide (-40 ≤ ex - ey) && decide (f ≠ 4)
/-- What becomes of the sum. -/
def hyC (f : Nat) (ex : Int) (sx : Nat) (ey : Int) (sy : Nat) : Array Value := if hyOk f ex ey then nbC false (2 * min ex ey) (sqS ex sx ey sy) else nbC false 0 0

theorem GivesT.same {P : Program} {f : FuncId} {args : Array Value} {v : Value} {Ls A B : List (Nat × Obj)} {w : World} (h : GivesT P f args v Ls A w) (e : A = B) : GivesT P f args v Ls B w := e ▸ h

set_option maxHeartbeats 4000000 in
theorem root_Hypot_11 (p : Int) (f : Nat) (f1 : 1 ≤ f) (f4 : f ≤ 4) (ex : Int) (sx : Nat) (ey : Int) (sy : Nat) (hx : f ≠ 4 → sx < 2 ^ 53) (hy : f ≠ 4 → sy < 2 ^ 53) (hx1 : -300000 ≤ ex) (hx2 : ex ≤ 300000) (hy1 : -300000 ≤ ey) (hy2 : ey ≤ 300000) (bx b8 b15 : Nat) (hn1 : bx ≠ b15) (hn2 : b8 ≠ b15) (hn3 : bx ≠ b8) (Ex E8 : TypeId) (w0 : World)
    (qx : w0.heap[bx]? = some (.cells (nbC false ex sx) Ex)) (q8 : w0.heap[b8]? = some (.cells #[.int .i64 f] E8)) (q15 : w0.heap[b15]? = some (.cells (nbC false 0 0) 46)) :
    GivesT Tryz.prog 44 #[.int .i64 p, .agg (nbC false ey sy), .pointer (some ⟨bx, 0, none⟩), .pointer (some ⟨b8, 0, none⟩), .pointer (some ⟨b15, 0, none⟩)] (.tuple #[]) [(b15, .cells (nbC false 0 0) 46)] [(b15, .cells (hyC f ex sx ey sy) 46)] w0 := by
  have hst : St w0 [b15] [(b15, .cells (nbC false 0 0) 46), (bx, .cells (nbC false ex sx) Ex), (b8, .cells #[.int .i64 f] E8)] w0 := (((St.start [b15] w0).add q8 (by simp)).add qx (by simpa using hn3)).add q15 (by simp; exact ⟨fun e => hn1 e.symm, fun e => hn2 e.symm⟩)
  have yx := nbC_one false ex sx
  have yy := nbC_one false ey sy
  have zx := nbC_size false ex sx
  have zy := nbC_size false ey sy
  have gx := nbC_1 false ex sx
  have gy := nbC_1 false ey sy
  have zz := nbC_size false 0 0
  obtain ⟨d, hd⟩ : ∃ d, d = ex - ey := ⟨_, rfl⟩
  have E1 : ex - ey = d := hd.symm
  have lb15 := lt_of_some q15
  by_cases c1 : d ≤ 40
  · by_cases c2 : -40 ≤ d
    · by_cases c3 : f = 4
      · have e : hyC f ex sx ey sy = nbC false 0 0 := by unfold hyC hyOk; rw [if_neg (by simp [c3])]
        rw [e]
        subst c3
        clear qx q8 q15 hx hy hd e
        generalize nbC false ex sx = cx at *
        generalize nbC false ey sy = cy at *
        generalize nbC false 0 0 = cz at *
        go_enter Tryz.func44, Tryz.ntmps44
        go_wp2_with ((first | (refine wl_guard (by rfl) ?_) | (refine kb 6 hst rfl rfl ?_; clear hst; intro b6 w hb6 hst) | (refine kc hst tc3 rfl ?_)); try simp only [pz, pn, sz, sc])
        exact bp_0 rfl rfl (GivesT.of hst rfl (by simp))
      · have e : hyC f ex sx ey sy = nbC false (2 * min ex ey) (sqS ex sx ey sy) := by unfold hyC hyOk; rw [if_pos (by simp [c3]; omega)]
        rw [e]
        have hsq := root_squares ex sx ey sy (hx c3) (hy c3) (by omega) (by omega) hx1 hx2 hy1 hy2
        have yt := nbC_one false (2 * min ex ey) (sqS ex sx ey sy)
        have zt := nbC_size false (2 * min ex ey) (sqS ex sx ey sy)
        have Q1 : ((f : Int) == 4) = false := by simp; omega
        have Q2 : ((f : Int) != 4) = true := by simp; omega
        clear qx q8 q15 hx hy hd e c3
        generalize nbC false (2 * min ex ey) (sqS ex sx ey sy) = ct at *
        generalize nbC false ex sx = cx at *
        generalize nbC false ey sy = cy at *
        generalize nbC false 0 0 = cz at *
        go_enter Tryz.func44, Tryz.ntmps44
        go_wp2_with ((first | (refine kf gf45 hst (hsq) rfl rfl rfl rfl ?_; clear hst; intro w hst) | (refine wl_guard (by rfl) ?_) | (refine kb 6 hst rfl rfl ?_; clear hst; intro b6 w hb6 hst) | (refine kc hst tc3 rfl ?_) | (refine kl hst ta46 rfl ?_) | (refine kt hst ta46 rfl rfl ?_; clear hst; intro w hst)); try simp only [pz, pn, sz, sc])
        exact bp_0 rfl rfl (GivesT.of hst rfl (by simp))
    · have e : hyC f ex sx ey sy = nbC false 0 0 := by unfold hyC hyOk; rw [if_neg (by simp; omega)]
      rw [e]
      have c2' : decide (-40 ≤ d) = false := decide_eq_false c2
      clear qx q8 q15 hx hy hd e c2
      generalize nbC false ex sx = cx at *
      generalize nbC false ey sy = cy at *
      generalize nbC false 0 0 = cz at *
      go_enter Tryz.func44, Tryz.ntmps44
      go_wp2_with ((first | (refine wl_guard (by rfl) ?_) | (refine kb 6 hst rfl rfl ?_; clear hst; intro b6 w hb6 hst) | (refine kc hst tc3 rfl ?_)); try simp only [pz, pn, sz, sc])
      exact bp_0 rfl rfl (GivesT.of hst rfl (by simp))
  · have e : hyC f ex sx ey sy = nbC false 0 0 := by unfold hyC hyOk; rw [if_neg (by simp; omega)]
    rw [e]
    have c1' : decide (d ≤ 40) = false := decide_eq_false c1
    clear qx q8 q15 hx hy hd e c1
    generalize nbC false ex sx = cx at *
    generalize nbC false ey sy = cy at *
    generalize nbC false 0 0 = cz at *
    go_enter Tryz.func44, Tryz.ntmps44
    go_wp2_with ((first | (refine kb 6 hst rfl rfl ?_; clear hst; intro b6 w hb6 hst) | (refine kc hst tc3 rfl ?_)); try simp only [pz, pn, sz, sc])
    exact bp_0 rfl rfl (GivesT.of hst rfl (by simp))

theorem uSig_53 (f m : Nat) (f1 : 1 ≤ f) (f4 : f ≤ 4) (h0 : wSig f m ≠ 0) (h : f ≠ 4) : uSig f m < 2 ^ 53 := by
  have a := (uSig_in f m h0).2
  have b : fP f ≤ 53 := by
    obtain rfl | rfl | rfl : f = 1 ∨ f = 2 ∨ f = 3 := by omega
    all_goals decide
  exact Nat.lt_of_lt_of_le a (Nat.pow_le_pow_right (by omega) b)

set_option maxHeartbeats 4000000 in
/-- The second word is one of a number above 0. -/
theorem root_Hypot_1 (p : Int) (f : Nat) (f1 : 1 ≤ f) (f4 : f ≤ 4) (x : Nat) (hx0 : wSig f x ≠ 0) (y : Nat) (hy : y < 2 ^ fB f) (hfin : finB f y = true) (hy0 : wSig f y ≠ 0) (hng : wNeg f y = false) (b8 b11 b15 : Nat) (hn1 : b8 ≠ b15) (hn2 : b11 ≠ b15) (hn3 : b8 ≠ b11) (E8 E11 : TypeId) (w0 : World) (hF : FmtIn w0) (hkb : b15 ≠ 0)
    (q8 : w0.heap[b8]? = some (.cells #[.int .i64 f] E8)) (q11 : w0.heap[b11]? = some (.cells (wdc y) E11)) (q15 : w0.heap[b15]? = some (.cells (nbC false 0 0) 46)) :
    GivesT Tryz.prog 43 #[.int .i64 p, .agg (nbC false (uExp f x) (uSig f x)), .pointer (some ⟨b8, 0, none⟩), .pointer (some ⟨b11, 0, none⟩), .pointer (some ⟨b15, 0, none⟩)] (.tuple #[]) [(b15, .cells (nbC false 0 0) 46)] [(b15, .cells (hyC f (uExp f x) (uSig f x) (uExp f y) (uSig f y)) 46)] w0 := by
  have hst : St w0 [b15] [(b15, .cells (nbC false 0 0) 46), (b8, .cells #[.int .i64 f] E8), (b11, .cells (wdc y) E11)] w0 := (((St.start [b15] w0).add q11 (by simp)).add q8 (by simpa using hn3)).add q15 (by simp; exact ⟨fun e => hn1 e.symm, fun e => hn2 e.symm⟩)
  have hk := Lib.hid (fun w (k : Keeps [b15] w0 w) => hF.keep k (by simp only [List.mem_singleton]; exact fun e => hkb e.symm))
  have u1 := uExp_in f x
  have u2 := uExp_in f y
  have lb15 := lt_of_some q15
  have hab := Lib.hid (show ∀ (b6 : Nat) (E6 : TypeId) (w : World), FmtIn w → b6 ≠ b15 → b6 ≠ b8 → w.heap[b6]? = some (.cells (nbC false (uExp f x) (uSig f x)) E6) → w.heap[b8]? = some (.cells #[.int .i64 f] E8) → w.heap[b15]? = some (.cells (nbC false 0 0) 46) →
    GivesT Tryz.prog 42 #[.int .i64 f, Wd y, .func (.func 44) #[] #[.pointer (some ⟨b6, 0, none⟩), .pointer (some ⟨b8, 0, none⟩), .pointer (some ⟨b15, 0, none⟩)]] (.bool true) [(b15, .cells (nbC false 0 0) 46)] [(b15, .cells (hyC f (uExp f x) (uSig f x) (uExp f y) (uSig f y)) 46)] w from
    fun b6 E6 w hw h6 h68 e6 e8 e15 => root_above1 f f1 f4 y hy hfin hy0 hng _ gf44 _ b15 _ _ w hw hkb e15 (fun w' k e => root_Hypot_11 _ f f1 f4 (uExp f x) (uSig f x) (uExp f y) (uSig f y) (uSig_53 f x f1 f4 hx0) (uSig_53 f y f1 f4 hy0) (by omega) (by omega) (by omega) (by omega) b6 b8 b15 h6 hn1 h68 E6 E8 w'
      (by rw [k.block b6 (lt_of_some e6) (by simpa using h6)]; exact e6) (by rw [k.block b8 (lt_of_some e8) (by simpa using hn1)]; exact e8) e))
  have yx := nbC_one false (uExp f x) (uSig f x)
  have zx := nbC_size false (uExp f x) (uSig f x)
  clear hF hx0 hy hfin hy0 hng q8 q11 q15 u1 u2 hkb
  generalize hyC f (uExp f x) (uSig f x) (uExp f y) (uSig f y) = ct at *
  generalize nbC false (uExp f x) (uSig f x) = cx at *
  generalize nbC false 0 0 = cz at *
  go_enter Tryz.func43, Tryz.ntmps43
  go_wp2_with ((first | (refine kT gf42 hst (fun w hst => hab.out b6 _ w (hk.out w hst.keeps) (by have q := hst.nodup; simp only [List.map_cons, List.map_nil, List.nodup_cons, List.mem_cons, List.not_mem_nil, or_false, not_or] at q; omega) (by have q := hst.nodup; simp only [List.map_cons, List.map_nil, List.nodup_cons, List.mem_cons, List.not_mem_nil, or_false, not_or] at q; omega) (hst.own _ _ (by repeat (first | exact List.Mem.head _ | refine List.Mem.tail _ ?_))) (hst.own _ _ (by repeat (first | exact List.Mem.head _ | refine List.Mem.tail _ ?_))) (hst.own _ _ (by repeat (first | exact List.Mem.head _ | refine List.Mem.tail _ ?_)))) rfl rfl rfl rfl ?_; clear hst; intro w hst) | (refine kb 6 hst rfl rfl ?_; clear hst; intro b6 w hb6 hst) | (refine kc hst tc3 rfl ?_) | (refine kl hst ta24 rfl ?_)); try simp only [pz, pn, sz, sc])
  exact bp_0 rfl rfl (GivesT.of hst rfl (by simp))

end Go.Proofs.YtefpoconpeggpaaGreatDoor.Rd

namespace Go.Proofs.YtefpoconpeggpaaGreatDoor.Rd
open Go Go.RowKit
set_option linter.unusedVariables false
set_option linter.unusedSimpArgs false
set_option maxRecDepth 100000

/-- What asking for the first word's number brings: X as the sum. -/
def HA (f : Int) (x y : Nat) (ok : Bool) (X : Array Value) : Prop := ∀ (b8 b11 b15 : Nat) (E8 E11 : TypeId) (w : World), b8 ≠ b15 → b11 ≠ b15 → b8 ≠ b11 → FmtIn w → b15 ≠ 0 →
  w.heap[b8]? = some (.cells #[.int .i64 f] E8) → w.heap[b11]? = some (.cells (wdc y) E11) → w.heap[b15]? = some (.cells (nbC false 0 0) 46) →
  GivesT Tryz.prog 42 #[.int .i64 f, Wd x, .func (.func 43) #[] #[.pointer (some ⟨b8, 0, none⟩), .pointer (some ⟨b11, 0, none⟩), .pointer (some ⟨b15, 0, none⟩)]] (.bool ok) [(b15, .cells (nbC false 0 0) 46)] [(b15, .cells X 46)] w

theorem someB_spec {f x : Nat} (h : someB f x = true) : x < 2 ^ fB f ∧ finB f x = true ∧ wSig f x ≠ 0 ∧ wNeg f x = false := by
  unfold someB at h
  simp only [Bool.and_eq_true, Bool.not_eq_true', decide_eq_true_eq] at h
  refine ⟨?_, h.1.1, h.1.2, h.2⟩
  have := h.1.1
  unfold finB at this
  simp only [Bool.and_eq_true, decide_eq_true_eq] at this
  exact this.1
theorem HA_yes (f : Nat) (f1 : 1 ≤ f) (f4 : f ≤ 4) (x y : Nat) (hx : someB f x = true) (hy : someB f y = true) : HA f x y true (hyC f (uExp f x) (uSig f x) (uExp f y) (uSig f y)) := by
  obtain ⟨s1, s2, s3, s4⟩ := someB_spec hx
  obtain ⟨t1, t2, t3, t4⟩ := someB_spec hy
  intro b8 b11 b15 E8 E11 w h1 h2 h3 hF hk q8 q11 q15
  refine root_above1 f f1 f4 x s1 s2 s3 s4 _ gf43 _ b15 _ _ w hF hk q15 (fun w' k e15 => ?_)
  exact root_Hypot_1 _ f f1 f4 x s3 y t1 t2 t3 t4 b8 b11 b15 h1 h2 h3 E8 E11 w' (hF.keep k (by simp only [List.mem_singleton]; exact fun e => hk e.symm)) hk
    (by rw [k.block b8 (lt_of_some q8) (by simpa using h1)]; exact q8) (by rw [k.block b11 (lt_of_some q11) (by simpa using h2)]; exact q11) e15

end Go.Proofs.YtefpoconpeggpaaGreatDoor.Rd
