/- What the reference of formats answers: Bits, Field, EMax, EMin, Bit, Fits. -/
import Derived.Test.YtefpoconpeggpaaGreatDoorK21
import Derived.Test.YtefpoconpeggpaaGreatDoorK25
import Derived.Test.YtefpoconpeggpaaGreatDoorK08
namespace Go.Proofs.YtefpoconpeggpaaGreatDoor.Rd
open Go Go.RowKit
set_option linter.unusedVariables false
set_option linter.unusedSimpArgs false
set_option maxRecDepth 100000

/-- The sum of two squares, by the lesser exponent. -/
def sqS (ex : Int) (sx : Nat) (ey : Int) (sy : Nat) : Nat := sx * 2 ^ (ex - min ex ey).toNat * (sx * 2 ^ (ex - min ex ey).toNat) + sy * 2 ^ (ey - min ex ey).toNat * (sy * 2 ^ (ey - min ex ey).toNat)
theorem sqp_lt (s k : Nat) (h : s < 2 ^ 53) (hk : k ≤ 40) : s * 2 ^ k < 2 ^ 93 ∧ s * 2 ^ k * (s * 2 ^ k) < 2 ^ 186 := by
  have a := pow_lt_of 53 (k := k) h
  have b : 2 ^ (53 + k) ≤ 2 ^ 93 := Nat.pow_le_pow_right (by omega) (by omega)
  have c : s * 2 ^ k < 2 ^ 93 := by omega
  have d := Nat.mul_lt_mul'' c c
  rw [← Nat.pow_add] at d
  exact ⟨c, d⟩
theorem sqS_lt (ex : Int) (sx : Nat) (ey : Int) (sy : Nat) (hx : sx < 2 ^ 53) (hy : sy < 2 ^ 53) (h1 : ex - ey ≤ 40) (h2 : -40 ≤ ex - ey) : sqS ex sx ey sy < 2 ^ 187 := by
  have a := (sqp_lt sx (ex - min ex ey).toNat hx (by omega)).2
  have b := (sqp_lt sy (ey - min ex ey).toNat hy (by omega)).2
  have c : (2 : Nat) ^ 187 = 2 ^ 186 + 2 ^ 186 := by decide
  unfold sqS
  omega

set_option maxHeartbeats 4000000 in
theorem root_squares (ex : Int) (sx : Nat) (ey : Int) (sy : Nat) (hx : sx < 2 ^ 53) (hy : sy < 2 ^ 53) (h1 : ex - ey ≤ 40) (h2 : -40 ≤ ex - ey) (hx1 : -300000 ≤ ex) (hx2 : ex ≤ 300000) (hy1 : -300000 ≤ ey) (hy2 : ey ≤ 300000) :
    Gives Tryz.prog 45 #[.agg (nbC false ex sx), .agg (nbC false ey sy)] (.agg (nbC false (2 * min ex ey) (sqS ex sx ey sy))) := by
  intro w0
  have hst := St.start [] w0
  have hlt := sqS_lt ex sx ey sy hx hy h1 h2
  have h187 : (2 : Nat) ^ 187 < M := small_M2 187 (by omega)
  have h93 : (2 : Nat) ^ 93 < M := small_M2 93 (by omega)
  have h186 : (2 : Nat) ^ 186 < M := small_M2 186 (by omega)
  have hxM : sx < M := Nat.lt_trans hx (small_M2 53 (by omega))
  have hyM : sy < M := Nat.lt_trans hy (small_M2 53 (by omega))
  have W1 : IntKind.i64.wrap (2 * min ex ey) = 2 * min ex ey := by rw [IntKind.wrap_i64]; omega
  have yx : OneC (#[Value.bool false, .int .i64 ex] ++ wc 8 sx) := nbC_one false ex sx
  have yy : OneC (#[Value.bool false, .int .i64 ey] ++ wc 8 sy) := nbC_one false ey sy
  have zx : (#[Value.bool false, .int .i64 ex] ++ wc 8 sx).size = 10 := by simp
  have zy : (#[Value.bool false, .int .i64 ey] ++ wc 8 sy).size = 10 := by simp
  by_cases hlt2 : ex < ey
  · have em : min ex ey = ex := by omega
    obtain ⟨k, hk⟩ : ∃ k : Nat, (k : Int) = ey - ex := ⟨(ey - ex).toNat, by omega⟩
    have es : sqS ex sx ey sy = sy * 2 ^ k * (sy * 2 ^ k) + sx * sx := by
      unfold sqS
      rw [em, show (ex - ex).toNat = 0 by omega, show (ey - ex).toNat = k by omega, Nat.pow_zero, Nat.mul_one, Nat.add_comm]
    obtain ⟨k1, k2⟩ := sqp_lt sy k hy (by omega)
    have k3 := (sqp_lt sx 0 hx (by omega)).2
    rw [Nat.pow_zero, Nat.mul_one] at k3
    rw [es] at hlt ⊢
    rw [em] at W1 ⊢
    have hshl := wide_Shl sy (k : Nat) hyM
    rw [clampN_nat _ (by omega), Nat.mod_eq_of_lt (by omega)] at hshl
    have q1 := prod_Square (sy * 2 ^ k) (by omega)
    rw [Nat.mod_eq_of_lt (by omega)] at q1
    have q2 := prod_Square sx hxM
    rw [Nat.mod_eq_of_lt (by omega)] at q2
    have hsum := fun b w h => prod_Sum [sy * 2 ^ k * (sy * 2 ^ k), sx * sx] b 2 44 (0, 0) (by intro x hx; simp at hx; omega) (by simp) w h
    rw [show [sy * 2 ^ k * (sy * 2 ^ k), sx * sx].sum = sy * 2 ^ k * (sy * 2 ^ k) + sx * sx by simp, Nat.mod_eq_of_lt (by omega)] at hsum
    have E1 : ey - ex = (k : Int) := hk.symm
    have k40 : (k : Int) ≤ 40 := by omega
    clear hlt h187 h93 h186 hxM hyM hx hy em es k1 k2 k3 hk
    unfold nbC
    generalize sy * 2 ^ k * (sy * 2 ^ k) + sx * sx = tot at *
    generalize sy * 2 ^ k * (sy * 2 ^ k) = u1 at *
    generalize decide (u1 < M) = o1 at *
    generalize sx * sx = u2 at *
    generalize decide (u2 < M) = o2 at *
    generalize sy * 2 ^ k = u3 at *
    go_enter Tryz.func45, Tryz.ntmps45
    go_wp2_with ((first | (refine kf gf48 hst (hshl) rfl rfl rfl rfl ?_; clear hst; intro w hst) | (refine kf gf71 hst (q1) rfl rfl rfl rfl ?_; clear hst; intro w hst) | (refine kf gf71 hst (q2) rfl rfl rfl rfl ?_; clear hst; intro w hst) | (refine kb 2 hst rfl rfl ?_; clear hst; intro b2 w hb2 hst) | (refine kb 3 hst rfl rfl ?_; clear hst; intro b3 w hb3 hst) | (refine ka 4 hst tz46 rfl rfl ?_; clear hst; intro b4 w hb4 hst) | (refine kc hst tc3 rfl ?_) | (refine kl hst ta46 rfl ?_) | (refine kt hst ta46 rfl rfl ?_; clear hst; intro w hst) | (refine klm hst ta44 rfl ?_) | (refine ka 5 hst tz44 rfl rfl ?_; clear hst; intro b5 w hb5 hst) | (refine kt hst ta44 rfl rfl ?_; clear hst; intro w hst) | (refine ka 7 hst tz44 rfl rfl ?_; clear hst; intro b7 w hb7 hst)); try simp only [pz, pn, sz, sc])
    refine wp_region_T 8  hst (by kernel_rfl) ?_; clear hst; intro w hst; (try simp only [List.length_cons, List.length_nil, Nat.reduceAdd, Array.replicate_succ, Array.replicate_zero, List.push_toArray, List.nil_append, List.cons_append])
    refine r0 0 ?_; simp only [pz, pn, sz, sc, W1]
    refine rl 1 rfl ?_ (ylC tc3); simp only [pz, pn, sz, sc, W1]
    refine r0 2 ?_; simp only [pz, pn, sz, sc, W1]
    refine rl 3 rfl ?_ (by first | exact ylA ta44 | exact ylM ta44); simp only [pz, pn, sz, sc, W1]
    refine rl 4 rfl ?_ (by first | exact ylA ta44 | exact ylM ta44); simp only [pz, pn, sz, sc, W1]
    refine r1 5 ?_; (refine kS 39 hst ts162_ (tw44_2 _ _) rfl rfl ?_; clear hst; intro b39 w hb39 hst); (try simp only [pz, pn, sz, sc, W1]); refine re ?_
    refine r1 6 ?_; (refine kg gf72 hst (fun w hst => hsum _ w (hst.own _ _ (by repeat (first | exact List.Mem.head _ | refine List.Mem.tail _ ?_)))) rfl rfl rfl rfl ?_; clear hst; intro w hst); (try simp only [pz, pn, sz, sc, W1]); refine re ?_
    refine r0 7 ?_ (hy := yB (tb46_12 _ _)); simp only [pz, pn, sz, sc, W1]
    refine r1 8 ?_; (refine kt hst ta46 rfl rfl ?_; clear hst; intro w hst); (try simp only [pz, pn, sz, sc, W1]); refine re ?_
    refine rd_ ?_
    all_goals
      go_wp2_with fail
      refine bp_c rfl rfl (la hst ta46) ⟨?_, hst.keeps⟩
      rfl
  · have em : min ex ey = ey := by omega
    obtain ⟨k, hk⟩ : ∃ k : Nat, (k : Int) = ex - ey := ⟨(ex - ey).toNat, by omega⟩
    have es : sqS ex sx ey sy = sx * 2 ^ k * (sx * 2 ^ k) + sy * sy := by
      unfold sqS
      rw [em, show (ey - ey).toNat = 0 by omega, show (ex - ey).toNat = k by omega, Nat.pow_zero, Nat.mul_one]
    obtain ⟨k1, k2⟩ := sqp_lt sx k hx (by omega)
    have k3 := (sqp_lt sy 0 hy (by omega)).2
    rw [Nat.pow_zero, Nat.mul_one] at k3
    rw [es] at hlt ⊢
    rw [em] at W1 ⊢
    have hshl := wide_Shl sx (k : Nat) hxM
    rw [clampN_nat _ (by omega), Nat.mod_eq_of_lt (by omega)] at hshl
    have q1 := prod_Square (sx * 2 ^ k) (by omega)
    rw [Nat.mod_eq_of_lt (by omega)] at q1
    have q2 := prod_Square sy hyM
    rw [Nat.mod_eq_of_lt (by omega)] at q2
    have hsum := fun b w h => prod_Sum [sx * 2 ^ k * (sx * 2 ^ k), sy * sy] b 2 44 (0, 0) (by intro x hx; simp at hx; omega) (by simp) w h
    rw [show [sx * 2 ^ k * (sx * 2 ^ k), sy * sy].sum = sx * 2 ^ k * (sx * 2 ^ k) + sy * sy by simp, Nat.mod_eq_of_lt (by omega)] at hsum
    have E1 : ex - ey = (k : Int) := hk.symm
    have k40 : (k : Int) ≤ 40 := by omega
    have hlt3 : decide (ex < ey) = false := decide_eq_false hlt2
    clear hlt h187 h93 h186 hxM hyM hx hy em es k1 k2 k3 hk hlt2
    unfold nbC
    generalize sx * 2 ^ k * (sx * 2 ^ k) + sy * sy = tot at *
    generalize sx * 2 ^ k * (sx * 2 ^ k) = u1 at *
    generalize decide (u1 < M) = o1 at *
    generalize sy * sy = u2 at *
    generalize decide (u2 < M) = o2 at *
    generalize sx * 2 ^ k = u3 at *
    go_enter Tryz.func45, Tryz.ntmps45
    go_wp2_with ((first | (refine kf gf48 hst (hshl) rfl rfl rfl rfl ?_; clear hst; intro w hst) | (refine kf gf71 hst (q1) rfl rfl rfl rfl ?_; clear hst; intro w hst) | (refine kf gf71 hst (q2) rfl rfl rfl rfl ?_; clear hst; intro w hst) | (refine kb 2 hst rfl rfl ?_; clear hst; intro b2 w hb2 hst) | (refine kb 3 hst rfl rfl ?_; clear hst; intro b3 w hb3 hst) | (refine ka 4 hst tz46 rfl rfl ?_; clear hst; intro b4 w hb4 hst) | (refine kc hst tc3 rfl ?_) | (refine klm hst ta44 rfl ?_) | (refine ka 5 hst tz44 rfl rfl ?_; clear hst; intro b5 w hb5 hst) | (refine kt hst ta44 rfl rfl ?_; clear hst; intro w hst) | (refine ka 7 hst tz44 rfl rfl ?_; clear hst; intro b7 w hb7 hst)); try simp only [pz, pn, sz, sc])
    refine wp_region_T 8  hst (by kernel_rfl) ?_; clear hst; intro w hst; (try simp only [List.length_cons, List.length_nil, Nat.reduceAdd, Array.replicate_succ, Array.replicate_zero, List.push_toArray, List.nil_append, List.cons_append])
    refine r0 0 ?_; simp only [pz, pn, sz, sc, W1]
    refine rl 1 rfl ?_ (ylC tc3); simp only [pz, pn, sz, sc, W1]
    refine r0 2 ?_; simp only [pz, pn, sz, sc, W1]
    refine rl 3 rfl ?_ (by first | exact ylA ta44 | exact ylM ta44); simp only [pz, pn, sz, sc, W1]
    refine rl 4 rfl ?_ (by first | exact ylA ta44 | exact ylM ta44); simp only [pz, pn, sz, sc, W1]
    refine r1 5 ?_; (refine kS 39 hst ts162_ (tw44_2 _ _) rfl rfl ?_; clear hst; intro b39 w hb39 hst); (try simp only [pz, pn, sz, sc, W1]); refine re ?_
    refine r1 6 ?_; (refine kg gf72 hst (fun w hst => hsum _ w (hst.own _ _ (by repeat (first | exact List.Mem.head _ | refine List.Mem.tail _ ?_)))) rfl rfl rfl rfl ?_; clear hst; intro w hst); (try simp only [pz, pn, sz, sc, W1]); refine re ?_
    refine r0 7 ?_ (hy := yB (tb46_12 _ _)); simp only [pz, pn, sz, sc, W1]
    refine r1 8 ?_; (refine kt hst ta46 rfl rfl ?_; clear hst; intro w hst); (try simp only [pz, pn, sz, sc, W1]); refine re ?_
    refine rd_ ?_
    all_goals
      go_wp2_with fail
      refine bp_c rfl rfl (la hst ta46) ⟨?_, hst.keeps⟩
      rfl

end Go.Proofs.YtefpoconpeggpaaGreatDoor.Rd

namespace Go.Proofs.YtefpoconpeggpaaGreatDoor.Rd
open Go Go.RowKit
set_option linter.unusedVariables false
set_option linter.unusedSimpArgs false
set_option maxRecDepth 100000

set_option maxHeartbeats 2000000 in
theorem root_above1 (f : Nat) (h1 : 1 ≤ f) (h4 : f ≤ 4) (m : Nat) (hm : m < 2 ^ fB f) (hfin : finB f m = true) (h0 : wSig f m ≠ 0) (hng : wNeg f m = false) (g : FuncId) (hg : GoF Tryz.prog g) (cap : Array Value) (b : Nat) (o o' : Obj) (w0 : World) (hF : FmtIn w0) (hkb : b ≠ 0) (qb : w0.heap[b]? = some o)
    (hT : ∀ w, Keeps [b] w0 w → w.heap[b]? = some o → GivesT Tryz.prog g ([Value.int .i64 (fP f : Nat), .agg (nbC false (uExp f m) (uSig f m))] ++ cap.toList).toArray (.tuple #[]) [(b, o)] [(b, o')] w) :
    GivesT Tryz.prog 42 #[.int .i64 f, Wd m, .func (.func g) #[] cap] (.bool true) [(b, o)] [(b, o')] w0 := by
  have hst : St w0 [b] [(b, o)] w0 := (St.start [b] w0).add qb (by simp)
  have hk := Lib.hid (fun w (k : Keeps [b] w0 w) => hF.keep k (by simp only [List.mem_singleton]; exact fun e => hkb e.symm))
  have hT' := Lib.hid hT
  have hun := fun w h => unpack_Unpack f h1 h4 m hm hfin h0 w h
  rw [hng] at hun
  have hof := fun w h => format_Of f h1 h4 w h
  have lb' := lt_of_some qb
  have y1 := nbC_size false (uExp f m) (uSig f m)
  have y2 := nbC_one false (uExp f m) (uSig f m)
  have y0 := nbC_0 false (uExp f m) (uSig f m)
  have z1 := fmC_size f
  have z2 := fmC_one f
  have g1 : (fmC f)[0 + 1]? = some (.int .i64 (fP f : Nat)) := rfl
  have hun' : ∀ w, FmtIn w → GivesAt Tryz.prog 69 #[.int .i64 f, Wd m] (.tuple #[.agg (nbC false (uExp f m) (uSig f m)), .bool true]) w := hun
  clear hun hF hm hfin h0 hng qb hkb hT
  generalize nbC false (uExp f m) (uSig f m) = cn at *
  generalize fmC f = cs at *
  generalize fP f = p at *
  go_enter Tryz.func42, Tryz.ntmps42
  go_wp2_with ((first | (refine kg gf69 hst (fun w hst => hun' w (hk.out w hst.keeps)) rfl rfl rfl rfl ?_; clear hst; intro w hst) | (refine kg gf70 hst (fun w hst => hof w (hk.out w hst.keeps)) rfl rfl rfl rfl ?_; clear hst; intro w hst) | (refine kT hg hst (fun w hst => hT'.out w hst.keeps (hst.own _ _ (by repeat (first | exact List.Mem.head _ | refine List.Mem.tail _ ?_)))) rfl rfl rfl rfl ?_; clear hst; intro w hst) | (refine wl_guard (by rfl) ?_) | (refine kb 4 hst rfl rfl ?_; clear hst; intro b4 w hb4 hst) | (refine kl hst ta24 rfl ?_) | (refine ka 7 hst tz46 rfl rfl ?_; clear hst; intro b7 w hb7 hst) | (refine kt hst ta46 rfl rfl ?_; clear hst; intro w hst) | (refine kc hst tc4 rfl ?_) | (refine ka 9 hst tz128 rfl rfl ?_; clear hst; intro b9 w hb9 hst) | (refine kt hst ta128 rfl rfl ?_; clear hst; intro w hst) | (refine kc hst tc3 rfl ?_) | (refine kl hst ta46 rfl ?_)); try simp only [pz, pn, sz, sc])
  exact bp_t rfl rfl (by rfl) (GivesT.of hst rfl (by simp))

/-- Are two numbers' exponents near, and isn't the format the greatest? -/
def hyOk (f : Nat) (ex ey : Int) : Bool := decide (ex - ey ≤ 40) && decide (-40 ≤ ex - ey) && decide (f ≠ 4)
/-- What becomes of the sum. -/
def hyC (f : Nat) (ex : Int) (sx : Nat) (ey : Int) (sy : Nat) : Array Value := if hyOk f ex ey then nbC false (2 * min ex ey) (sqS ex sx ey sy) else nbC false 0 0

theorem GivesT.same {P : Program} {f : FuncId} {args : Array Value} {v : Value} {Ls A B : List (Nat × Obj)} {w : World} (h : GivesT P f args v Ls A w) (e : A = B) : GivesT P f args v Ls B w := e ▸ h

set_option maxHeartbeats 4000000 in
theorem root_Hypot_11 (p : Int) (f : Nat) (f1 : 1 ≤ f) (f4 : f ≤ 4) (ex : Int) (sx : Nat) (ey : Int) (sy : Nat) (hx : f ≠ 4 → sx < 2 ^ 53) (hy : f ≠ 4 → sy < 2 ^ 53) (hx1 : -300000 ≤ ex) (hx2 : ex ≤ 300000) (hy1 : -300000 ≤ ey) (hy2 : ey ≤ 300000) (bx b8 b15 : Nat) (hn1 : bx ≠ b15) (hn2 : b8 ≠ b15) (hn3 : bx ≠ b8) (Ex E8 : TypeId) (w0 : World)
    (qx : w0.heap[bx]? = some (.cells (nbC false ex sx) Ex)) (q8 : w0.heap[b8]? = some (.cells #[.int .i64 f] E8)) (q15 : w0.heap[b15]? = some (.cells (nbC false 0 0) 46)) :
    GivesT Tryz.prog 44 #[.int .i64 p, .agg (nbC false ey sy), .pointer (some ⟨bx, 0, none⟩), .pointer (some ⟨b8, 0, none⟩), .pointer (some ⟨b15, 0, none⟩)] (.tuple #[]) [(b15, .cells (nbC false 0 0) 46)] [(b15, .cells (hyC f ex sx ey sy) 46)] w0 := by
  have hst : St w0 [b15] [(b15, .cells (nbC false 0 0) 46), (bx, .cells (nbC false ex sx) Ex), (b8, .cells #[.int .i64 f] E8)] w0 := (((St.start [b15] w0).add q8 (by simp)).add qx (by simpa using hn3)).add q15 (by simp; exact ⟨fun e => hn1 e.symm, fun e => hn2 e.symm⟩)
  have yx := nbC_one false ex sx
  have yy := nbC_one false ey sy
  have zx := nbC_size false ex sx
  have zy := nbC_size false ey sy
  have gx := nbC_1 false ex sx
  have gy := nbC_1 false ey sy
  have zz := nbC_size false 0 0
  obtain ⟨d, hd⟩ : ∃ d, d = ex - ey := ⟨_, rfl⟩
  have E1 : ex - ey = d := hd.symm
  have lb15 := lt_of_some q15
  by_cases c1 : d ≤ 40
  · by_cases c2 : -40 ≤ d
    · by_cases c3 : f = 4
      · have e : hyC f ex sx ey sy = nbC false 0 0 := by unfold hyC hyOk; rw [if_neg (by simp [c3])]
        rw [e]
        subst c3
        clear qx q8 q15 hx hy hd e
        generalize nbC false ex sx = cx at *
        generalize nbC false ey sy = cy at *
        generalize nbC false 0 0 = cz at *
        go_enter Tryz.func44, Tryz.ntmps44
        go_wp2_with ((first | (refine wl_guard (by rfl) ?_) | (refine kb 6 hst rfl rfl ?_; clear hst; intro b6 w hb6 hst) | (refine kc hst tc3 rfl ?_)); try simp only [pz, pn, sz, sc])
        exact bp_0 rfl rfl (GivesT.of hst rfl (by simp))
      · have e : hyC f ex sx ey sy = nbC false (2 * min ex ey) (sqS ex sx ey sy) := by unfold hyC hyOk; rw [if_pos (by simp [c3]; omega)]
        rw [e]
        have hsq := root_squares ex sx ey sy (hx c3) (hy c3) (by omega) (by omega) hx1 hx2 hy1 hy2
        have yt := nbC_one false (2 * min ex ey) (sqS ex sx ey sy)
        have zt := nbC_size false (2 * min ex ey) (sqS ex sx ey sy)
        have Q1 : ((f : Int) == 4) = false := by simp; omega
        have Q2 : ((f : Int) != 4) = true := by simp; omega
        clear qx q8 q15 hx hy hd e c3
        generalize nbC false (2 * min ex ey) (sqS ex sx ey sy) = ct at *
        generalize nbC false ex sx = cx at *
        generalize nbC false ey sy = cy at *
        generalize nbC false 0 0 = cz at *
        go_enter Tryz.func44, Tryz.ntmps44
        go_wp2_with ((first | (refine kf gf45 hst (hsq) rfl rfl rfl rfl ?_; clear hst; intro w hst) | (refine wl_guard (by rfl) ?_) | (refine kb 6 hst rfl rfl ?_; clear hst; intro b6 w hb6 hst) | (refine kc hst tc3 rfl ?_) | (refine kl hst ta46 rfl ?_) | (refine kt hst ta46 rfl rfl ?_; clear hst; intro w hst)); try simp only [pz, pn, sz, sc])
        exact bp_0 rfl rfl (GivesT.of hst rfl (by simp))
    · have e : hyC f ex sx ey sy = nbC false 0 0 := by unfold hyC hyOk; rw [if_neg (by simp; omega)]
      rw [e]
      have c2' : decide (-40 ≤ d) = false := decide_eq_false c2
      clear qx q8 q15 hx hy hd e c2
      generalize nbC false ex sx = cx at *
      generalize nbC false ey sy = cy at *
      generalize nbC false 0 0 = cz at *
      go_enter Tryz.func44, Tryz.ntmps44
      go_wp2_with ((first | (refine wl_guard (by rfl) ?_) | (refine kb 6 hst rfl rfl ?_; clear hst; intro b6 w hb6 hst) | (refine kc hst tc3 rfl ?_)); try simp only [pz, pn, sz, sc])
      exact bp_0 rfl rfl (GivesT.of hst rfl (by simp))
  · have e : hyC f ex sx ey sy = nbC false 0 0 := by unfold hyC hyOk; rw [if_neg (by simp; omega)]
    rw [e]
    have c1' : decide (d ≤ 40) = false := decide_eq_false c1
    clear qx q8 q15 hx hy hd e c1
    generalize nbC false ex sx = cx at *
    generalize nbC false ey sy = cy at *
    generalize nbC false 0 0 = cz at *
    go_enter Tryz.func44, Tryz.ntmps44
    go_wp2_with ((first | (refine kb 6 hst rfl rfl ?_; clear hst; intro b6 w hb6 hst) | (refine kc hst tc3 rfl ?_)); try simp only [pz, pn, sz, sc])
    exact bp_0 rfl rfl (GivesT.of hst rfl (by simp))

theorem uSig_53 (f m : Nat) (f1 : 1 ≤ f) (f4 : f ≤ 4) (h0 : wSig f m ≠ 0) (h : f ≠ 4) : uSig f m < 2 ^ 53 := by
  have a := (uSig_in f m h0).2
  have b : fP f ≤ 53 := by
    obtain rfl | rfl | rfl : f = 1 ∨ f = 2 ∨ f = 3 := by omega
    all_goals decide
  exact Nat.lt_of_lt_of_le a (Nat.pow_le_pow_right (by omega) b)

set_option maxHeartbeats 4000000 in
/-- The second word is one of a number above 0. -/
theorem root_Hypot_1 (p : Int) (f : Nat) (f1 : 1 ≤ f) (f4 : f ≤ 4) (x : Nat) (hx0 : wSig f x ≠ 0) (y : Nat) (hy : y < 2 ^ fB f) (hfin : finB f y = true) (hy0 : wSig f y ≠ 0) (hng : wNeg f y = false) (b8 b11 b15 : Nat) (hn1 : b8 ≠ b15) (hn2 : b11 ≠ b15) (hn3 : b8 ≠ b11) (E8 E11 : TypeId) (w0 : World) (hF : FmtIn w0) (hkb : b15 ≠ 0)
    (q8 : w0.heap[b8]? = some (.cells #[.int .i64 f] E8)) (q11 : w0.heap[b11]? = some (.cells (wdc y) E11)) (q15 : w0.heap[b15]? = some (.cells (nbC false 0 0) 46)) :
    GivesT Tryz.prog 43 #[.int .i64 p, .agg (nbC false (uExp f x) (uSig f x)), .pointer (some ⟨b8, 0, none⟩), .pointer (some ⟨b11, 0, none⟩), .pointer (some ⟨b15, 0, none⟩)] (.tuple #[]) [(b15, .cells (nbC false 0 0) 46)] [(b15, .cells (hyC f (uExp f x) (uSig f x) (uExp f y) (uSig f y)) 46)] w0 := by
  have hst : St w0 [b15] [(b15, .cells (nbC false 0 0) 46), (b8, .cells #[.int .i64 f] E8), (b11, .cells (wdc y) E11)] w0 := (((St.start [b15] w0).add q11 (by simp)).add q8 (by simpa using hn3)).add q15 (by simp; exact ⟨fun e => hn1 e.symm, fun e => hn2 e.symm⟩)
  have hk := Lib.hid (fun w (k : Keeps [b15] w0 w) => hF.keep k (by simp only [List.mem_singleton]; exact fun e => hkb e.symm))
  have u1 := uExp_in f x
  have u2 := uExp_in f y
  have lb15 := lt_of_some q15
  have hab := Lib.hid (show ∀ (b6 : Nat) (E6 : TypeId) (w : World), FmtIn w → b6 ≠ b15 → b6 ≠ b8 → w.heap[b6]? = some (.cells (nbC false (uExp f x) (uSig f x)) E6) → w.heap[b8]? = some (.cells #[.int .i64 f] E8) → w.heap[b15]? = some (.cells (nbC false 0 0) 46) →
    GivesT Tryz.prog 42 #[.int .i64 f, Wd y, .func (.func 44) #[] #[.pointer (some ⟨b6, 0, none⟩), .pointer (some ⟨b8, 0, none⟩), .pointer (some ⟨b15, 0, none⟩)]] (.bool true) [(b15, .cells (nbC false 0 0) 46)] [(b15, .cells (hyC f (uExp f x) (uSig f x) (uExp f y) (uSig f y)) 46)] w from
    fun b6 E6 w hw h6 h68 e6 e8 e15 => root_above1 f f1 f4 y hy hfin hy0 hng _ gf44 _ b15 _ _ w hw hkb e15 (fun w' k e => root_Hypot_11 _ f f1 f4 (uExp f x) (uSig f x) (uExp f y) (uSig f y) (uSig_53 f x f1 f4 hx0) (uSig_53 f y f1 f4 hy0) (by omega) (by omega) (by omega) (by omega) b6 b8 b15 h6 hn1 h68 E6 E8 w'
      (by rw [k.block b6 (lt_of_some e6) (by simpa using h6)]; exact e6) (by rw [k.block b8 (lt_of_some e8) (by simpa using hn1)]; exact e8) e))
  have yx := nbC_one false (uExp f x) (uSig f x)
  have zx := nbC_size false (uExp f x) (uSig f x)
  clear hF hx0 hy hfin hy0 hng q8 q11 q15 u1 u2 hkb
  generalize hyC f (uExp f x) (uSig f x) (uExp f y) (uSig f y) = ct at *
  generalize nbC false (uExp f x) (uSig f x) = cx at *
  generalize nbC false 0 0 = cz at *
  go_enter Tryz.func43, Tryz.ntmps43
  go_wp2_with ((first | (refine kT gf42 hst (fun w hst => hab.out b6 _ w (hk.out w hst.keeps) (by have q := hst.nodup; simp only [List.map_cons, List.map_nil, List.nodup_cons, List.mem_cons, List.not_mem_nil, or_false, not_or] at q; omega) (by have q := hst.nodup; simp only [List.map_cons, List.map_nil, List.nodup_cons, List.mem_cons, List.not_mem_nil, or_false, not_or] at q; omega) (hst.own _ _ (by repeat (first | exact List.Mem.head _ | refine List.Mem.tail _ ?_))) (hst.own _ _ (by repeat (first | exact List.Mem.head _ | refine List.Mem.tail _ ?_))) (hst.own _ _ (by repeat (first | exact List.Mem.head _ | refine List.Mem.tail _ ?_)))) rfl rfl rfl rfl ?_; clear hst; intro w hst) | (refine kb 6 hst rfl rfl ?_; clear hst; intro b6 w hb6 hst) | (refine kc hst tc3 rfl ?_) | (refine kl hst ta24 rfl ?_)); try simp only [pz, pn, sz, sc])
  exact bp_0 rfl rfl (GivesT.of hst rfl (by simp))

end Go.Proofs.YtefpoconpeggpaaGreatDoor.Rd

namespace Go.Proofs.YtefpoconpeggpaaGreatDoor.Rd
open Go Go.RowKit
set_option linter.unusedVariables false
set_option linter.unusedSimpArgs false
set_option maxRecDepth 100000

theorem fE_P (f : Nat) : fP f + 1 ≤ fE f := by unfold fP fE; split <;> (try split) <;> (try split) <;> omega
theorem fin_field (f m : Nat) (hfin : finB f m = true) : wField f m ≤ 2 * fE f := by
  have hlt : wField f m < 2 ^ fK f := Nat.mod_lt _ (Nat.pow_pos (by omega))
  rw [← fE_pow] at hlt
  unfold finB clsN at hfin
  simp only [Bool.and_eq_true, decide_eq_true_eq] at hfin
  have h := hfin.2
  by_cases hx : wField f m = 2 * fE f + 1
  · rw [if_pos hx] at h
    split at h
    · omega
    · split at h <;> omega
  · omega

/-- The root's whole part, and whether that is not all. -/
def rR (f m : Nat) : Nat := isqrt (rN f m)
def rMore (f m : Nat) : Bool := decide (rR f m * rR f m ≠ rN f m)
theorem rN_256 (f m : Nat) (h0 : wSig f m ≠ 0) : rN f m < 2 ^ 256 := by
  have h := (uSig_in f m h0).2
  have hP := fP_in f
  have hb := rB_in f m
  have a := pow_lt_of (fP f) (k := rB f m) h
  have b : 2 ^ (fP f + rB f m) ≤ 2 ^ 256 := Nat.pow_le_pow_right (by omega) (by omega)
  unfold rN; omega
theorem rR_root (f m : Nat) (h0 : wSig f m ≠ 0) : IsRoot (rN f m) (rR f m) := (isqrt_spec (by rw [four_128]; exact rN_256 f m h0)).1
theorem rR_bl (f m : Nat) (h0 : wSig f m ≠ 0) : fP f < bl (rR f m) ∧ bl (rR f m) ≤ fP f + 3 ∧ fP f + rB f m ≤ 2 * bl (rR f m) ∧ 2 * bl (rR f m) ≤ fP f + rB f m + 1 := by
  obtain ⟨r1, r2⟩ := rR_root f m h0
  obtain ⟨s1, s2⟩ := uSig_in f m h0
  have hP := fP_in f
  have hb := rB_in f m
  obtain ⟨_, q1, q2, _⟩ := radicand_in (fP f) (uSig f m) (rB f m) (rR f m) (by omega) (by omega) s1 s2 (by omega) (by omega) r1 r2
  refine ⟨q1, q2, ?_, ?_⟩
  · have a1 := le_mul_pow (fP f - 1) (k := rB f m) s1
    have a2 := (bl_spec (rR f m)).1
    have a3 := Nat.mul_self_le_mul_self (show rR f m + 1 ≤ 2 ^ bl (rR f m) from a2)
    rw [← Nat.pow_add] at a3
    rcases Nat.lt_or_ge (2 * bl (rR f m)) (fP f + rB f m) with h | h
    · exfalso
      have : 2 ^ (bl (rR f m) + bl (rR f m)) ≤ 2 ^ (fP f - 1 + rB f m) := Nat.pow_le_pow_right (by omega) (by omega)
      unfold rN at r2
      omega
    · exact h
  · have a1 := pow_lt_of (fP f) (k := rB f m) s2
    have hr0 : rR f m ≠ 0 := fun e => by rw [e, bl_zero] at q1; omega
    have a2 := bl_lo hr0
    have a3 := Nat.mul_self_le_mul_self a2
    rw [← Nat.pow_add] at a3
    rcases Nat.lt_or_ge (fP f + rB f m + 1) (2 * bl (rR f m)) with h | h
    · exfalso
      have : 2 ^ (fP f + rB f m) ≤ 2 ^ (bl (rR f m) - 1 + (bl (rR f m) - 1)) := Nat.pow_le_pow_right (by omega) (by omega)
      unfold rN at r1
      omega
    · exact h

/-- A root's highest place, rounded, lies among the normal ones. -/
theorem root_range (f m mo : Nat) (hfin : finB f m = true) (h0 : wSig f m ≠ 0) : 1 - (fE f : Int) ≤ rX f m + (bl (rR f m) - fP f : Nat) + bl (cutN (rR f m) (bl (rR f m) - fP f) (rMore f m) mo false) - 1 ∧ rX f m + (bl (rR f m) - fP f : Nat) + bl (cutN (rR f m) (bl (rR f m) - fP f) (rMore f m) mo false) - 1 ≤ (fE f : Int) := by
  obtain ⟨q1, q2, q3, q4⟩ := rR_bl f m h0
  have hP := fP_in f
  have hE := fE_in f
  have hEP := fE_P f
  have hx := rX_eq f m
  have hf := fin_field f m hfin
  have hb1 := bl_pos h0
  have hb2 : bl (wSig f m) ≤ fP f := bl_le.2 (wSig_lt f m)
  obtain ⟨c1, c2⟩ := cutN_range (rR f m) (fP f) (rMore f m) mo false (by omega) q1
  obtain ⟨_, _, n3, n4⟩ := norm_sig (fP f) _ c1 c2 (by omega) (by omega)
  have hu : uExp f m = wExp f m - (fP f : Int) + (bl (wSig f m) : Int) := by unfold uExp uUp; omega
  have hw : wExp f m = ((wField f m - 1 : Nat) : Int) + (1 - (fE f : Int)) - fP f + 1 := rfl
  generalize bl (cutN (rR f m) (bl (rR f m) - fP f) (rMore f m) mo false) = ku at *
  generalize bl (rR f m) = kr at *
  generalize bl (wSig f m) = ks at *
  generalize uExp f m = ue at *
  generalize rX f m = x at *
  generalize rB f m = b at *
  generalize wField f m = fld at *
  generalize wExp f m = we at *
  clear c1 c2 hfin h0
  constructor <;> omega

/-- A root's word and flags. -/
def rootW (f mo m : Nat) : Nat × Nat := rndR f mo false (rX f m) (rR f m) (rMore f m)
theorem rootW_in (f m mo : Nat) (hfin : finB f m = true) (h0 : wSig f m ≠ 0) (tp : Int) (htp : tp = rX f m + (bl (rR f m) - fP f : Nat) + bl (cutN (rR f m) (bl (rR f m) - fP f) (rMore f m) mo false) - 1) :
    (rootW f mo m).1 = encW f false (tp - (1 - (fE f : Int))).toNat (cutN (rR f m) (bl (rR f m) - fP f) (rMore f m) mo false * 2 ^ fP f / 2 ^ bl (cutN (rR f m) (bl (rR f m) - fP f) (rMore f m) mo false)) ∧
      ((rootW f mo m).2 : Int) = if decide (restN (rR f m) (bl (rR f m) - fP f) (rMore f m) ≠ 0) then 16 else 0 := by
  obtain ⟨a1, a2⟩ := root_range f m mo hfin h0
  obtain ⟨q1, _⟩ := rR_bl f m h0
  have e : rX f m + (bl (rR f m) : Int) - fP f + bl (cutN (rR f m) (bl (rR f m) - fP f) (rMore f m) mo false) - 1 = tp := by omega
  unfold rootW rndR
  rw [e, if_neg (by omega), if_neg (by omega)]
  refine ⟨rfl, ?_⟩
  dsimp only
  by_cases h : restN (rR f m) (bl (rR f m) - fP f) (rMore f m) = 0
  · rw [if_pos h]; simp [h]
  · rw [if_neg h]; simp [h]

set_option maxHeartbeats 2000000 in
theorem root_Finite (bs br : Nat) (hbs : bs ≠ 0) (hbr : br ≠ 0) (c : Array Value) (hc : RomOk c) (q : Nat → Int) (L : List (Nat × Obj)) (hS : SetSt bs br c q L) (k : Nat) (h1 : 1 ≤ k) (h2 : k ≤ 4) (hq1 : 0 ≤ q k) (hq2 : q k ≤ 1000)
    (f : Nat) (f1 : 1 ≤ f) (f4 : f ≤ 4) (mo : Nat) (m1 : 1 ≤ mo) (m5 : mo ≤ 5) (m : Nat) (hm : m < 2 ^ fB f) (hfin : finB f m = true) (h0 : wSig f m ≠ 0) (hng : wNeg f m = false) (w0 : World) (hF : FmtIn w0) (hL : Owns w0 L) :
    GivesZ Tryz.prog 7 #[.pointer (some ⟨bs, 0, none⟩), .int .i64 k, .int .i64 f, .int .i64 mo, Wd m] [bs, br] L (fun L' v => v = .tuple #[Wd (rootW f mo m).1, .int .i64 ((rootW f mo m).2 : Nat), .int .i64 0] ∧ SetSt bs br (romK k (rN f m) c) (bump k q) L') w0 := by
  refine ⟨fun y hy => by simp only [List.mem_cons, List.not_mem_nil, or_false] at hy; rcases hy with rfl | rfl; exact hS.bs.1; exact hS.bs.2, ?_⟩
  have hst := St.ofOwns [bs, br] hL
  have hk := Lib.hid (fun w (k : Keeps [bs, br] w0 w) => hF.keep k (by simp only [List.mem_cons, List.not_mem_nil, or_false, not_or]; exact ⟨fun e => hbs e.symm, fun e => hbr e.symm⟩))
  have hpa := fun w h => root_Parts f f1 f4 m hm hfin h0 hng w h
  have hmay := fun (w : World) (ho : Owns w L) => root_may bs br c q L hS k h1 h2 mo m1 m5 w ho
  obtain ⟨tp, htp⟩ : ∃ tp, tp = rX f m + (bl (rR f m) - fP f : Nat) + bl (cutN (rR f m) (bl (rR f m) - fP f) (rMore f m) mo false) - 1 := ⟨_, rfl⟩
  obtain ⟨a1, a2⟩ := root_range f m mo hfin h0
  rw [← htp] at a1 a2
  obtain ⟨e1, e2⟩ := rootW_in f m mo hfin h0 tp htp
  obtain ⟨b1, b2, _, _⟩ := rR_bl f m h0
  have hP := fP_in f
  have hue := uExp_in f m
  have hrx := rX_eq f m
  have hrb := rB_in f m
  have hr := rR_root f m h0
  have hmore : decide (rN f m - rR f m * rR f m = 0) = !(rMore f m) := by
    unfold rMore
    have := hr.1
    by_cases h : rR f m * rR f m = rN f m
    · rw [decide_eq_true (by omega)]; simp [h]
    · rw [decide_eq_false (by omega)]; simp [h]
  have hrd := fun L' (hS' : SetSt bs br c q L') (w : World) (hw : FmtIn w) (ho : Owns w L') => root_rounded bs br hbs hbr c hc q L' hS' k h1 h2 hq1 hq2 f f1 f4 mo m1 m5 (rN f m) (rN_256 f m h0) (rX f m) (by omega) (by omega) (rR f m) rfl (by omega) b1 (rMore f m) hmore tp htp a1 a2 _ _ e1 e2 w hw ho
  clear hS hL hF hc h1 h2 hq1 hq2 hbs hbr m1 m5 f1 f4 hm hfin h0 hng htp a1 a2 e1 e2 b1 b2 hue hrx hrb hr hmore hP
  generalize (rootW f mo m).1 = res at *
  generalize ((rootW f mo m).2 : Int) = fl at *
  generalize romK k (rN f m) c = c' at *
  generalize bump k q = q' at *
  generalize rN f m = n at *
  generalize rX f m = x at *
  go_enter Tryz.func7, Tryz.ntmps7
  go_wp2_with ((first | (refine kg gf23 hst (fun w hst => hpa w (hk.out w hst.keeps)) rfl rfl rfl rfl ?_; clear hst; intro w hst) | (refine kZ (o := ⟨some 28, _, _, _, _, _⟩) (fun L' => (b13, .cells (wc 8 n) 44) :: (b10, .cells (wc 2 0) 24) :: (b9, .cells (wdc m) 24) :: L') gf29 hst (fun w hst => hmay w (hst.owns (L := L) (.there (.there (.there .here))))) rfl rfl rfl rfl ?_; clear hst; intro v28 L1 w hR1 hnew1 hst; obtain ⟨rfl, hS1⟩ := hR1) | (refine kZ (o := ⟨some 39, _, _, _, _, _⟩) (fun L' => (b13, .cells (wc 8 n) 44) :: (b10, .cells (wc 2 0) 24) :: (b9, .cells (wdc m) 24) :: L') gf30 hst (fun w hst => hrd L1 hS1 w (hk.out w hst.keeps) (hst.owns (L := L1) (.there (.there (.there .here))))) rfl rfl rfl rfl ?_; clear hst; intro v39 L2 w hR2 hnew2 hst; obtain ⟨rfl, hS2⟩ := hR2) | (refine kb 9 hst rfl rfl ?_; clear hst; intro b9 w hb9 hst) | (refine ka 10 hst tz24 rfl rfl ?_; clear hst; intro b10 w hb10 hst) | (refine kl hst ta24 rfl ?_) | (refine ka 13 hst tz44 rfl rfl ?_; clear hst; intro b13 w hb13 hst) | (refine kt hst ta44 rfl rfl ?_; clear hst; intro w hst) | (refine kt hst ta24 rfl rfl ?_; clear hst; intro w hst) | (refine kl hst ta44 rfl ?_)); try simp only [pz, pn, sz, sc])
  exact bp_ctt rfl rfl (la hst ta24) (by rfl) (by rfl) (PostZ.of hst ⟨rfl, hS2⟩ (fun y hy => (hnew2 y hy).elim (fun h => by
    obtain ⟨z, hz, e⟩ := List.mem_map.1 h
    rw [← e]; exact hnew1 z hz) .inr))

end Go.Proofs.YtefpoconpeggpaaGreatDoor.Rd

namespace Go.Proofs.YtefpoconpeggpaaGreatDoor.Rd
open Go Go.RowKit
set_option linter.unusedVariables false
set_option linter.unusedSimpArgs false
set_option maxRecDepth 100000

theorem fB_pow (f : Nat) (h1 : 1 ≤ f) (h4 : f ≤ 4) : fB f = 8 * 2 ^ f := by
  obtain rfl | rfl | rfl | rfl : f = 1 ∨ f = 2 ∨ f = 3 ∨ f = 4 := by omega
  all_goals rfl

set_option maxHeartbeats 1000000 in
theorem ref05_Bits (f : Nat) (h1 : 1 ≤ f) (h4 : f ≤ 4) : Gives Tryz.prog 66 #[.int .i64 f] (.int .i64 (fB f : Nat)) := by
  intro w0
  have hst := St.start [] w0
  have hB := Lib.hid (fB_pow f h1 h4)
  obtain ⟨res, hres⟩ : ∃ res : Nat, res = fB f := ⟨_, rfl⟩
  rw [← hres]
  have hres' := Lib.hid hres
  clear hres
  go_enter Tryz.func66, Tryz.ntmps66
  go_wp2_with fail
  go_loopw [3, 4] (fun vn vi wr => ∃ i : Nat, i ≤ f ∧ vi = .int .i64 i ∧ vn = .int .i64 (8 * 2 ^ i : Nat) ∧ St w0 [] [] wr) (fun _ vi _ => f - (intOf vi).toNat)
  case atStart => exact ⟨0, by omega, rfl, rfl, hst⟩
  case round =>
    clear hst
    obtain ⟨i, hi, rfl, rfl, hst⟩ := hrel
    have hp : 2 ^ i ≤ 2 ^ 4 := Nat.pow_le_pow_right (by omega) (by omega)
    obtain ⟨n, hn⟩ : ∃ n : Nat, n = 8 * 2 ^ i := ⟨_, rfl⟩
    have hn' := Lib.hid hn
    have hnl : n ≤ 128 := by omega
    by_cases hlt : i < f
    · have i1 : (i : Int) < (f : Int) := by omega
      rw [← hn]
      clear hn hp
      go_wp2_with fail
      refine ⟨⟨i + 1, by omega, by go_num, ?_, hst⟩, ?_⟩
      · rw [Nat.pow_succ, ← Nat.mul_assoc, ← hn'.out]; go_num
      · (simp [intOf]; try omega)
    · obtain rfl : i = f := by omega
      have i1 : ¬ (i : Int) < (i : Int) := by omega
      rw [← hn]
      have e : n = res := by rw [hn'.out, hres'.out]; exact hB.out.symm
      subst e
      clear hn hp
      go_wp2_with fail
      refine bp_t rfl rfl (by rfl) ⟨?_, hst.keeps⟩
      rfl

theorem ref05_Field (f : Nat) (h1 : 1 ≤ f) (h4 : f ≤ 4) : Gives Tryz.prog 81 #[.int .i64 f] (.int .i64 (fK f : Nat)) := by
  intro w0
  have hst := St.start [] w0
  have hb := ref05_Bits f h1 h4
  have hp := ref05_Prec f h1 h4
  have e := fBPK f
  have a := fP_in f
  have b := fB_in f
  have E : (fB f : Int) - (fP f : Int) = (fK f : Int) := by omega
  generalize fB f = x at *
  generalize fP f = y at *
  generalize fK f = z at *
  clear e
  go_enter Tryz.func81, Tryz.ntmps81
  go_wp2_with ((first | (refine kf gf66 hst (hb) rfl rfl rfl rfl ?_; clear hst; intro w hst) | (refine kf gf25 hst (hp) rfl rfl rfl rfl ?_; clear hst; intro w hst)); try simp only [pz, pn, sz, sc])
  refine bp_t rfl rfl (by rfl) ⟨?_, hst.keeps⟩
  rfl

set_option maxHeartbeats 1000000 in
theorem ref05_EMax (f : Nat) (h1 : 1 ≤ f) (h4 : f ≤ 4) : Gives Tryz.prog 51 #[.int .i64 f] (.int .i64 (fE f : Nat)) := by
  intro w0
  have hst := St.start [] w0
  have hf := ref05_Field f h1 h4
  have hK := fK_in f
  have hE := Lib.hid (fE_pow f)
  obtain ⟨K, hKd⟩ : ∃ K : Nat, K = fK f := ⟨_, rfl⟩
  rw [← hKd] at hf hK
  have hKd' := Lib.hid hKd
  clear hKd h1 h4
  go_enter Tryz.func51, Tryz.ntmps51
  go_wp2_with fail
  go_loopw [3, 4] (fun vn vi wr => ∃ i : Nat, i + 1 ≤ K ∧ vi = .int .i64 ((i : Int) + 1) ∧ vn = .int .i64 (2 ^ i : Nat) ∧ St w0 [] [] wr) (fun _ vi _ => K - (intOf vi).toNat)
  case atStart => exact ⟨0, by omega, rfl, rfl, hst⟩
  case round =>
    clear hst
    obtain ⟨i, hi, rfl, rfl, hst⟩ := hrel
    have hp : 2 ^ i ≤ 2 ^ 14 := Nat.pow_le_pow_right (by omega) (by omega)
    obtain ⟨n, hn⟩ : ∃ n : Nat, n = 2 ^ i := ⟨_, rfl⟩
    have hn' := Lib.hid hn
    have hnl : n ≤ 16384 := by omega
    by_cases hlt : i + 1 < K
    · have i1 : (i : Int) + 1 < (K : Int) := by omega
      rw [← hn]
      clear hn hp
      go_wp2_with ((first | (refine kf gf81 hst (hf) rfl rfl rfl rfl ?_; clear hst; intro w hst)); try simp only [pz, pn, sz, sc])
      refine ⟨⟨i + 1, by omega, by go_num, ?_, hst⟩, ?_⟩
      · rw [Nat.pow_succ, ← hn'.out]; go_num
      · (simp [intOf]; try omega)
    · have i1 : ¬ (i : Int) + 1 < (K : Int) := by omega
      rw [← hn]
      have e : (n : Int) - 1 = (fE f : Int) := by
        have a := hE.out
        have b : fK f = i + 1 := by rw [← hKd'.out]; omega
        rw [b, Nat.pow_succ, ← hn'.out] at a
        omega
      have e' := Lib.hid e
      clear hn hp e
      go_wp2_with ((first | (refine kf gf81 hst (hf) rfl rfl rfl rfl ?_; clear hst; intro w hst)); try simp only [pz, pn, sz, sc])
      refine bp_t rfl rfl (by rfl) ⟨?_, hst.keeps⟩
      rw [← e'.out]; rfl

theorem ref05_EMin (f : Nat) (h1 : 1 ≤ f) (h4 : f ≤ 4) : Gives Tryz.prog 37 #[.int .i64 f] (.int .i64 (1 - (fE f : Int))) := by
  intro w0
  have hst := St.start [] w0
  have he := ref05_EMax f h1 h4
  have hE := fE_in f
  generalize fE f = x at *
  go_enter Tryz.func37, Tryz.ntmps37
  go_wp2_with ((first | (refine kf gf51 hst (he) rfl rfl rfl rfl ?_; clear hst; intro w hst)); try simp only [pz, pn, sz, sc])
  refine bp_t rfl rfl (by rfl) ⟨?_, hst.keeps⟩
  rfl

set_option maxHeartbeats 1000000 in
theorem ref05_Bit (m i : Nat) (hm : m < M2) (hi : i < 128) : Gives Tryz.prog 67 #[Wd m, .int .i64 i] (.bool (m.testBit i)) := by
  intro w0
  have hst := St.start [] w0
  obtain ⟨j, hj⟩ : ∃ j, j = i / 64 := ⟨_, rfl⟩
  obtain ⟨r, hr⟩ : ∃ r, r = i % 64 := ⟨_, rfl⟩
  obtain ⟨x, hx⟩ : ∃ x, x = lb m j := ⟨_, rfl⟩
  have hxB : x < B := by rw [hx]; exact lb_lt _ _
  obtain ⟨y, hy⟩ : ∃ y, y = x / 2 ^ r := ⟨_, rfl⟩
  have hyB : y < B := by rw [hy]; exact Nat.lt_of_le_of_lt (Nat.div_le_self _ _) hxB
  have hy' : (x : Int) / 2 ^ r = (y : Int) := by rw [hy, cast_pow2]; omega
  have hres : ((y : Int) % 2 == 1) = m.testBit i := by
    have e : m.testBit i = x.testBit r := by
      rw [hx, lb_testBit, show 64 * j + r = i by omega]
      have : r < 64 := by omega
      simp [this]
    rw [e, Bool.eq_iff_iff, ← testBit_mod2, ← hy]
    simp; omega
  have hres' := Lib.hid hres
  have hrs : r < 64 := by omega
  clear hres hy
  by_cases h64 : 64 ≤ i
  · obtain rfl : j = 1 := by omega
    have Q1 : (i : Int) - 64 = (r : Int) := by omega
    have Q2 : (64 : Int) ≤ (i : Int) := by omega
    have Q3 : (0 : Int) ≤ (r : Int) := by omega
    have hx' : lb m 1 = x := hx.symm
    clear hj hr hx h64
    go_enter Tryz.func67, Tryz.ntmps67
    go_wp2_with ((first | (refine kb 2 hst rfl rfl ?_; clear hst; intro b2 w hb2 hst) | (refine kc hst tc22 rfl ?_)); try simp only [pz, pn, sz, sc])
    refine bp_t rfl rfl (by rfl) ⟨?_, hst.keeps⟩
    exact congrArg (fun b => Ending.returned (Value.bool b)) hres'.out
  · obtain rfl : j = 0 := by omega
    obtain rfl : r = i := by omega
    have Q2 : ¬ (64 : Int) ≤ (r : Int) := by omega
    have Q3 : (0 : Int) ≤ (r : Int) := by omega
    have hx' : lb m 0 = x := hx.symm
    clear hj hr hx h64
    go_enter Tryz.func67, Tryz.ntmps67
    go_wp2_with ((first | (refine kb 2 hst rfl rfl ?_; clear hst; intro b2 w hb2 hst) | (refine kc hst tc22 rfl ?_)); try simp only [pz, pn, sz, sc])
    refine bp_t rfl rfl (by rfl) ⟨?_, hst.keeps⟩
    exact congrArg (fun b => Ending.returned (Value.bool b)) hres'.out

theorem fits_bits (m n : Nat) (hm : m < 2 ^ 128) (h : ∀ j, n ≤ j → j < 128 → m.testBit j = false) : m < 2 ^ n := by
  apply Nat.lt_pow_two_of_testBit
  intro j hj
  rcases Nat.lt_or_ge j 128 with h' | h'
  · exact h j hj h'
  · exact Nat.testBit_lt_two_pow (Nat.lt_of_lt_of_le hm (Nat.pow_le_pow_right (by omega) h'))

set_option maxHeartbeats 1000000 in
theorem ref05_Fits (f : Nat) (h1 : 1 ≤ f) (h4 : f ≤ 4) (m : Nat) (hm : m < M2) : Gives Tryz.prog 68 #[.int .i64 f, Wd m] (.bool (decide (m < 2 ^ fB f))) := by
  intro w0
  have hst := St.start [] w0
  have his := ref05_Is f h1 h4
  have hb := ref05_Bits f h1 h4
  have hbit := Lib.hid (fun i (hi : i < 128) => ref05_Bit m i hm hi)
  have hB := fB_in f
  have hm128 : m < 2 ^ 128 := by have c : M2 = 2 ^ 128 := by decide
                                 omega
  have hyes := Lib.hid (fits_bits m (fB f) hm128)
  have hno := Lib.hid (show ∀ j, fB f ≤ j → m.testBit j = true → ¬ m < 2 ^ fB f from fun j hj ht hlt => by
    rw [Nat.testBit_lt_two_pow (Nat.lt_of_lt_of_le hlt (Nat.pow_le_pow_right (by omega) hj))] at ht
    exact absurd ht (by simp))
  obtain ⟨res, hres⟩ : ∃ res, res = decide (m < 2 ^ fB f) := ⟨_, rfl⟩
  rw [← hres]
  have hres' := Lib.hid hres
  clear hm h1 h4 hres hm128
  obtain ⟨bb, hbb⟩ : ∃ bb, bb = fB f := ⟨_, rfl⟩
  rw [← hbb] at hb hB
  have hbb' := Lib.hid hbb
  clear hbb
  go_enter Tryz.func68, Tryz.ntmps68
  go_wp2_with ((first | (refine kf gf100 hst (his) rfl rfl rfl rfl ?_; clear hst; intro w hst) | (refine kf gf66 hst (hb) rfl rfl rfl rfl ?_; clear hst; intro w hst) | (refine kb 3 hst rfl rfl ?_; clear hst; intro b3 w hb3 hst)); try simp only [pz, pn, sz, sc])
  go_loopw [5] (fun vn wr => ∃ n : Nat, bb ≤ n ∧ n ≤ 128 ∧ vn = .int .i64 n ∧ (∀ j, bb ≤ j → j < n → m.testBit j = false) ∧ St w0 [] [(b3, .cells (wdc m) 24)] wr) (fun vn _ => 128 - (intOf vn).toNat)
  case atStart => exact ⟨bb, by omega, by omega, rfl, fun j a b => absurd b (by omega), hst⟩
  case round =>
    clear hst
    obtain ⟨n, n1, n2, rfl, hall, hst⟩ := hrel
    have hall' := Lib.hid hall
    clear hall
    by_cases hlt : n < 128
    · have i1 : (n : Int) < 128 := by omega
      have hbn := hbit.out n hlt
      cases ht : m.testBit n
      · rw [ht] at hbn
        have ht' := Lib.hid ht
        clear ht
        go_wp2_with ((first | (refine kf gf67 hst (hbn) rfl rfl rfl rfl ?_; clear hst; intro w hst) | (refine kl hst ta24 rfl ?_)); try simp only [pz, pn, sz, sc])
        refine ⟨⟨n + 1, by omega, by omega, by go_num, fun j a b => by
          rcases Nat.lt_or_eq_of_le (Nat.le_of_lt_succ b) with h | h
          · exact hall'.out j a h
          · rw [h]; exact ht'.out, hst⟩, ?_⟩
        (simp [intOf]; try omega)
      · rw [ht] at hbn
        have e : res = false := by rw [hres'.out]; exact decide_eq_false (hno.out n (by rw [← hbb'.out]; exact n1) ht)
        subst e
        clear ht
        go_wp2_with ((first | (refine kf gf67 hst (hbn) rfl rfl rfl rfl ?_; clear hst; intro w hst) | (refine kl hst ta24 rfl ?_)); try simp only [pz, pn, sz, sc])
        refine bp_t rfl rfl (by rfl) ⟨?_, hst.keeps⟩
        rfl
    · obtain rfl : n = 128 := by omega
      have i1 : ¬ ((128 : Nat) : Int) < 128 := by omega
      have e : res = true := by rw [hres'.out]; exact decide_eq_true (hyes.out (fun j a b => hall'.out j (by rw [hbb'.out]; exact a) b))
      subst e
      go_wp2_with fail
      refine bp_t rfl rfl (by rfl) ⟨?_, hst.keeps⟩
      rfl

theorem ref05_Fits_no (f : Int) (h : f < 1 ∨ 4 < f) (m : Nat) : Gives Tryz.prog 68 #[.int .i64 f, Wd m] (.bool false) := by
  intro w0
  have hst := St.start [] w0
  have his := ref05_Is_no f h
  clear h
  go_enter Tryz.func68, Tryz.ntmps68
  go_wp2_with ((first | (refine kf gf100 hst (his) rfl rfl rfl rfl ?_; clear hst; intro w hst) | (refine kb 3 hst rfl rfl ?_; clear hst; intro b3 w hb3 hst)); try simp only [pz, pn, sz, sc])
  refine bp_t rfl rfl (by rfl) ⟨?_, hst.keeps⟩
  rfl

end Go.Proofs.YtefpoconpeggpaaGreatDoor.Rd
