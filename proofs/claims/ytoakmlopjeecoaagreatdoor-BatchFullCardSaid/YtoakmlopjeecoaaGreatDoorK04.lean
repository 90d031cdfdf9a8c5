/- What wide.made, Shl, down, Shr, Sar answer, as numbers. -/
import Derived.Test.YtoakmlopjeecoaaGreatDoorK03
import Derived.Test.YtoakmlopjeecoaaGreatDoorK02
namespace Go.Proofs.YtoakmlopjeecoaaGreatDoor.Rd
open Go Go.RowKit
set_option linter.unusedVariables false
set_option linter.unusedSimpArgs false
set_option maxRecDepth 100000

section
variable {P : Program} {ops : Array Oper} {rest : List Oper} {Q : Exit → Act → World → Prop} {a : Act} {w w0 : World} {S : List Nat} {L : List (Nat × Obj)}

theorem run_sizeT {e : TypeId} {n : Nat} (he : AggT P e n) (w : World) : (sizeOf e).run P w = .ok n w := by
  obtain ⟨d, hu, hd, hs⟩ := he
  cases hq : P.info? e with
  | none => simp [hq] at hs
  | some i =>
    have : i.size = n := by simpa [hq] using hs
    simp [sizeOf, typeInfo, hq, this]
theorem run_isAgg_yes {T : TypeId} {n : Nat} (hT : AggT P T n) (w : World) : (isAgg T).run P w = .ok true w := by
  obtain ⟨d, hu, hd, hs⟩ := hT
  unfold isAgg
  rw [Sem.run_bind, run_underlying hu w]
  cases d <;> simp_all [descAgg]
theorem part_agg {e : TypeId} {n : Nat} (he : AggT P e n) (cs : Array Value) (o : Nat) (w : World) : (part e cs o).run P w = .ok (.agg (cs.extract o (o + n))) w := by
  simp [part, Sem.run_bind, run_isAgg_yes he w, run_sizeT he w]

theorem run_eqItems_ints {e : TypeId} {k : IntKind} (he : CellT P e) (hu : P.underlying e = some (.int k)) (d : Nat) (xs ys : Array Value) (f g : Nat → Int) (w : World) :
    ∀ is : List Nat, (∀ j ∈ is, xs[j]? = some (.int k (f j)) ∧ ys[j]? = some (.int k (g j))) → (Op.eqItems (d + 1) e 1 xs ys is).run P w = .ok (is.all fun j => f j == g j) w
  | [], _ => by simp [Op.eqItems]
  | j :: is, h => by
    obtain ⟨d', hu', hd, hs⟩ := he
    have hj := h j List.mem_cons_self
    have ih := run_eqItems_ints ⟨d', hu', hd, hs⟩ hu d xs ys f g w is (fun j hj => h j (List.mem_cons_of_mem _ hj))
    have p1 : (part e xs (j * 1)).run P w = .ok (.int k (f j)) w := by
      rw [Nat.mul_one]; simp [part, Sem.run_bind, run_isAgg_no d' hu' hd w, hj.1]
    have p2 : (part e ys (j * 1)).run P w = .ok (.int k (g j)) w := by
      rw [Nat.mul_one]; simp [part, Sem.run_bind, run_isAgg_no d' hu' hd w, hj.2]
    have p3 := run_equalIn_int w d e k k (f j) (g j) hu
    simp only [Op.eqItems, Sem.run_bind, p1, p2, p3, Result.andThen_ok, List.all_cons]
    cases hq : f j == g j
    · simp
    · simpa using ih
theorem run_equal_ints {T e : TypeId} {n : Nat} {k : IntKind} (hT : ArrT P T n e) (he : CellT P e) (hu : P.underlying e = some (.int k)) (d : Nat) (xs ys : Array Value) (f g : Nat → Int)
    (h : ∀ j, j < n → xs[j]? = some (.int k (f j)) ∧ ys[j]? = some (.int k (g j))) (w : World) : (Op.equalIn (d + 2) T (.agg xs) (.agg ys)).run P w = .ok ((List.range n).all fun j => f j == g j) w := by
  have hk : P.cellsOf e = 1 := by
    obtain ⟨d', hu', hd, hs⟩ := he
    unfold Program.cellsOf
    rw [hs]
    rfl
  have hinf : ∃ i, P.info? e = some i := by
    obtain ⟨d', hu', hd, hs⟩ := he
    cases hq : P.info? e with
    | none => simp [hq] at hs
    | some i => exact ⟨i, rfl⟩
  obtain ⟨i, hi⟩ := hinf
  rw [run_equalIn_array w (d + 1) xs ys (show P.underlying T = some (.array n e) from hT) hi, hk]
  exact run_eqItems_ints he hu d xs ys f g w _ (fun j hj => h j (List.mem_range.1 hj))

/-- Whether two aggregates are the same, by whatever law. -/
theorem keV {o : Oper} {T R : TypeId} {x y : Operand} {xs ys : Array Value} {r : Bool} (he : ∀ w, (Op.equalIn 10000 T (.agg xs) (.agg ys)).run P w = .ok r w) (ho : o.op = .binOp .eql T x y R) (h : wpList P ops Q rest (a.put o.dst (.bool r)) w)
    (hx : a.eval x = .agg xs := by rfl) (hy : a.eval y = .agg ys := by rfl) (hq : P.eqGuardType P.depth T = false := by kernel_rfl) (hg : o.guard = none := by rfl) : wpList P ops Q (o :: rest) a w := by
  have h1 : (binOp .eql T (.agg xs) (.agg ys)).run P w = .ok (.bool r) w := by rw [run_eql_struct, he]; rfl
  have h2 := run_eqGuard_agg (P := P) w .eql T x y xs ys hq
  refine wpList_plain hg fun K hK => ?_
  unfold Oper.wp execOp
  simp only [ho, hx, hy, Sem.run_bind, h1, h2, Sem.run_pure, Result.andThen_ok]
  exact hK _ _ h
end

/-- A result's cells. -/
def resC (a : Nat) (f s : Int) : Array Value := wdc a ++ #[.int .i64 f, .int .i64 s]
theorem resC_size (a : Nat) (f s : Int) : (resC a f s).size = 4 := by simp [resC, wdc]
theorem resC_one (a : Nat) (f s : Int) : OneC (resC a f s) := ⟨by unfold resC; rw [Array.all_append, wdc_one]; simp [Value.oneCell']⟩
theorem resC_2 (a : Nat) (f s : Int) : (resC a f s)[0 + 2]? = some (.int .i64 f) ∧ (resC a f s)[0 + 3]? = some (.int .i64 s) := ⟨rfl, rfl⟩
theorem badR_eq : badR = resC 0 0 1 := by kernel_rfl
/-- The cells of counts. -/
def ctC (n m : Int) (f : Nat → Int) : Array Value := #[.int .i64 n, .int .i64 m, .int .i64 (f 0), .int .i64 (f 1), .int .i64 (f 2), .int .i64 (f 3), .int .i64 (f 4)]
theorem ctT : FieldsT Tryz.prog 36 [(3, 0), (3, 1), (34, 2)] := ⟨by kernel_rfl, by kernel_rfl, by kernel_rfl, by kernel_rfl⟩
theorem ct_same (n m : Int) (f : Nat → Int) (w : World) : (Op.equalIn 10000 36 (.agg (ctC n m f)) (.agg (ctC n m f))).run Tryz.prog w = .ok true w := by
  have hi : CellT Tryz.prog 3 := CellT.of (by kernel_rfl)
  have hr : ArrT Tryz.prog 34 5 3 := by unfold ArrT; kernel_rfl
  have ha : AggT Tryz.prog 34 5 := AggT.of (by kernel_rfl)
  have hu : Tryz.prog.underlying 3 = some (.int .i64) := by kernel_rfl
  have hg : ∀ j, j < 5 → ((ctC n m f).extract 2 (2 + 5))[j]? = some (.int .i64 (f j)) := fun j hj => by
    obtain rfl | rfl | rfl | rfl | rfl : j = 0 ∨ j = 1 ∨ j = 2 ∨ j = 3 ∨ j = 4 := by omega
    all_goals rfl
  have h := run_equal_fields (d := 9999) ctT (.cons (part_cell hi (show (ctC n m f)[0]? = _ from rfl)) (part_cell hi (show (ctC n m f)[0]? = _ from rfl)) (fun w => run_equalIn_int w 9998 _ .i64 .i64 _ _ hu)
    (.cons (part_cell hi (show (ctC n m f)[1]? = _ from rfl)) (part_cell hi (show (ctC n m f)[1]? = _ from rfl)) (fun w => run_equalIn_int w 9998 _ .i64 .i64 _ _ hu)
    (.cons (fun w => part_agg ha (ctC n m f) 2 w) (fun w => part_agg ha (ctC n m f) 2 w) (fun w => run_equal_ints hr hi hu 9997 _ _ f f (fun j hj => ⟨hg j hj, hg j hj⟩) w) .nil))) w
  rw [h]
  simp

end Go.Proofs.YtoakmlopjeecoaaGreatDoor.Rd

namespace Go.Proofs.YtoakmlopjeecoaaGreatDoor.Rd
open Go Go.RowKit
set_option linter.unusedVariables false
set_option linter.unusedSimpArgs false
set_option maxRecDepth 100000

def C : Nat := 4294967296
theorem C_pow (k : Nat) : C ^ k = 2 ^ (32 * k) := by rw [show C = 2 ^ 32 from rfl, ← Nat.pow_mul]
/-- A digit by 2^32. -/
def dg (n i : Nat) : Nat := n / C ^ i % C
/-- How many digits by 2^32. -/
def dl (n : Nat) : Nat := (bl n + 31) / 32
theorem dl_le {n l : Nat} : dl n ≤ l ↔ n < C ^ l := by
  rw [C_pow, ← bl_le]; unfold dl; omega
theorem dl_lt (n : Nat) : n < C ^ dl n := dl_le.1 (Nat.le_refl _)
/-- The slice v of l digits holds n. -/
def BigAt (w : World) (v : Value) (l n : Nat) : Prop :=
  n < C ^ l ∧ l ≤ 1000000 ∧ ∃ a cap, v = .slice a l cap ∧ l ≤ cap ∧ (0 < l → ∃ g cur E, a = some ⟨g, 0, none⟩ ∧ w.heap[g]? = some (.cells cur E (0, 0)) ∧ ∀ j, j < l → cur[j]? = some (.int .u32 (dg n j : Nat)))
theorem BigAt.keep {w w' : World} {v : Value} {l n : Nat} (h : BigAt w v l n) (k : Keeps [] w w') : BigAt w' v l n := by
  obtain ⟨h1, h2, a, cap, h3, h4, h5⟩ := h
  refine ⟨h1, h2, a, cap, h3, h4, fun h0 => ?_⟩
  obtain ⟨g, cur, E, h6, h7, h8⟩ := h5 h0
  refine ⟨g, cur, E, h6, ?_, h8⟩
  rw [k.block g _ (by simp)]
  · exact h7
  · rcases Nat.lt_or_ge g w.heap.size with h | h
    · exact h
    · rw [Array.getElem?_eq_none h] at h7; cases h7

end Go.Proofs.YtoakmlopjeecoaaGreatDoor.Rd

namespace Go.Proofs.YtoakmlopjeecoaaGreatDoor.Rd
open Go Go.RowKit
set_option linter.unusedVariables false
set_option linter.unusedSimpArgs false
set_option maxRecDepth 100000

theorem u64_wrap' (x : Int) (n c : Nat) (h : x = (n : Int)) (hc : n % B = c) : IntKind.u64.wrap x = (c : Int) := by
  rw [h, u64_wrap, hc]

end Go.Proofs.YtoakmlopjeecoaaGreatDoor.Rd

namespace Go.Proofs.YtoakmlopjeecoaaGreatDoor.Rd
open Go Go.RowKit
set_option linter.unusedVariables false
set_option linter.unusedSimpArgs false
set_option maxRecDepth 100000

/-- v holds n, without noughts at the end, in blocks of Lg, all from s on. -/
def BigIn (s : Nat) (Lg : List (Nat × Obj)) (v : Value) (n : Nat) : Prop :=
  (∀ x ∈ Lg, s ≤ x.1) ∧ (Lg.map Prod.fst).Nodup ∧ dl n ≤ 1000000 ∧ ∃ a cap, v = .slice a (dl n) cap ∧ dl n ≤ cap ∧ (0 < dl n → ∃ g cur E, a = some ⟨g, 0, none⟩ ∧ (g, .cells cur E (0, 0)) ∈ Lg ∧ ∀ j, j < dl n → cur[j]? = some (.int .u32 (dg n j : Nat)))
theorem BigIn.at {s : Nat} {Lg : List (Nat × Obj)} {v : Value} {n : Nat} (h : BigIn s Lg v n) {w0 w : World} {S : List Nat} {L : List (Nat × Obj)} (hst : St w0 S L w) (hs : ∀ x ∈ Lg, x ∈ L) : BigAt w v (dl n) n := by
  obtain ⟨_, _, hl, a, cap, h1, h2, h3⟩ := h
  refine ⟨dl_lt n, hl, a, cap, h1, h2, fun h0 => ?_⟩
  obtain ⟨g, cur, E, h4, h5, h6⟩ := h3 h0
  exact ⟨g, cur, E, h4, hst.own _ _ (hs _ h5), h6⟩

def PostB (w0 : World) (n : Nat) (e : Ending) (w' : World) : Prop := ∃ v Lg, e = .returned v ∧ Keeps [] w0 w' ∧ BigIn w0.heap.size Lg v n ∧ ∀ b o, (b, o) ∈ Lg → w'.heap[b]? = some o
theorem PostB.of {w0 w : World} {n : Nat} {v : Value} {Lg L : List (Nat × Obj)} (hst : St w0 [] L w) (hb : BigIn w0.heap.size Lg v n) (hs : ∀ x ∈ Lg, x ∈ L) : PostB w0 n (.returned v) w := ⟨v, Lg, rfl, hst.keeps, hb, fun b o h => hst.own b o (hs _ h)⟩

theorem St.more {w0 w w' : World} {S : List Nat} {L Lg : List (Nat × Obj)} (h : St w0 S L w) (k : Keeps [] w w') (h1 : ∀ x ∈ Lg, w.heap.size ≤ x.1) (h2 : (Lg.map Prod.fst).Nodup) (h3 : ∀ b o, (b, o) ∈ Lg → w'.heap[b]? = some o) : St w0 S (L ++ Lg) w' := by
  have hk := h.keep k
  refine ⟨hk.keeps, fun b o hm => ?_, ?_⟩
  · rcases List.mem_append.1 hm with h' | h'
    · exact hk.own _ _ h'
    · exact h3 _ _ h'
  · rw [List.map_append]
    refine List.nodup_append.2 ⟨h.nodup, h2, ?_⟩
    intro b hb b' hb' e
    subst e
    obtain ⟨x, hx, rfl⟩ := List.mem_map.1 hb
    obtain ⟨y, hy, e⟩ := List.mem_map.1 hb'
    have := h.lt (b := x.1) (o := x.2) hx
    have := h1 y hy
    rw [e] at this
    omega

section
variable {P : Program} {ops : Array Oper} {rest : List Oper} {Q : Exit → Act → World → Prop} {a : Act} {w w0 : World} {S : List Nat} {L : List (Nat × Obj)}
end

end Go.Proofs.YtoakmlopjeecoaaGreatDoor.Rd

namespace Go.Proofs.YtoakmlopjeecoaaGreatDoor.Rd
open Go Go.RowKit
set_option linter.unusedVariables false
set_option linter.unusedSimpArgs false
set_option maxRecDepth 100000

end Go.Proofs.YtoakmlopjeecoaaGreatDoor.Rd

namespace Go.Proofs.YtoakmlopjeecoaaGreatDoor.Rd
open Go Go.RowKit
set_option linter.unusedVariables false
set_option linter.unusedSimpArgs false
set_option maxRecDepth 100000

/-- A slice of limbs that holds n. -/
def LimbAt (w : World) (v : Value) (l n : Nat) : Prop := n < B ^ l ∧ l ≤ 100000 ∧ ∃ b cap k m E fr, v = .slice (some ⟨b, 0, none⟩) l cap ∧ l ≤ cap ∧ l ≤ k ∧ w.heap[b]? = some (.cells (wc k m) E fr) ∧ m % B ^ l = n
theorem LimbAt.keep {w w' : World} {v : Value} {l n : Nat} (h : LimbAt w v l n) (k : Keeps [] w w') : LimbAt w' v l n := by
  obtain ⟨h1, h2, b, cap, j, m, E, fr, e, h3, h4, h5, h6⟩ := h
  exact ⟨h1, h2, b, cap, j, m, E, fr, e, h3, h4, by rw [k.block b (lt_of_some h5) (by simp)]; exact h5, h6⟩
theorem lb_mod {m l i : Nat} (h : i < l) : lb (m % B ^ l) i = lb m i := by
  have := lb_part m 0 l i h
  rwa [Nat.pow_zero, Nat.div_one, Nat.zero_add] at this

theorem limb_at (v : Value) (l n i : Nat) (w0 : World) (h : LimbAt w0 v l n) : GivesAt Tryz.prog 169 #[v, .int .i64 i] (.int .u64 (lb n i : Nat)) w0 := by
  obtain ⟨hn, hl, b, cap, k, m, E, fr, rfl, h3, h4, h5, h6⟩ := h
  have hst := (St.start [] w0).add h5 (by simp)
  have h0 : ¬ ((i : Int) < 0) := by omega
  have h0' : (0 : Int) ≤ (i : Int) := by omega
  by_cases hil : i < l
  · have e : lb n i = lb m i := by rw [← h6, lb_mod hil]
    rw [e]
    have h1 : ¬ ((l : Int) ≤ (i : Int)) := by omega
    have h2 : (i : Int) < (l : Int) := by omega
    clear hn h5 h6 e
    go_enter Tryz.func169, Tryz.ntmps169
    go_wp2_with ((first | (refine wl_guard (by rfl) ?_) | (refine kc hst tc22 rfl ?_)); try simp only [pz, pn, sz, sc])
    refine bp_t rfl rfl (by rfl) ⟨?_, hst.keeps⟩
    rfl
  · have e : lb n i = 0 := lb_lt_of hn (by omega)
    rw [e]
    have h1 : ((l : Int) ≤ (i : Int)) := by omega
    clear hn h5 h6 e
    go_enter Tryz.func169, Tryz.ntmps169
    go_wp2_with ((first | (refine wl_guard (by rfl) ?_)); try simp only [pz, pn, sz, sc])
    refine bp_t rfl rfl (by rfl) ⟨?_, hst.keeps⟩
    rfl

theorem bits_and1 (x : Nat) (hx : x < B) : bits .and .u64 (x : Int) 1 = ((x % 2 : Nat) : Int) := by
  have := bits_and_u64_nat x 1 (by rw [← B_val]; exact hx) (by omega)
  rw [Nat.and_one_is_mod] at this
  exact this
theorem lb_testBit (n i : Nat) (j : Nat) : (lb n i).testBit j = (decide (j < 64) && n.testBit (64 * i + j)) := by
  unfold lb
  rw [show B ^ i = 2 ^ (64 * i) from by rw [show B = 2 ^ 64 from rfl, ← Nat.pow_mul], show B = 2 ^ 64 from rfl, Nat.testBit_mod_two_pow, Nat.testBit_div_two_pow, Nat.add_comm]
theorem testBit_mod2 (n i : Nat) : (n / 2 ^ i % 2 = 1) = (n.testBit i = true) := by
  rw [Nat.testBit_eq_decide_div_mod_eq]; simp

set_option maxHeartbeats 2000000 in
theorem limb_Bit (v : Value) (l n i : Nat) (hi : i ≤ 100000) (w0 : World) (h : LimbAt w0 v l n) : GivesAt Tryz.prog 152 #[v, .int .i64 i] (.bool (n.testBit i)) w0 := by
  have hst := St.start [] w0
  have hda := fun (i : Nat) (w : World) (hst : Keeps [] w0 w) => limb_at v l n i w (h.keep hst)
  have hd1 := hda (i / 64)
  obtain ⟨x, hx⟩ : ∃ x, x = lb n (i / 64) := ⟨_, rfl⟩
  have hxB : x < B := by rw [hx]; exact lb_lt _ _
  obtain ⟨y, hy⟩ : ∃ y, y = x / 2 ^ (i % 64) := ⟨_, rfl⟩
  have hyB : y < B := by rw [hy]; exact Nat.lt_of_le_of_lt (Nat.div_le_self _ _) hxB
  have hand := bits_and1 y hyB
  have hres : ((y : Int) % 2 == 1) = n.testBit i := by
    have e : n.testBit i = x.testBit (i % 64) := by
      rw [hx, lb_testBit, show 64 * (i / 64) + i % 64 = i by omega]
      have : i % 64 < 64 := by omega
      simp [this]
    rw [e, Bool.eq_iff_iff, ← testBit_mod2, ← hy]
    simp; omega
  obtain ⟨q, hq⟩ : ∃ q, q = i / 64 := ⟨_, rfl⟩
  obtain ⟨r, hr⟩ : ∃ r, r = i % 64 := ⟨_, rfl⟩
  have Q1 : (i : Int) / 64 = (q : Int) := by omega
  have Q2 : (i : Int) % 64 = (r : Int) := by omega
  have Q3 : (0 : Int) ≤ (i : Int) := by omega
  have Q4 : (0 : Int) ≤ (r : Int) := by omega
  have Q5 : (i : Int).tdiv 64 = (q : Int) := by rw [Int.tdiv_eq_ediv_of_nonneg (by omega)]; exact Q1
  have Q6 : (i : Int).tmod 64 = (r : Int) := by rw [Int.tmod_eq_emod_of_nonneg (by omega)]; exact Q2
  have hy' : (x : Int) / 2 ^ r = (y : Int) := by rw [hy, ← hr, cast_pow2]; omega
  rw [← hx, ← hq] at hd1
  have hqs : q ≤ 100000 := by omega
  have hrs : r < 64 := by omega
  have hres' := Lib.hid hres
  clear hres hx hxB hy hyB hq hr h hda
  go_enter Tryz.func152, Tryz.ntmps152
  go_wp2_with ((first | (refine kg gf169 hst (fun w hst => hd1 w hst.keeps) rfl rfl rfl rfl ?_; clear hst; intro w hst) | (refine wl_guard (by rfl) ?_)); try simp only [pz, pn, sz, sc])
  refine bp_t rfl rfl (by rfl) ⟨?_, hst.keeps⟩
  rw [hres'.out]; rfl

/-- What wide.at tells. -/
def wat (n : Nat) (i : Int) (y : Nat) : Nat := if i < 0 then 0 else if 8 ≤ i then y else lb n i.toNat
theorem wat_lt (n : Nat) (i : Int) (y : Nat) (hy : y < B) : wat n i y < B := by
  unfold wat; split
  · exact B_pos
  · split
    · exact hy
    · exact lb_lt _ _

theorem wide_at (n : Nat) (i : Int) (y : Nat) : Gives Tryz.prog 138 #[W n, .int .i64 i, .int .u64 y] (.int .u64 (wat n i y : Nat)) := by
  intro w0
  have hst := St.start [] w0
  by_cases h1 : i < 0
  · have e : wat n i y = 0 := by unfold wat; rw [if_pos h1]
    rw [e]
    go_enter Tryz.func138, Tryz.ntmps138
    go_wp2_with ((first | (refine kb 3 hst rfl rfl ?_; clear hst; intro b3 w hb3 hst)); try simp only [pz, pn, sz, sc])
    refine bp_t rfl rfl (by rfl) ⟨?_, hst.keeps⟩
    rfl
  · by_cases h2 : 8 ≤ i
    · have e : wat n i y = y := by unfold wat; rw [if_neg h1, if_pos h2]
      rw [e]
      go_enter Tryz.func138, Tryz.ntmps138
      go_wp2_with ((first | (refine kb 3 hst rfl rfl ?_; clear hst; intro b3 w hb3 hst)); try simp only [pz, pn, sz, sc])
      refine bp_t rfl rfl (by rfl) ⟨?_, hst.keeps⟩
      rfl
    · obtain ⟨j, rfl⟩ := Int.eq_ofNat_of_zero_le (show 0 ≤ i by omega)
      have e : wat n (j : Int) y = lb n j := by unfold wat; rw [if_neg h1, if_neg h2]; rfl
      rw [e]
      have h3 : (0 : Int) ≤ (j : Int) := by omega
      have h4 : (j : Int) < 8 := by omega
      have h5 : j < 8 := by omega
      clear e
      go_enter Tryz.func138, Tryz.ntmps138
      go_wp2_with ((first | (refine kb 3 hst rfl rfl ?_; clear hst; intro b3 w hb3 hst) | (refine kc hst tc22 rfl ?_)); try simp only [pz, pn, sz, sc])
      refine bp_t rfl rfl (by rfl) ⟨?_, hst.keeps⟩
      rfl

/-- By how much a number is shifted. -/
def clampN (n : Int) : Nat := if n < 0 then 0 else if 512 < n then 512 else n.toNat
theorem clampN_le (n : Int) : clampN n ≤ 512 := by unfold clampN; split <;> (try split) <;> omega
theorem clampN_nat (n : Nat) (h : n ≤ 512) : clampN n = n := by unfold clampN; rw [if_neg (by omega), if_neg (by omega)]; omega

theorem wide_clamp (n : Int) : Gives Tryz.prog 135 #[.int .i64 n] (.int .i64 (clampN n : Nat)) := by
  intro w0
  have hst := St.start [] w0
  obtain ⟨c, hc⟩ : ∃ c, c = clampN n := ⟨_, rfl⟩
  rw [← hc]
  by_cases h1 : n ≤ 512
  · have m1 : (if n ≤ 512 then n else 512) = n := by rw [if_pos h1]
    have m1' : (if (512 : Int) < n then 512 else n) = n := by rw [if_neg (by omega)]
    have m2 : min n 512 = n := by omega
    by_cases h2 : n ≤ 0
    · have m4 : max 0 n = (c : Int) := by rw [hc]; unfold clampN; split <;> (try split) <;> omega
      have e0 : c = 0 := by omega
      have hc' := Lib.hid hc
      clear hc
      subst e0
      go_enter Tryz.func135, Tryz.ntmps135
      go_wp2_with fail
      refine bp_t rfl rfl (by rfl) ⟨?_, hst.keeps⟩
      go_num
    · have m4 : max 0 n = (c : Int) := by rw [hc]; unfold clampN; split <;> (try split) <;> omega
      have e0 : n = (c : Int) := by omega
      clear hc
      subst e0
      go_enter Tryz.func135, Tryz.ntmps135
      go_wp2_with fail
      refine bp_t rfl rfl (by rfl) ⟨?_, hst.keeps⟩
      go_num
  · have m2 : min n 512 = 512 := by omega
    have e0 : c = 512 := by rw [hc]; unfold clampN; rw [if_neg (by omega), if_pos (by omega)]
    clear hc
    subst e0
    go_enter Tryz.func135, Tryz.ntmps135
    go_wp2_with fail
    refine bp_t rfl rfl (by rfl) ⟨?_, hst.keeps⟩
    go_num

theorem LimbAt.wide {w : World} {b n : Nat} {E : TypeId} {fr : Nat × Nat} (hn : n < M) (h : w.heap[b]? = some (.cells (wc 8 n) E fr)) : LimbAt w (.slice (some ⟨b, 0, none⟩) 8 8) 8 n :=
  ⟨hn, by omega, b, 8, 8, n, E, fr, rfl, by omega, by omega, h, Nat.mod_eq_of_lt hn⟩

theorem wide_Len (a : Nat) (ha : a < M) : Gives Tryz.prog 41 #[W a] (.int .i64 (bl a : Nat)) := by
  intro w0
  have hst := St.start [] w0
  have hlen := fun (b1 : Nat) (w : World) (h : w.heap[b1]? = some (.cells (wc 8 a) 109)) => limb_Len b1 0 8 8 8 a 109 (0, 0) (by omega) (by omega) (by omega) w h
  rw [Nat.pow_zero, Nat.div_one, ← M_eq, Nat.mod_eq_of_lt ha] at hlen
  go_enter Tryz.func41, Tryz.ntmps41
  go_wp2_with ((first | (refine kg gf52 hst (fun w hst => hlen b1 w (hst.own _ _ (by repeat (first | exact List.Mem.head _ | refine List.Mem.tail _ ?_)))) rfl rfl rfl rfl ?_; clear hst; intro w hst) | (refine kb 1 hst rfl rfl ?_; clear hst; intro b1 w hb1 hst)); try simp only [pz, pn, sz, sc])
  refine bp_t rfl rfl (by rfl) ⟨?_, hst.keeps⟩
  rfl

theorem wide_Bit (a i : Nat) (ha : a < M) (hi : i ≤ 100000) : Gives Tryz.prog 121 #[W a, .int .i64 i] (.bool (a.testBit i)) := by
  intro w0
  have hst := St.start [] w0
  have hlen := fun (b1 : Nat) (w : World) (h : w.heap[b1]? = some (.cells (wc 8 a) 109)) => limb_Bit _ 8 a i hi w (LimbAt.wide ha h)
  go_enter Tryz.func121, Tryz.ntmps121
  go_wp2_with ((first | (refine kg gf152 hst (fun w hst => hlen b2 w (hst.own _ _ (by repeat (first | exact List.Mem.head _ | refine List.Mem.tail _ ?_)))) rfl rfl rfl rfl ?_; clear hst; intro w hst) | (refine kb 2 hst rfl rfl ?_; clear hst; intro b2 w hb2 hst)); try simp only [pz, pn, sz, sc])
  refine bp_t rfl rfl (by rfl) ⟨?_, hst.keeps⟩
  rfl

end Go.Proofs.YtoakmlopjeecoaaGreatDoor.Rd

namespace Go.Proofs.YtoakmlopjeecoaaGreatDoor.Rd
open Go Go.RowKit
set_option linter.unusedVariables false
set_option linter.unusedSimpArgs false
set_option maxRecDepth 100000

theorem M_pos : 0 < M := Nat.pow_pos B_pos

/-- The number of so many limbs that a function tells. -/
def lsum (f : Nat → Nat) : Nat → Nat
  | 0 => 0
  | k + 1 => lsum f k + f k * B ^ k
theorem lsum_lt (f : Nat → Nat) (hf : ∀ i, f i < B) : ∀ k, lsum f k < B ^ k
  | 0 => by simp [lsum]
  | k + 1 => by
    have h1 := lsum_lt f hf k
    have h2 := Nat.mul_le_mul_right (B ^ k) (Nat.le_sub_one_of_lt (hf k))
    rw [Nat.sub_mul, Nat.one_mul] at h2
    have h5 : B ^ k ≤ B * B ^ k := Nat.le_mul_of_pos_left _ B_pos
    simp only [lsum]
    rw [Nat.pow_succ, Nat.mul_comm (B ^ k) B]
    omega
theorem lsum_lb (n : Nat) : ∀ k, lsum (lb n) k = n % B ^ k
  | 0 => by simp [lsum, Nat.mod_one]
  | k + 1 => by simp only [lsum]; rw [lsum_lb n k, lb_split]
theorem lsum_congr {f g : Nat → Nat} : ∀ {k : Nat}, (∀ i, i < k → f i = g i) → lsum f k = lsum g k
  | 0, _ => rfl
  | k + 1, h => by simp only [lsum]; rw [lsum_congr (fun i hi => h i (by omega)), h k (by omega)]
theorem lsum_of {f : Nat → Nat} {n : Nat} (hn : n < M) (h : ∀ i, i < 8 → f i = lb n i) : lsum f 8 = n := by
  rw [lsum_congr h, lsum_lb, ← M_eq, Nat.mod_eq_of_lt hn]

set_option maxHeartbeats 2000000 in
theorem wide_made (g : FuncId) (hg : GoF Tryz.prog g) (cap : Array Value) (f : Nat → Nat) (hf : ∀ i, f i < B) (w0 : World)
    (hgf : ∀ i w, i < 8 → Keeps [] w0 w → GivesAt Tryz.prog g ([Value.int .i64 (i : Nat)] ++ cap.toList).toArray (.int .u64 (f i : Nat)) w) :
    GivesAt Tryz.prog 136 #[.func (.func g) #[] cap] (W (lsum f 8)) w0 := by
  have hst := St.start [] w0
  have hf' := Lib.hid hf
  clear hf
  go_enter Tryz.func136, Tryz.ntmps136
  go_wp2_with ((first | (refine ka 2 hst tz109 rfl rfl ?_; clear hst; intro b2 w hb2 hst) | (refine ka 3 hst tz109 rfl rfl ?_; clear hst; intro b3 w hb3 hst)); try simp only [pz, pn, sz, sc])
  go_loopw [4, 5] (fun u i wr => ∃ k : Nat, k ≤ 8 ∧ i = .int .i64 k ∧ St w0 [] [(b3, .cells (wc 8 (lsum f k)) 109), (b2, .cells (wc 8 0) 109)] wr) (fun _ i _ => 8 - (intOf i).toNat)
  case atStart => exact ⟨0, by omega, rfl, hst⟩
  case round =>
    clear hst
    obtain ⟨k, hk, rfl, hst⟩ := hrel
    have hl1 := Lib.hid (lsum_lt f hf'.out k)
    by_cases hlt : k < 8
    · have hi0 : (0 : Int) ≤ (k : Int) := by omega
      have hi8 : (k : Int) < 8 := by omega
      have hc := fun w h => hgf k w hlt h
      have hfk := Lib.hid (hf'.out k)
      have hset := Lib.hid (wc_set 8 (lsum f k) (f k) k hl1.out hfk.out)
      go_wp2_with ((first | (refine kg hg hst (fun w hst => hc w hst.keeps) rfl rfl rfl rfl ?_; clear hst; intro w hst) | (refine ks hst tc22 rfl rfl ?_; clear hst; intro w hst; (try rw [hset.out] at hst))); try simp only [pz, pn, sz, sc])
      go_roundw
      case rel => exact ⟨k + 1, by omega, by go_num, hst⟩
      case measure => simp [intOf]; omega
    · have : k = 8 := by omega
      subst this
      go_wp2_with ((first | (refine kl hst ta109 rfl ?_) | (refine kt hst ta109 rfl rfl ?_; clear hst; intro w hst)); try simp only [pz, pn, sz, sc])
      refine bp_c rfl rfl (la hst ta109) ⟨?_, hst.keeps⟩
      rfl

theorem bits_or64 (a b : Nat) (ha : a < B) (hb : b < B) : bits .or .u64 (a : Int) (b : Int) = ((a ||| b : Nat) : Int) := bits_or_u64_nat a b (by rw [← B_val]; exact ha) (by rw [← B_val]; exact hb)
theorem mod_B (x j : Nat) : (x % B).testBit j = (decide (j < 64) && x.testBit j) := by rw [show B = 2 ^ 64 from rfl, Nat.testBit_mod_two_pow]
theorem mod_M (x j : Nat) : (x % M).testBit j = (decide (j < 512) && x.testBit j) := by
  have key : ∀ m, M = 2 ^ m → (x % M).testBit j = (decide (j < m) && x.testBit j) := fun m e => by rw [e, Nat.testBit_mod_two_pow]
  exact key (64 * 8) (by rw [M_eq, show B = 2 ^ 64 from rfl, ← Nat.pow_mul])
theorem high_bit {x : Nat} (h : x < B) {j : Nat} (hj : 64 ≤ j) : x.testBit j = false := Nat.testBit_lt_two_pow (Nat.lt_of_lt_of_le h (by rw [show B = 2 ^ 64 from rfl]; exact Nat.pow_le_pow_right (by omega) hj))
theorem M_bit {x : Nat} (h : x < M) {j : Nat} (hj : 512 ≤ j) : x.testBit j = false := by
  have := mod_M x j
  rw [Nat.mod_eq_of_lt h] at this
  rw [this]
  have : ¬ j < 512 := by omega
  simp [this]
theorem wat_bit (n : Nat) (i : Int) (y j : Nat) (hj : j < 64) (hn : n < M) : (wat n i y).testBit j = if i < 0 then false else if 8 ≤ i then y.testBit j else n.testBit (64 * i.toNat + j) := by
  unfold wat
  split
  · simp
  · split
    · rfl
    · rw [lb_testBit]; simp [hj]

theorem i64w (x : Int) (h1 : -9223372036854775808 ≤ x) (h2 : x ≤ 9223372036854775807) : IntKind.i64.wrap x = x := by
  have hs : IntKind.i64.signed = true := rfl
  have hb : (2 : Int) ^ IntKind.i64.bits = 18446744073709551616 := rfl
  have hb' : (2 : Int) ^ (IntKind.i64.bits - 1) = 9223372036854775808 := rfl
  simp only [IntKind.wrap, hs, hb, hb', Bool.true_and]
  split <;> rename_i h <;> simp at h <;> omega

/-- A limb of a number that is shifted up. -/
def shlL (a c i : Nat) : Nat := wat a ((i : Int) - (c / 64 : Nat)) 0 * 2 ^ (c % 64) % B ||| wat a ((i : Int) - (c / 64 : Nat) - 1) 0 / 2 ^ (64 - c % 64)
theorem or_B {x y : Nat} (hx : x < B) (hy : y < B) : x ||| y < B := Nat.or_lt_two_pow hx hy
theorem shlL_lt (a c i : Nat) : shlL a c i < B := or_B (Nat.mod_lt _ B_pos) (Nat.lt_of_le_of_lt (Nat.div_le_self _ _) (wat_lt _ _ _ B_pos))
theorem shl_limb (a c i : Nat) (ha : a < M) (hi : i < 8) : shlL a c i = lb (a * 2 ^ c % M) i := by
  apply Nat.eq_of_testBit_eq
  intro j
  have hr : c % 64 < 64 := Nat.mod_lt _ (by omega)
  have hq : c = 64 * (c / 64) + c % 64 := by omega
  by_cases hj : j < 64
  · rw [lb_testBit, mod_M, Nat.mul_comm a, Nat.testBit_two_pow_mul]
    unfold shlL
    rw [Nat.testBit_or, mod_B, Nat.mul_comm (wat _ _ _), Nat.testBit_two_pow_mul, Nat.testBit_div_two_pow]
    generalize c / 64 = q at *
    generalize c % 64 = r at *
    subst hq
    have e1 : decide (64 * i + j < 512) = true := by simp; omega
    rw [e1]
    simp only [hj, decide_true, Bool.true_and]
    by_cases h1 : r ≤ j
    · have h2 : (wat a ((i : Int) - q - 1) 0).testBit (j + (64 - r)) = false := by
        by_cases h3 : j + (64 - r) < 64
        · omega
        · exact high_bit (wat_lt _ _ _ B_pos) (by omega)
      rw [h2, wat_bit _ _ _ _ (by omega) ha]
      simp only [h1, decide_true, Bool.true_and, Bool.or_false]
      by_cases h4 : i < q
      · rw [if_pos (by omega)]
        have : ¬ (64 * q + r ≤ 64 * i + j) := by omega
        simp [this]
      · rw [if_neg (by omega), if_neg (by omega)]
        have : 64 * q + r ≤ 64 * i + j := by omega
        simp only [this, decide_true, Bool.true_and]
        congr 1; omega
    · have h2 : decide (r ≤ j) = false := by simpa using h1
      rw [h2]
      simp only [Bool.false_and, Bool.false_or]
      rw [wat_bit _ _ _ _ (by omega) ha]
      by_cases h4 : i < q + 1
      · rw [if_pos (by omega)]
        have : ¬ (64 * q + r ≤ 64 * i + j) := by omega
        simp [this]
      · rw [if_neg (by omega), if_neg (by omega)]
        have : 64 * q + r ≤ 64 * i + j := by omega
        simp only [this, decide_true, Bool.true_and]
        congr 1; omega
  · rw [high_bit (shlL_lt a c i) (by omega), high_bit (lb_lt _ _) (by omega)]

set_option maxHeartbeats 4000000 in
theorem wide_Shl_1 (a c i : Nat) (ha : a < M) (hc : c ≤ 512) (hi : i < 8) (b1 b2 b3 : Nat) (E1 E2 E3 : TypeId) (h12 : b2 ≠ b1) (h13 : b3 ≠ b1) (h23 : b3 ≠ b2) (w0 : World)
    (h1 : w0.heap[b1]? = some (.cells (wc 8 a) E1)) (h2 : w0.heap[b2]? = some (.cells #[.int .i64 (c / 64 : Nat)] E2)) (h3 : w0.heap[b3]? = some (.cells #[.int .i64 (c % 64 : Nat)] E3)) :
    GivesAt Tryz.prog 137 #[.int .i64 (i : Nat), .pointer (some ⟨b1, 0, none⟩), .pointer (some ⟨b2, 0, none⟩), .pointer (some ⟨b3, 0, none⟩)] (.int .u64 (shlL a c i : Nat)) w0 := by
  have hst := (((St.start [] w0).add h1 (by simp)).add h2 (by simpa using h12)).add h3 (by simp; exact ⟨h23, h13⟩)
  have hx := wide_at a ((i : Int) - (c / 64 : Nat)) 0
  have hy := wide_at a ((i : Int) - (c / 64 : Nat) - 1) 0
  have hxB := wat_lt a ((i : Int) - (c / 64 : Nat)) 0 B_pos
  have hyB := wat_lt a ((i : Int) - (c / 64 : Nat) - 1) 0 B_pos
  unfold shlL
  have hq : c / 64 ≤ 8 := by omega
  have hr : c % 64 < 64 := Nat.mod_lt _ (by omega)
  generalize c / 64 = q at *
  generalize c % 64 = r at *
  generalize wat a ((i : Int) - (q : Nat)) 0 = x at *
  generalize wat a ((i : Int) - (q : Nat) - 1) 0 = y at *
  obtain ⟨s, hs⟩ : ∃ s, s = x * 2 ^ r % B := ⟨_, rfl⟩
  obtain ⟨t, ht⟩ : ∃ t, t = y / 2 ^ (64 - r) := ⟨_, rfl⟩
  have hsB : s < B := by rw [hs]; exact Nat.mod_lt _ B_pos
  have htB : t < B := by rw [ht]; exact Nat.lt_of_le_of_lt (Nat.div_le_self _ _) hyB
  rw [← hs, ← ht]
  have F1 : IntKind.u64.wrap ((x : Int) * 2 ^ r) = (s : Int) := u64_wrap' _ (x * 2 ^ r) _ (by rw [cast_pow2]; exact (Int.natCast_mul _ _).symm) hs.symm
  have er : ((64 : Int) - (r : Int)).toNat = 64 - r := by omega
  have F2 : (y : Int) / 2 ^ (64 - r) = (t : Int) := by rw [ht, cast_pow2]; omega
  have F3 := bits_or64 s t hsB htB
  have F4 : (0 : Int) ≤ 64 - (r : Int) := by omega
  have F5 : (0 : Int) ≤ (r : Int) := by omega
  have w1 : IntKind.i64.wrap ((i : Int) - (q : Int)) = (i : Int) - q := i64w _ (by omega) (by omega)
  have w2 : IntKind.i64.wrap ((i : Int) - (q : Int) - 1) = (i : Int) - q - 1 := i64w _ (by omega) (by omega)
  have w3 : IntKind.i64.wrap (64 - (r : Int)) = ((64 - r : Nat) : Int) := by rw [i64w _ (by omega) (by omega)]; omega
  clear hs ht hsB htB hxB hyB h1 h2 h3 ha
  go_enter Tryz.func137, Tryz.ntmps137
  go_wp2_with fail
  refine wp_region_T 18  hst (by kernel_rfl) ?_; clear hst; intro w hst; (try simp only [List.length_cons, List.length_nil, Nat.reduceAdd, Array.replicate_succ, Array.replicate_zero, List.push_toArray, List.nil_append, List.cons_append])
  refine r0 1 ?_; simp only [pz, pn, sz, sc, w1, w2, w3, F1, F2, F3]
  refine r0 8 ?_; simp only [pz, pn, sz, sc, w1, w2, w3, F1, F2, F3]
  refine rl 0 rfl ?_ (by first | exact ylA ta109 | exact ylM ta109); simp only [pz, pn, sz, sc, w1, w2, w3, F1, F2, F3]
  refine rl 2 rfl ?_ (ylC tc3); simp only [pz, pn, sz, sc, w1, w2, w3, F1, F2, F3]
  refine r0 3 ?_; simp only [pz, pn, sz, sc, w1, w2, w3, F1, F2, F3]
  refine rl 5 rfl ?_ (ylC tc3); simp only [pz, pn, sz, sc, w1, w2, w3, F1, F2, F3]
  refine rl 7 rfl ?_ (by first | exact ylA ta109 | exact ylM ta109); simp only [pz, pn, sz, sc, w1, w2, w3, F1, F2, F3]
  refine rl 9 rfl ?_ (ylC tc3); simp only [pz, pn, sz, sc, w1, w2, w3, F1, F2, F3]
  refine r0 10 ?_; simp only [pz, pn, sz, sc, w1, w2, w3, F1, F2, F3]
  refine r0 11 ?_; simp only [pz, pn, sz, sc, w1, w2, w3, F1, F2, F3]
  refine rl 13 rfl ?_ (ylC tc3); simp only [pz, pn, sz, sc, w1, w2, w3, F1, F2, F3]
  refine r0 14 ?_; simp only [pz, pn, sz, sc, w1, w2, w3, F1, F2, F3]
  refine r1 4 ?_; (refine kf gf138 hst (hx) rfl rfl rfl rfl ?_; clear hst; intro w hst); (try simp only [pz, pn, sz, sc, w1, w2, w3, F1, F2, F3]); refine re ?_
  refine r0 6 ?_; simp only [pz, pn, sz, sc, w1, w2, w3, F1, F2, F3]
  refine r1 12 ?_; (refine kf gf138 hst (hy) rfl rfl rfl rfl ?_; clear hst; intro w hst); (try simp only [pz, pn, sz, sc, w1, w2, w3, F1, F2, F3]); refine re ?_
  refine r0 15 ?_; simp only [pz, pn, sz, sc, w1, w2, w3, F1, F2, F3]
  refine r0 16 ?_; simp only [pz, pn, sz, sc, w1, w2, w3, F1, F2, F3]
  refine r0 17 ?_; simp only [pz, pn, sz, sc, w1, w2, w3, F1, F2, F3]
  refine rd_ ?_
  go_wp2_with fail
  refine bp_t rfl rfl (by rfl) ⟨?_, hst.keeps⟩
  rfl

set_option maxHeartbeats 4000000 in
theorem wide_Shl (a : Nat) (n : Int) (ha : a < M) : Gives Tryz.prog 99 #[W a, .int .i64 n] (W (a * 2 ^ clampN n % M)) := by
  intro w0
  have hst := St.start [] w0
  have hcl := wide_clamp n
  have hc := clampN_le n
  generalize clampN n = c at *
  have hres : lsum (shlL a c) 8 = a * 2 ^ c % M := lsum_of (Nat.mod_lt _ M_pos) (fun i hi => shl_limb a c i ha hi)
  have hmade := fun b2 b5 b6 w (h12 : b5 ≠ b2) (h13 : b6 ≠ b2) (h23 : b6 ≠ b5) (h1 : w.heap[b2]? = some (.cells (wc 8 a) 109)) (h2 : w.heap[b5]? = some (.cells #[.int .i64 (c / 64 : Nat)] 3)) (h3 : w.heap[b6]? = some (.cells #[.int .i64 (c % 64 : Nat)] 3)) =>
    wide_made 137 gf137 #[.pointer (some ⟨b2, 0, none⟩), .pointer (some ⟨b5, 0, none⟩), .pointer (some ⟨b6, 0, none⟩)] (shlL a c) (shlL_lt a c) w
      (fun i w' hi k => wide_Shl_1 a c i ha hc hi b2 b5 b6 _ _ _ h12 h13 h23 w' (by rw [k.block _ (lt_of_some h1) (by simp)]; exact h1) (by rw [k.block _ (lt_of_some h2) (by simp)]; exact h2) (by rw [k.block _ (lt_of_some h3) (by simp)]; exact h3))
  rw [hres] at hmade
  have Q1 : (c : Int) / 64 = ((c / 64 : Nat) : Int) := by omega
  have Q2 : (c : Int) % 64 = ((c % 64 : Nat) : Int) := by omega
  have Q3 : (0 : Int) ≤ (c : Int) := by omega
  have Q5 : (c : Int).tdiv 64 = ((c / 64 : Nat) : Int) := by rw [Int.tdiv_eq_ediv_of_nonneg (by omega)]; exact Q1
  have Q6 : (c : Int).tmod 64 = ((c % 64 : Nat) : Int) := by rw [Int.tmod_eq_emod_of_nonneg (by omega)]; exact Q2
  have hq : c / 64 ≤ 8 := by omega
  have hr : c % 64 < 64 := Nat.mod_lt _ (by omega)
  have hc' := Lib.hid hc
  clear hres hc
  generalize c / 64 = q at *
  generalize c % 64 = r at *
  generalize a * 2 ^ c % M = m at *
  go_enter Tryz.func99, Tryz.ntmps99
  go_wp2_with ((first | (refine kf gf135 hst (hcl) rfl rfl rfl rfl ?_; clear hst; intro w hst) | (refine kg gf136 hst (fun w hst => hmade b2 b5 b6 w (by have q := hst.nodup; simp only [List.map_cons, List.map_nil, List.nodup_cons, List.mem_cons, List.not_mem_nil, or_false, not_or] at q; omega) (by have q := hst.nodup; simp only [List.map_cons, List.map_nil, List.nodup_cons, List.mem_cons, List.not_mem_nil, or_false, not_or] at q; omega) (by have q := hst.nodup; simp only [List.map_cons, List.map_nil, List.nodup_cons, List.mem_cons, List.not_mem_nil, or_false, not_or] at q; omega) (hst.own _ _ (by repeat (first | exact List.Mem.head _ | refine List.Mem.tail _ ?_))) (hst.own _ _ (by repeat (first | exact List.Mem.head _ | refine List.Mem.tail _ ?_))) (hst.own _ _ (by repeat (first | exact List.Mem.head _ | refine List.Mem.tail _ ?_)))) rfl rfl rfl rfl ?_; clear hst; intro w hst) | (refine kb 2 hst rfl rfl ?_; clear hst; intro b2 w hb2 hst) | (refine ka 4 hst tz109 rfl rfl ?_; clear hst; intro b4 w hb4 hst) | (refine ka 5 hst tz3 rfl rfl ?_; clear hst; intro b5 w hb5 hst) | (refine ka 6 hst tz3 rfl rfl ?_; clear hst; intro b6 w hb6 hst) | (refine ks hst tc3 rfl rfl ?_; clear hst; intro w hst) | (refine kt hst ta109 rfl rfl ?_; clear hst; intro w hst)); try simp only [pz, pn, sz, sc])
  refine bp_c rfl rfl (la hst ta109) ⟨?_, hst.keeps⟩
  rfl

end Go.Proofs.YtoakmlopjeecoaaGreatDoor.Rd
