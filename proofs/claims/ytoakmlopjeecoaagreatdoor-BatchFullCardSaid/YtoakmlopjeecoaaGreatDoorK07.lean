/- Words as texts of signs 0 and 1 (plain). -/
import Derived.Test.YtoakmlopjeecoaaGreatDoorK03
import Derived.Defers
import Derived.Laws.Pointers
import Derived.Laws.LoneSync
import Derived.RegionCalls
import Derived.Laws.NewBlocks
import Derived.Test.YtoakmlopjeecoaaGreatDoorK02
import Derived.Test.YtoakmlopjeecoaaGreatDoorK05
import Derived.Test.YtoakmlopjeecoaaGreatDoorK06
import Derived.Test.YtoakmlopjeecoaaGreatDoorK04
namespace Go.Proofs.YtoakmlopjeecoaaGreatDoor.Rd
open Go Go.RowKit
set_option linter.unusedVariables false
set_option linter.unusedSimpArgs false
set_option maxRecDepth 100000

theorem on_disable (w : World) : (callFunc 69 #[]).run Tryz.prog w = .ok (.value (.tuple #[])) w := run_call_mark0 Tryz.func69 (by kernel_rfl) (by kernel_rfl) (by kernel_rfl) .disable (by kernel_rfl) w
theorem on_enable (w : World) : (callFunc 71 #[]).run Tryz.prog w = .ok (.value (.tuple #[])) w := run_call_mark0 Tryz.func71 (by kernel_rfl) (by kernel_rfl) (by kernel_rfl) .enable (by kernel_rfl) w
theorem on_acquire (a : Addr) (w : World) : (callFunc 72 #[.pointer (some a)]).run Tryz.prog w = .ok (.value (.tuple #[])) w := run_call_marked Tryz.func72 (by kernel_rfl) (by kernel_rfl) (by kernel_rfl) .acquire (by kernel_rfl) a w
theorem on_release (a : Addr) (w : World) : (callFunc 74 #[.pointer (some a)]).run Tryz.prog w = .ok (.value (.tuple #[])) w := run_call_marked Tryz.func74 (by kernel_rfl) (by kernel_rfl) (by kernel_rfl) .releaseMerge (by kernel_rfl) a w

theorem on_store (a : Addr) (x : Value) (u : FrameMode) (w : World) (hc : w.cell? a = some x) (hz : w.frozen? a = false) :
    CallsD Tryz.prog 38 #[.pointer (some a), .bool true] u w fun e u' w' => u' = u ∧ (e = .returned (.tuple #[]) ∧ w' = w.drew.setCell a (.int .u32 1)) := by
  have hc' : w.drew.cell? a = some x := by go_simp
  have hz' : w.drew.frozen? a = false := by go_simp
  have hst := run_call_store (P := Tryz.prog) Tryz.func50 (by kernel_rfl) (by kernel_rfl) (by kernel_rfl) (by kernel_rfl) (k := .u32) (y := 1) hc' hz'
  go_enter_d Tryz.func38, Tryz.ntmps38
  go_wp2
  go_region_calls
  all_goals (go_end0; exact ⟨rfl, rfl⟩)

theorem on_unlock (a : Addr) (u : FrameMode) (w : World) (hc : w.cell? a = some (.int .i32 1)) (hz : w.frozen? a = false) :
    CallsD Tryz.prog 37 #[.pointer (some a)] u w fun e u' w' => u' = u ∧ (e = .returned (.tuple #[]) ∧ w' = w.setCell a (.int .i32 0)) := by
  have hd := on_disable
  have he := on_enable
  have hr := on_release
  have hadd := run_call_add (P := Tryz.prog) Tryz.func75 (by kernel_rfl) (by kernel_rfl) (by kernel_rfl) .i32 (by kernel_rfl) (y := -1) (s := 0) hc hz (by simp [go_sem]; rfl)
  have hcv := run_convert_to_unsafe (P := Tryz.prog) (src := 152) (dst := 156) Tryz.underlying152 Tryz.underlying156 (by kernel_rfl) hc
  go_enter_d Tryz.func37, Tryz.ntmps37
  go_wp2
  go_end0
  go_wp2
  go_end0
  exact ⟨rfl, rfl⟩

theorem on_lock (a : Addr) (w : World) (hc : w.cell? a = some (.int .i32 0)) (hz : w.frozen? a = false) :
    Calls Tryz.prog 36 #[.pointer (some a)] w fun e w' => e = .returned (.tuple #[]) ∧ w' = w.setCell a (.int .i32 1) := by
  have hd := on_disable
  have he := on_enable
  have ha := on_acquire
  have hcas := run_call_cas_hit (P := Tryz.prog) Tryz.func70 (by kernel_rfl) (by kernel_rfl) (by kernel_rfl) .i32 (by kernel_rfl) (y := 1) hc hz
  have hc' : (w.setCell a (.int .i32 1)).cell? a = some (.int .i32 1) := World.cell?_setCell_same w a _ hc
  have hcv := run_convert_to_unsafe (P := Tryz.prog) (src := 152) (dst := 156) Tryz.underlying152 Tryz.underlying156 (by kernel_rfl) hc'
  go_enter Tryz.func36, Tryz.ntmps36
  go_wp2
  first | go_end0 | (simp only [Exit.inBlock, Exit.then]; refine bodyPost_ret (results_none rfl _ _ _) rfl ?_) | refine bodyPost_ret (results_none rfl _ _ _) rfl ?_
  go_wp2
  go_end0
  exact ⟨rfl, rfl⟩

set_option maxHeartbeats 1600000 in
theorem on_slow (f : FuncId) (hf : GoF Tryz.prog f) (cap : Array Value) (b off : Nat) (R : World → Prop) (w : World)
    (h0 : w.cell? ⟨b, off, none⟩ = some (.int .u32 0)) (h1 : w.cell? ⟨b, off + 1, none⟩ = some (.int .i32 0)) (f0 : w.frozen? ⟨b, off, none⟩ = false) (f1 : w.frozen? ⟨b, off + 1, none⟩ = false)
    (hc : Calls Tryz.prog f cap (w.setCell ⟨b, off + 1, none⟩ (.int .i32 1)) fun e w2 => e = .returned (.tuple #[]) ∧ (∃ x, w2.cell? ⟨b, off, none⟩ = some x) ∧ w2.frozen? ⟨b, off, none⟩ = false ∧ w2.cell? ⟨b, off + 1, none⟩ = some (.int .i32 1) ∧ w2.frozen? ⟨b, off + 1, none⟩ = false ∧ R w2) :
    Calls Tryz.prog 28 #[.pointer (some ⟨b, off, none⟩), .func (.func f) #[] cap] w fun e w' => e = .returned (.tuple #[]) ∧ ∃ w2, R w2 ∧ w' = (w2.drew.setCell ⟨b, off, none⟩ (.int .u32 1)).setCell ⟨b, off + 1, none⟩ (.int .i32 0) := by
  have hl := run_call_load (P := Tryz.prog) Tryz.func35 (by kernel_rfl) (by kernel_rfl) (by kernel_rfl) .u32 (by kernel_rfl) (w := w.setCell ⟨b, off + 1, none⟩ (.int .i32 1)) (a := ⟨b, off, none⟩) (x := 0) ((World.cell?_setCell_other _ ⟨b, off + 1, none⟩ ⟨b, off, none⟩ _ (by simp)).trans h0)
  have hnot : ∀ (x : Bool) (w : World), (Op.unary .not (.bool x)).run Tryz.prog w = .ok (.bool (!x)) w := fun _ _ => rfl
  go_enter_defers Tryz.func28, Tryz.ntmps28
  go_wp2_with (go_at_call 36; refine (on_lock ⟨b, off + 1, none⟩ _ (by go_simp) (by go_simp)).mono ?_; rintro e w' ⟨rfl, rfl⟩)
  go_wp2
  rw [run_callFunc_go hf, Oper.upon_enter]
  refine hc.mono ?_
  rintro e w2 ⟨rfl, ⟨x, hx⟩, z0, c1, z1, hR⟩
  go_wp2
  -- the door: two deferred calls, the last laid first
  refine leaves_cons (f := 38) (args := #[.pointer (some ⟨b, off, none⟩), .bool true]) (by simp) (by simp [go_sem]) ?_
  refine (on_store ⟨b, off, none⟩ x .returning _ hx z0).mono ?_
  rintro e u' w'' ⟨rfl, rfl, rfl⟩
  refine leaves_cons (f := 37) (args := #[.pointer (some ⟨b, off + 1, none⟩)]) (by simp [settle]) (by simp [go_sem]) ?_
  refine (on_unlock ⟨b, off + 1, none⟩ _ _ ?_ (by simp [z1])).mono ?_
  · refine (World.cell?_setCell_other _ ⟨b, off, none⟩ ⟨b, off + 1, none⟩ _ (by simp)).trans ?_
    rw [World.cell?_drew]; exact c1
  rintro e u' w'' ⟨rfl, rfl, rfl⟩
  simp [Leaves, settle, results, Tryz.results28]
  exact ⟨w2, hR, rfl⟩

/-- Do, not yet done, the lock free. -/
theorem on_do (f : FuncId) (hf : GoF Tryz.prog f) (cap : Array Value) (b off : Nat) (R : World → Prop) (w : World)
    (h0 : w.cell? ⟨b, off, none⟩ = some (.int .u32 0)) (h1 : w.cell? ⟨b, off + 1, none⟩ = some (.int .i32 0)) (f0 : w.frozen? ⟨b, off, none⟩ = false) (f1 : w.frozen? ⟨b, off + 1, none⟩ = false)
    (hc : Calls Tryz.prog f cap (w.setCell ⟨b, off + 1, none⟩ (.int .i32 1)) fun e w2 => e = .returned (.tuple #[]) ∧ (∃ x, w2.cell? ⟨b, off, none⟩ = some x) ∧ w2.frozen? ⟨b, off, none⟩ = false ∧ w2.cell? ⟨b, off + 1, none⟩ = some (.int .i32 1) ∧ w2.frozen? ⟨b, off + 1, none⟩ = false ∧ R w2) :
    Calls Tryz.prog 20 #[.pointer (some ⟨b, off, none⟩), .func (.func f) #[] cap] w fun e w' => e = .returned (.tuple #[]) ∧ ∃ w2, R w2 ∧ w' = (w2.drew.setCell ⟨b, off, none⟩ (.int .u32 1)).setCell ⟨b, off + 1, none⟩ (.int .i32 0) := by
  have hl := run_call_load (P := Tryz.prog) Tryz.func35 (by kernel_rfl) (by kernel_rfl) (by kernel_rfl) .u32 (by kernel_rfl) h0
  have hnot : ∀ (x : Bool) (w : World), (Op.unary .not (.bool x)).run Tryz.prog w = .ok (.bool (!x)) w := fun _ _ => rfl
  go_enter Tryz.func20, Tryz.ntmps20
  go_wp2_with (first | (go_at_call 28; refine (on_slow f hf cap b off R _ h0 h1 f0 f1 hc).mono ?_; rintro e w' ⟨rfl, w2, hR, rfl⟩) | (go_at_call 27; go_in))
  go_end0
  exact ⟨rfl, w2, hR, rfl⟩

/-- Do, done already. -/
theorem on_done (a : Addr) (d : Int) (hd : ¬ d = 0) (fv : Value) (w : World) (h0 : w.cell? a = some (.int .u32 d)) :
    Calls Tryz.prog 20 #[.pointer (some a), fv] w fun e w' => e = .returned (.tuple #[]) ∧ w' = w := by
  have hl := run_call_load (P := Tryz.prog) Tryz.func35 (by kernel_rfl) (by kernel_rfl) (by kernel_rfl) .u32 (by kernel_rfl) h0
  have hnot : ∀ (x : Bool) (w : World), (Op.unary .not (.bool x)).run Tryz.prog w = .ok (.bool (!x)) w := fun _ _ => rfl
  have hd' : (d != 0) = true := by simp [hd]
  go_enter Tryz.func20, Tryz.ntmps20
  go_wp2
  go_end0
  exact ⟨rfl, rfl⟩

end Go.Proofs.YtoakmlopjeecoaaGreatDoor.Rd

namespace Go.Proofs.YtoakmlopjeecoaaGreatDoor.Rd
open Go Go.RowKit
set_option linter.unusedVariables false
set_option linter.unusedSimpArgs false
set_option maxRecDepth 100000

end Go.Proofs.YtoakmlopjeecoaaGreatDoor.Rd

namespace Go.Proofs.YtoakmlopjeecoaaGreatDoor.Rd
open Go Go.RowKit
set_option linter.unusedVariables false
set_option linter.unusedSimpArgs false
set_option maxRecDepth 100000

/-- The limbs' products of one row, as p tells which places count. -/
def inner (p : Nat → Bool) (a b i : Nat) : Nat → Nat
  | 0 => 0
  | k + 1 => inner p a b i k + if p (i + k) = true then lb a i * lb b k * B ^ (i + k) else 0
/-- All rows. -/
def outer (p : Nat → Bool) (a b : Nat) : Nat → Nat
  | 0 => 0
  | i + 1 => outer p a b i + inner p a b i 8

/-- What is gathered so far. -/
def far (p : Nat → Bool) (a b i k : Nat) : Nat := outer p a b i + inner p a b i k
end Go.Proofs.YtoakmlopjeecoaaGreatDoor.Rd

namespace Go.Proofs.YtoakmlopjeecoaaGreatDoor.Rd
open Go Go.RowKit
set_option linter.unusedVariables false
set_option linter.unusedSimpArgs false
set_option maxRecDepth 100000

end Go.Proofs.YtoakmlopjeecoaaGreatDoor.Rd

namespace Go.Proofs.YtoakmlopjeecoaaGreatDoor.Rd
open Go Go.RowKit
set_option linter.unusedVariables false
set_option linter.unusedSimpArgs false
set_option maxRecDepth 100000

/-- Some slice of limbs that holds n. -/
def LimbR (u n : Nat) (Lg : List (Nat × Obj)) (v : Value) : Prop := ∃ l, l ≤ u ∧ LimbIn l n Lg v
theorem LimbR.mono {u u' n : Nat} {Lg : List (Nat × Obj)} {v : Value} (h : LimbR u n Lg v) (hu : u ≤ u') : LimbR u' n Lg v := by
  obtain ⟨l, hl, h⟩ := h; exact ⟨l, by omega, h⟩
theorem GivesN.mono {P : Program} {f : FuncId} {args : Array Value} {R R' : List (Nat × Obj) → Value → Prop} {w0 : World} (h : GivesN P f args R w0) (hR : ∀ Lg v, R Lg v → R' Lg v) : GivesN P f args R' w0 :=
  Calls.mono h fun _ _ ⟨v, Lg, h1, h2, h3, h4, h5⟩ => ⟨v, Lg, h1, h2, h3, hR _ _ h4, h5⟩

end Go.Proofs.YtoakmlopjeecoaaGreatDoor.Rd

namespace Go.Proofs.YtoakmlopjeecoaaGreatDoor.Rd
open Go Go.RowKit
set_option linter.unusedVariables false
set_option linter.unusedSimpArgs false
set_option maxRecDepth 100000

end Go.Proofs.YtoakmlopjeecoaaGreatDoor.Rd

namespace Go.Proofs.YtoakmlopjeecoaaGreatDoor.Rd
open Go Go.RowKit
set_option linter.unusedVariables false
set_option linter.unusedSimpArgs false
set_option maxRecDepth 100000

def IsRoot (n s : Nat) : Prop := s * s ≤ n ∧ n < (s + 1) * (s + 1)
theorem Swap.two {b1 b2 : Nat} {o1 o2 : Obj} {w0 : World} (hne : b2 ≠ b1) (h1 : w0.heap[b1]? = some o1) (h2 : w0.heap[b2]? = some o2) (S : List Nat) : St w0 S [(b1, o1), (b2, o2)] w0 :=
  ⟨Keeps.refl _ _, fun b o h => by simp only [List.mem_cons, Prod.mk.injEq, List.not_mem_nil, or_false] at h; rcases h with ⟨rfl, rfl⟩ | ⟨rfl, rfl⟩ <;> assumption, by simp; exact fun e => hne e.symm⟩

end Go.Proofs.YtoakmlopjeecoaaGreatDoor.Rd

namespace Go.Proofs.YtoakmlopjeecoaaGreatDoor.Rd
open Go Go.RowKit
set_option linter.unusedVariables false
set_option linter.unusedSimpArgs false
set_option maxRecDepth 100000

end Go.Proofs.YtoakmlopjeecoaaGreatDoor.Rd

namespace Go.Proofs.YtoakmlopjeecoaaGreatDoor.Rd
open Go Go.RowKit
set_option linter.unusedVariables false
set_option linter.unusedSimpArgs false
set_option maxRecDepth 100000

end Go.Proofs.YtoakmlopjeecoaaGreatDoor.Rd

namespace Go.Proofs.YtoakmlopjeecoaaGreatDoor.Rd
open Go Go.RowKit
set_option linter.unusedVariables false
set_option linter.unusedSimpArgs false
set_option maxRecDepth 100000

end Go.Proofs.YtoakmlopjeecoaaGreatDoor.Rd

namespace Go.Proofs.YtoakmlopjeecoaaGreatDoor.Rd
set_option linter.unusedVariables false

/-- The digit that bounds tell. -/
def pickD (b1 b2 b3 b4 y : Int) : Int := if b1 ≤ y then 2 else if b2 ≤ y then 1 else if b3 ≤ y then 0 else if b4 ≤ y then -1 else -2

/-- What a digit's square counts at a step. -/
def rsq (j : Nat) (n : Int) : Int := if j = 0 then 4 * n else if j = 1 then n else if j = 2 then n / 4 else 0
def rdig (j : Nat) (s y : Int) : Int := pickD (3 * s + rsq j 9) (s + rsq j 1) (-s + rsq j 1) (-3 * s + rsq j 9) y
/-- The root so far, behind j steps. -/
def sp (up : Int) : Nat → Int
  | 0 => 2 ^ 128
  | j + 1 => sp up j + rdig j (sp up j / 2 ^ 122) ((up - sp up j * sp up j) / 2 ^ (248 - 2 * j)) * 2 ^ (126 - 2 * j)

end Go.Proofs.YtoakmlopjeecoaaGreatDoor.Rd

namespace Go.Proofs.YtoakmlopjeecoaaGreatDoor.Rd
open Go Go.RowKit
set_option linter.unusedVariables false
set_option linter.unusedSimpArgs false
set_option maxRecDepth 100000

/-- The four bounds. -/
def pb (b1 b2 b3 b4 : Int) : Array Value := #[.int .i64 b1, .int .i64 b2, .int .i64 b3, .int .i64 b4]
end Go.Proofs.YtoakmlopjeecoaaGreatDoor.Rd

namespace Go.Proofs.YtoakmlopjeecoaaGreatDoor.Rd
open Go Go.RowKit
set_option linter.unusedVariables false
set_option linter.unusedSimpArgs false
set_option maxRecDepth 100000

end Go.Proofs.YtoakmlopjeecoaaGreatDoor.Rd

namespace Go.Proofs.YtoakmlopjeecoaaGreatDoor.Rd
open Go Go.RowKit
set_option linter.unusedVariables false
set_option linter.unusedSimpArgs false
set_option maxRecDepth 100000

end Go.Proofs.YtoakmlopjeecoaaGreatDoor.Rd

namespace Go.Proofs.YtoakmlopjeecoaaGreatDoor.Rd
open Go Go.RowKit
set_option linter.unusedVariables false
set_option linter.unusedSimpArgs false
set_option maxRecDepth 100000

end Go.Proofs.YtoakmlopjeecoaaGreatDoor.Rd

namespace Go.Proofs.YtoakmlopjeecoaaGreatDoor.Rd
open Go Go.RowKit
set_option linter.unusedVariables false
set_option linter.unusedSimpArgs false
set_option maxRecDepth 100000

theorem IsRoot.down {n x s : Nat} (h : IsRoot (n * 4 ^ x) s) : IsRoot n (s / 2 ^ x) := by
  have e : (4 : Nat) ^ x = 2 ^ x * 2 ^ x := by rw [← Nat.mul_pow]
  have hp : 0 < 2 ^ x := Nat.pow_pos (by omega)
  obtain ⟨h1, h2⟩ := h
  rw [e] at h1 h2
  generalize 2 ^ x = p at *
  have h3 := Nat.div_add_mod s p
  have h4 := Nat.mod_lt s hp
  generalize s / p = t at *
  generalize s % p = r at *
  constructor
  · have g1 : (p * t) * (p * t) ≤ s * s := Nat.mul_le_mul (by omega) (by omega)
    have g2 : (t * t) * (p * p) ≤ n * (p * p) := by
      have : (t * t) * (p * p) = (p * t) * (p * t) := by grind
      omega
    exact Nat.le_of_mul_le_mul_right g2 (Nat.mul_pos hp hp)
  · have g1 : (s + 1) * (s + 1) ≤ (p * (t + 1)) * (p * (t + 1)) := by
      have : s + 1 ≤ p * (t + 1) := by rw [Nat.mul_add, Nat.mul_one]; omega
      exact Nat.mul_le_mul this this
    have g2 : n * (p * p) < ((t + 1) * (t + 1)) * (p * p) := by
      have : ((t + 1) * (t + 1)) * (p * p) = (p * (t + 1)) * (p * (t + 1)) := by grind
      omega
    exact Nat.lt_of_mul_lt_mul_right g2
end Go.Proofs.YtoakmlopjeecoaaGreatDoor.Rd

namespace Go.Proofs.YtoakmlopjeecoaaGreatDoor.Rd
set_option linter.unusedVariables false

end Go.Proofs.YtoakmlopjeecoaaGreatDoor.Rd

namespace Go.Proofs.YtoakmlopjeecoaaGreatDoor.Rd
set_option linter.unusedVariables false
set_option maxRecDepth 100000

/-- 2^128 and 2^160. -/
def K : Nat := 2 ^ 128
def R : Nat := 2 ^ 160
theorem R_pos : 0 < R := by decide
end Go.Proofs.YtoakmlopjeecoaaGreatDoor.Rd

namespace Go.Proofs.YtoakmlopjeecoaaGreatDoor.Rd
set_option linter.unusedVariables false
set_option maxRecDepth 100000

theorem natAbs_mul_le {a b : Int} {x y : Nat} (h1 : a.natAbs ≤ x) (h2 : b.natAbs ≤ y) : (a * b).natAbs ≤ x * y := by rw [Int.natAbs_mul]; exact Nat.mul_le_mul h1 h2

end Go.Proofs.YtoakmlopjeecoaaGreatDoor.Rd

namespace Go.Proofs.YtoakmlopjeecoaaGreatDoor.Rd
set_option linter.unusedVariables false
set_option maxRecDepth 100000

end Go.Proofs.YtoakmlopjeecoaaGreatDoor.Rd

namespace Go.Proofs.YtoakmlopjeecoaaGreatDoor.Rd
open Go Go.RowKit
set_option linter.unusedVariables false
set_option linter.unusedSimpArgs false
set_option maxRecDepth 100000

/-- Once, by a contract of its function. -/
theorem once_G (f : FuncId) (hf : GoF Tryz.prog f) (cap : Array Value) (b off : Nat) (E : TypeId) (cs : Array Value) (Q : Array Value → World → World → Prop) (w : World) (hb : w.heap[b]? = some (.cells cs E))
    (h0 : cs[off]? = some (.int .u32 0)) (h1 : cs[off + 1]? = some (.int .i32 0))
    (hc : ∀ w1, w1.heap[b]? = some (.cells (cs.setIfInBounds (off + 1) (.int .i32 1)) E) → Keeps [b] w w1 → Calls Tryz.prog f cap w1 fun e w2 => e = .returned (.tuple #[]) ∧ ∃ cs2, w2.heap[b]? = some (.cells cs2 E) ∧ (∃ x, cs2[off]? = some x) ∧ cs2[off + 1]? = some (.int .i32 1) ∧ Q cs2 w1 w2) :
    Calls Tryz.prog 20 #[.pointer (some ⟨b, off, none⟩), .func (.func f) #[] cap] w fun e w' => e = .returned (.tuple #[]) ∧ ∃ cs2 w1 w2, Q cs2 w1 w2 ∧ Keeps [b] w w1 ∧ Keeps [b] w2 w' ∧
      w'.heap[b]? = some (.cells ((cs2.setIfInBounds off (.int .u32 1)).setIfInBounds (off + 1) (.int .i32 0)) E) := by
  have c0 : w.cell? ⟨b, off, none⟩ = some (.int .u32 0) := by rw [cell_of_row w b off cs E _ hb]; exact h0
  have c1 : w.cell? ⟨b, off + 1, none⟩ = some (.int .i32 0) := by rw [cell_of_row w b (off + 1) cs E _ hb]; exact h1
  have f0 := frozen_of_row w b off cs E hb
  have f1 := frozen_of_row w b (off + 1) cs E hb
  have g1 := heap_setCell_same w b (off + 1) cs E (.int .i32 1) hb
  have k1 : Keeps [b] w (w.setCell ⟨b, off + 1, none⟩ (.int .i32 1)) := ⟨rfl, rfl, rfl, by simp [World.setCell], fun k _ hn => heap_setCell_other w ⟨b, off + 1, none⟩ k _ (by simpa using hn)⟩
  refine (on_do f hf cap b off (fun w2 => ∃ cs2, w2.heap[b]? = some (.cells cs2 E) ∧ Q cs2 (w.setCell ⟨b, off + 1, none⟩ (.int .i32 1)) w2) w c0 c1 f0 f1 ?_).mono ?_
  · refine (hc _ g1 k1).mono ?_
    rintro e w2 ⟨rfl, cs2, hb2, ⟨x, hx⟩, h3, hQ⟩
    exact ⟨rfl, ⟨x, by rw [cell_of_row w2 b off cs2 E _ hb2]; exact hx⟩, frozen_of_row w2 b off cs2 E hb2, by rw [cell_of_row w2 b (off + 1) cs2 E _ hb2]; exact h3, frozen_of_row w2 b (off + 1) cs2 E hb2, cs2, hb2, hQ⟩
  · rintro e w' ⟨rfl, w2, ⟨cs2, hb2, hQ⟩, rfl⟩
    have hd : w2.drew.heap[b]? = some (.cells cs2 E) := by rw [(Keeps.drew w2).block b (lt_of_some hb2) (by simp)]; exact hb2
    have e1 := heap_setCell_same w2.drew b off cs2 E (.int .u32 1) hd
    have e2 := heap_setCell_same _ b (off + 1) _ E (.int .i32 0) e1
    have sc : ∀ (w : World) o v, Keeps [b] w (w.setCell ⟨b, o, none⟩ v) := fun w o v => ⟨rfl, rfl, rfl, by simp [World.setCell], fun k _ hn => heap_setCell_other w ⟨b, o, none⟩ k _ (by simpa using hn)⟩
    exact ⟨rfl, cs2, _, w2, hQ, k1, (((Keeps.drew w2).mono (by simp)).trans (sc _ _ _) (fun x hx _ => hx)).trans (sc _ _ _) (fun x hx _ => hx), e2⟩

/-- The rom's cells. -/
def romC (dn lk mk : Int) (R T : Nat) : Array Value := #[.int .u32 dn, .int .i32 lk, .int .u32 0, .int .i64 mk] ++ (wc 64 R ++ wc 96 T)
end Go.Proofs.YtoakmlopjeecoaaGreatDoor.Rd

namespace Go.Proofs.YtoakmlopjeecoaaGreatDoor.Rd
open Go Go.RowKit
set_option linter.unusedVariables false
set_option linter.unusedSimpArgs false
set_option maxRecDepth 100000

theorem sc_keeps (w : World) (b o : Nat) (v : Value) : Keeps [b] w (w.setCell ⟨b, o, none⟩ v) := ⟨rfl, rfl, rfl, by simp [World.setCell], fun k _ hn => heap_setCell_other w ⟨b, o, none⟩ k _ (by simpa using hn)⟩

set_option maxHeartbeats 1000000 in
theorem int64_Load (b o : Nat) (x : Int) (cs : Array Value) (E : TypeId) (fr : Nat × Nat) (hx : cs[o]? = some (.int .i64 x)) (w0 : World) (hb : w0.heap[b]? = some (.cells cs E fr)) :
    GivesAt Tryz.prog 12 #[.pointer (some ⟨b, o, none⟩)] (.int .i64 x) w0 := by
  have hc : w0.cell? ⟨b, o, none⟩ = some (.int .i64 x) := by rw [cell_of_row w0 b o cs E _ hb]; exact hx
  have hl := run_call_load (P := Tryz.prog) Tryz.func18 (by kernel_rfl) (by kernel_rfl) (by kernel_rfl) .i64 (by kernel_rfl) hc
  have hk := Keeps.refl [] w0
  clear hb hx
  go_enter Tryz.func12, Tryz.ntmps12
  go_wp2
  go_ret
  exact ⟨rfl, hk⟩

end Go.Proofs.YtoakmlopjeecoaaGreatDoor.Rd

namespace Go.Proofs.YtoakmlopjeecoaaGreatDoor.Rd
open Go Go.RowKit
set_option linter.unusedVariables false
set_option linter.unusedSimpArgs false
set_option maxRecDepth 100000

end Go.Proofs.YtoakmlopjeecoaaGreatDoor.Rd

namespace Go.Proofs.YtoakmlopjeecoaaGreatDoor.Rd
open Go Go.RowKit
set_option linter.unusedVariables false
set_option linter.unusedSimpArgs false
set_option maxRecDepth 100000

end Go.Proofs.YtoakmlopjeecoaaGreatDoor.Rd

namespace Go.Proofs.YtoakmlopjeecoaaGreatDoor.Rd
open Go Go.RowKit
set_option linter.unusedVariables false
set_option linter.unusedSimpArgs false
set_option maxRecDepth 100000

/-- How many steps there are from a guess to what is right. -/
def off (g t : Nat) : Nat := if g = t then 0 else 1

end Go.Proofs.YtoakmlopjeecoaaGreatDoor.Rd

namespace Go.Proofs.YtoakmlopjeecoaaGreatDoor.Rd
open Go Go.RowKit
set_option linter.unusedVariables false
set_option linter.unusedSimpArgs false
set_option maxRecDepth 100000

end Go.Proofs.YtoakmlopjeecoaaGreatDoor.Rd

namespace Go.Proofs.YtoakmlopjeecoaaGreatDoor.Rd
open Go Go.RowKit
set_option linter.unusedVariables false
set_option linter.unusedSimpArgs false
set_option maxRecDepth 100000

theorem of_u64 (v : Nat) (hv : v < B) : ∀ b w, w.heap[b]? = some (.cells (wc 1 v) 22 (0, 0)) → GivesAt Tryz.prog 53 #[.slice (some ⟨b, 0, none⟩) 1 1] (W v) w := fun b w h => by
  have := wide_Of b 0 1 1 1 v 22 (0, 0) (by omega) w h
  rwa [Nat.pow_zero, Nat.div_one, show min 1 8 = 1 from rfl, Nat.mod_eq_of_lt (show v < B ^ 1 by rw [Nat.pow_one]; exact hv)] at this

end Go.Proofs.YtoakmlopjeecoaaGreatDoor.Rd

namespace Go.Proofs.YtoakmlopjeecoaaGreatDoor.Rd
open Go Go.RowKit
set_option linter.unusedVariables false
set_option linter.unusedSimpArgs false
set_option maxRecDepth 100000

end Go.Proofs.YtoakmlopjeecoaaGreatDoor.Rd

namespace Go.Proofs.YtoakmlopjeecoaaGreatDoor.Rd
open Go Go.RowKit
set_option linter.unusedVariables false
set_option linter.unusedSimpArgs false
set_option maxRecDepth 100000

end Go.Proofs.YtoakmlopjeecoaaGreatDoor.Rd

namespace Go.Proofs.YtoakmlopjeecoaaGreatDoor.Rd
set_option linter.unusedVariables false

theorem bl_mul_pow (a x : Nat) (h : a ≠ 0) : bl (a * 2 ^ x) = bl a + x := by
  have h1 := (bl_spec a).1
  have h2 := bl_lo h
  have h3 := bl_pos h
  obtain ⟨k, hk⟩ : ∃ k, bl a = k + 1 := ⟨bl a - 1, by omega⟩
  rw [hk] at h1 h2 ⊢
  rw [Nat.add_sub_cancel] at h2
  have hp : 0 < 2 ^ x := Nat.pow_pos (by omega)
  rw [show k + 1 + x = (k + x) + 1 by omega]
  apply bl_range
  · rw [Nat.pow_add]; exact Nat.mul_le_mul_right _ h2
  · rw [show k + x + 1 = (k + 1) + x by omega, Nat.pow_add]; exact Nat.mul_lt_mul_of_pos_right h1 hp

/-- a times 2^ea against b times 2^eb, without signs: below 0, 0, above 0. -/
def szC (a : Nat) (ea : Int) (b : Nat) (eb : Int) : Int :=
  if bl a = 0 ∨ bl b = 0 then min (bl a : Int) 1 - min (bl b : Int) 1
  else if ea + bl a ≠ eb + bl b then ea + bl a - eb - bl b
  else if a * 2 ^ (ea - min ea eb).toNat < b * 2 ^ (eb - min ea eb).toNat then -1 else if b * 2 ^ (eb - min ea eb).toNat < a * 2 ^ (ea - min ea eb).toNat then 1 else 0

theorem lt_of_bl {a b : Nat} (h : bl a < bl b) : a < b := by
  have h1 := (bl_spec a).1
  have hb : b ≠ 0 := fun e => by rw [e, bl_zero] at h; omega
  have h2 := bl_lo hb
  have h3 : 2 ^ bl a ≤ 2 ^ (bl b - 1) := Nat.pow_le_pow_right (by omega) (by omega)
  omega
theorem szC_sign (a : Nat) (ea : Int) (b : Nat) (eb : Int) :
    (szC a ea b eb < 0 ↔ a * 2 ^ (ea - min ea eb).toNat < b * 2 ^ (eb - min ea eb).toNat) ∧ (szC a ea b eb = 0 ↔ a * 2 ^ (ea - min ea eb).toNat = b * 2 ^ (eb - min ea eb).toNat) := by
  have hpa : 0 < 2 ^ (ea - min ea eb).toNat := Nat.pow_pos (by omega)
  have hpb : 0 < 2 ^ (eb - min ea eb).toNat := Nat.pow_pos (by omega)
  unfold szC
  by_cases ha : a = 0
  · subst ha
    rw [bl_zero, if_pos (.inl rfl), Nat.zero_mul]
    by_cases hb : b = 0
    · subst hb; rw [bl_zero, Nat.zero_mul]; simp
    · have h1 := bl_pos hb
      have h2 : 0 < b * 2 ^ (eb - min ea eb).toNat := Nat.mul_pos (by omega) hpb
      constructor <;> constructor <;> intro h <;> omega
  · have h1 := bl_pos ha
    by_cases hb : b = 0
    · subst hb
      rw [bl_zero, if_pos (.inr rfl), Nat.zero_mul]
      have h2 : 0 < a * 2 ^ (ea - min ea eb).toNat := Nat.mul_pos (by omega) hpa
      constructor <;> constructor <;> intro h <;> omega
    · have h2 := bl_pos hb
      rw [if_neg (by omega)]
      by_cases hd : ea + bl a ≠ eb + bl b
      · rw [if_pos hd]
        have e1 := bl_mul_pow a (ea - min ea eb).toNat ha
        have e2 := bl_mul_pow b (eb - min ea eb).toNat hb
        rcases Int.lt_or_lt_of_ne hd with h | h
        · have := lt_of_bl (a := a * 2 ^ (ea - min ea eb).toNat) (b := b * 2 ^ (eb - min ea eb).toNat) (by rw [e1, e2]; omega)
          constructor <;> constructor <;> intro h' <;> omega
        · have := lt_of_bl (a := b * 2 ^ (eb - min ea eb).toNat) (b := a * 2 ^ (ea - min ea eb).toNat) (by rw [e1, e2]; omega)
          constructor <;> constructor <;> intro h' <;> omega
      · rw [if_neg hd]
        split
        · constructor <;> constructor <;> intro h' <;> omega
        · split
          · constructor <;> constructor <;> intro h' <;> omega
          · constructor <;> constructor <;> intro h' <;> omega

/-- The same at any exponent that isn't above. -/
theorem scale_lt (a b : Nat) (ea eb l : Int) (h1 : l ≤ ea) (h2 : l ≤ eb) : (a * 2 ^ (ea - min ea eb).toNat < b * 2 ^ (eb - min ea eb).toNat ↔ a * 2 ^ (ea - l).toNat < b * 2 ^ (eb - l).toNat) ∧ (a * 2 ^ (ea - min ea eb).toNat = b * 2 ^ (eb - min ea eb).toNat ↔ a * 2 ^ (ea - l).toNat = b * 2 ^ (eb - l).toNat) := by
  obtain ⟨x, hx⟩ : ∃ x, x = (min ea eb - l).toNat := ⟨_, rfl⟩
  have e1 : (ea - l).toNat = (ea - min ea eb).toNat + x := by omega
  have e2 : (eb - l).toNat = (eb - min ea eb).toNat + x := by omega
  rw [e1, e2, Nat.pow_add, Nat.pow_add, ← Nat.mul_assoc, ← Nat.mul_assoc]
  have hp : 0 < 2 ^ x := Nat.pow_pos (by omega)
  generalize a * 2 ^ (ea - min ea eb).toNat = u
  generalize b * 2 ^ (eb - min ea eb).toNat = v
  exact ⟨(Nat.mul_lt_mul_right hp).symm, ⟨fun h => by rw [h], fun h => Nat.eq_of_mul_eq_mul_right hp h⟩⟩

end Go.Proofs.YtoakmlopjeecoaaGreatDoor.Rd

namespace Go.Proofs.YtoakmlopjeecoaaGreatDoor.Rd
set_option linter.unusedVariables false

end Go.Proofs.YtoakmlopjeecoaaGreatDoor.Rd

namespace Go.Proofs.YtoakmlopjeecoaaGreatDoor.Rd
open Go Go.RowKit
set_option linter.unusedVariables false
set_option linter.unusedSimpArgs false
set_option maxRecDepth 100000

/-- A word made of a sign, a field, a fraction. -/
def mkW (f : Nat) (ng : Bool) (fld fr : Nat) : Nat := fr + fld * 2 ^ (fP f - 1) + (if ng then 2 ^ (fB f - 1) else 0)

end Go.Proofs.YtoakmlopjeecoaaGreatDoor.Rd

namespace Go.Proofs.YtoakmlopjeecoaaGreatDoor.Rd
open Go Go.RowKit
set_option linter.unusedVariables false
set_option linter.unusedSimpArgs false
set_option maxRecDepth 100000

end Go.Proofs.YtoakmlopjeecoaaGreatDoor.Rd

namespace Go.Proofs.YtoakmlopjeecoaaGreatDoor.Rd
open Go Go.RowKit
set_option linter.unusedVariables false
set_option linter.unusedSimpArgs false
set_option maxRecDepth 100000

end Go.Proofs.YtoakmlopjeecoaaGreatDoor.Rd

namespace Go.Proofs.YtoakmlopjeecoaaGreatDoor.Rd
set_option linter.unusedVariables false

/-- c m k tells how m times 2^k stands to a number that lies, in units of 2^e, at r, or (s) between r and r + 1. -/
def KnC (c : Nat → Int → Int) (e : Int) (r : Nat) (s : Bool) : Prop := ∀ (m : Nat) (b : Nat), (c m (e + b) < 0 ↔ (m * 2 ^ b < r ∨ (m * 2 ^ b = r ∧ s = true))) ∧ (c m (e + b) = 0 ↔ (m * 2 ^ b = r ∧ s = false))
section
variable {c : Nat → Int → Int} {e : Int} {r : Nat} {s : Bool}
theorem KnC.le (h : KnC c e r s) (m b : Nat) : c m (e + b) ≤ 0 ↔ m ≤ r / 2 ^ b := by
  obtain ⟨h1, h2⟩ := h m b
  rw [Nat.le_div_iff_mul_le (Nat.pow_pos (by omega))]
  constructor
  · intro h
    rcases Int.lt_or_eq_of_le h with h | h
    · rcases h1.1 h with h | h <;> omega
    · have := (h2.1 h).1; omega
  · intro hq
    rcases Nat.lt_or_eq_of_le hq with hq | hq
    · have := h1.2 (.inl hq); omega
    · by_cases hs : s = true
      · have := h1.2 (.inr ⟨hq, hs⟩); omega
      · have := h2.2 ⟨hq, by simpa using hs⟩; omega
theorem KnC.eq (h : KnC c e r s) (b : Nat) : c (r / 2 ^ b) (e + b) = 0 ↔ (r % 2 ^ b = 0 ∧ s = false) := by
  rw [(h (r / 2 ^ b) b).2]
  have := Nat.div_add_mod r (2 ^ b)
  rw [Nat.mul_comm] at this
  constructor
  · rintro ⟨h1, h2⟩; exact ⟨by omega, h2⟩
  · rintro ⟨h1, h2⟩; exact ⟨by omega, h2⟩
theorem KnC.mid (h : KnC c e r s) (b : Nat) : max (-1) (min 1 (c (2 * (r / 2 ^ (b + 1)) + 1) (e + b))) = midC r b s := by
  obtain ⟨h1, h2⟩ := h (2 * (r / 2 ^ (b + 1)) + 1) b
  have hp : 0 < 2 ^ b := Nat.pow_pos (by omega)
  have hd := Nat.div_add_mod r (2 ^ b)
  have hm := Nat.mod_lt r hp
  rw [Nat.mul_comm] at hd
  unfold midC
  generalize 2 * (r / 2 ^ (b + 1)) + 1 = q at *
  generalize c q (e + b) = x at *
  generalize r / 2 ^ b = u at *
  generalize r % 2 ^ b = v at *
  generalize 2 ^ b = k at *
  rcases Nat.lt_trichotomy q u with hq | rfl | hq
  · rw [if_pos hq]
    have h3 : (q + 1) * k ≤ u * k := Nat.mul_le_mul_right _ hq
    rw [Nat.add_mul] at h3
    have := h1.2 (.inl (by omega))
    omega
  · rw [if_neg (by omega), if_neg (by omega)]
    by_cases hv : v = 0 ∧ s = false
    · rw [if_pos hv]
      have := h2.2 ⟨by omega, hv.2⟩
      omega
    · rw [if_neg hv]
      have : x < 0 := h1.2 (by
        by_cases h0 : v = 0
        · exact .inr ⟨by omega, by cases s <;> simp_all⟩
        · exact .inl (by omega))
      omega
  · rw [if_neg (by omega), if_pos hq]
    have h3 : (u + 1) * k ≤ q * k := Nat.mul_le_mul_right _ hq
    rw [Nat.add_mul] at h3
    have n1 : ¬ x < 0 := fun hx => by rcases h1.1 hx with h | h <;> omega
    have n2 : ¬ x = 0 := fun hx => by have := (h2.1 hx).1; omega
    omega
/-- What is cut off at a place, as the reference tells it. -/
theorem KnC.rest (h : KnC c e r s) (b : Nat) : (if c (r / 2 ^ (b + 1)) (e + (b + 1 : Nat)) = 0 then 0 else 2 - max (-1) (min 1 (c (2 * (r / 2 ^ (b + 1)) + 1) (e + b)))) = (restN r (b + 1) s : Int) := by
  rw [rest_mid, h.mid]
  by_cases hx : r % 2 ^ (b + 1) = 0 ∧ s = false
  · rw [if_pos hx, if_pos ((h.eq (b + 1)).2 hx)]
  · rw [if_neg hx, if_neg (fun h' => hx ((h.eq (b + 1)).1 h'))]
end

/-- The root of N times 2^E, that in units of 2^e is the root of n, whose whole part is r. -/
theorem KnC.root (N : Nat) (E e : Int) (t n r : Nat) (hE : E = 2 * e + t) (hn : n = N * 2 ^ t) (h1 : r * r ≤ n) (h2 : n < (r + 1) * (r + 1)) : KnC (fun m k => szC (m * m) (2 * k) N E) e r (decide (r * r ≠ n)) := by
  intro m b
  dsimp only
  obtain ⟨a1, a2⟩ := szC_sign (m * m) (2 * (e + b)) N E
  obtain ⟨h3, h4⟩ := scale_lt (m * m) N (2 * (e + b)) E (2 * e) (by omega) (by omega)
  rw [a1, a2, h3, h4, show (2 * (e + (b : Int)) - 2 * e).toNat = b + b by omega, show (E - 2 * e).toNat = t by omega, ← hn, Nat.pow_add]
  have em : m * m * (2 ^ b * 2 ^ b) = m * 2 ^ b * (m * 2 ^ b) := by grind
  rw [em]
  generalize m * 2 ^ b = x
  have hs : ∀ a b : Nat, a < b → a * a < b * b := fun a b h => Nat.mul_self_lt_mul_self h
  constructor
  · constructor
    · intro h
      rcases Nat.lt_trichotomy x r with h' | h' | h'
      · exact .inl h'
      · subst h'; exact .inr ⟨rfl, by simp; omega⟩
      · have := Nat.mul_self_le_mul_self (show r + 1 ≤ x from h'); omega
    · rintro (h | ⟨rfl, h⟩)
      · have := hs x r h; omega
      · simp at h; omega
  · constructor
    · intro h
      rcases Nat.lt_trichotomy x r with h' | h' | h'
      · have := hs x r h'; omega
      · subst h'; exact ⟨rfl, by simp; exact h⟩
      · have := Nat.mul_self_le_mul_self (show r + 1 ≤ x from h'); omega
    · rintro ⟨rfl, h⟩
      simpa using h

end Go.Proofs.YtoakmlopjeecoaaGreatDoor.Rd

namespace Go.Proofs.YtoakmlopjeecoaaGreatDoor.Rd
set_option linter.unusedVariables false

end Go.Proofs.YtoakmlopjeecoaaGreatDoor.Rd

namespace Go.Proofs.YtoakmlopjeecoaaGreatDoor.Rd
set_option linter.unusedVariables false

/-- The exponent of the least unit. -/
def eLo (f : Nat) : Int := 2 - (fE f : Int) - fP f
/-- What a word stands for, held against a number: at any exponent that isn't above. -/
theorem szC_word (f w : Nat) (u : Nat) (pl l : Int) (h1 : l ≤ eLo f) (h2 : l ≤ pl) (we : Int) (hwe : we = ((wField f w - 1 : Nat) : Int) + (1 - (fE f : Int)) - fP f + 1) :
    (szC (wSig f w) we u pl ≤ 0 ↔ wV f w * 2 ^ (eLo f - l).toNat ≤ u * 2 ^ (pl - l).toNat) ∧ (szC (wSig f w) we u pl = 0 ↔ wV f w * 2 ^ (eLo f - l).toNat = u * 2 ^ (pl - l).toNat) := by
  obtain ⟨a1, a2⟩ := szC_sign (wSig f w) we u pl
  have hl : l ≤ we := by unfold eLo at h1; omega
  obtain ⟨b1, b2⟩ := scale_lt (wSig f w) u we pl l hl h2
  have e : wSig f w * 2 ^ (we - l).toNat = wV f w * 2 ^ (eLo f - l).toNat := by
    unfold wV
    rw [Nat.mul_assoc, ← Nat.pow_add]
    congr 2
    unfold eLo at *
    omega
  rw [e] at b1 b2
  constructor
  · constructor
    · intro h
      rcases Int.lt_or_eq_of_le h with h | h
      · exact Nat.le_of_lt (b1.1 (a1.1 h))
      · exact Nat.le_of_eq (b2.1 (a2.1 h))
    · intro h
      rcases Nat.lt_or_eq_of_le h with h | h
      · exact Int.le_of_lt (a1.2 (b1.2 h))
      · exact Int.le_of_eq (a2.2 (b2.2 h))
  · rw [a2, b2]

/-- M' is the greatest finite word, without its sign, that isn't above u times 2^pl. -/
def IsFind (f u : Nat) (pl : Int) (M' : Nat) : Prop := M' < (2 * fE f + 1) * 2 ^ (fP f - 1) ∧ ∀ w, w < 2 ^ (fB f - 1) → ∀ we : Int, we = ((wField f w - 1 : Nat) : Int) + (1 - (fE f : Int)) - fP f + 1 → ((wFin f w = true ∧ szC (wSig f w) we u pl ≤ 0) ↔ w ≤ M')
/-- A number that just is a word's. -/
theorem IsFind.exact (f u : Nat) (pl l : Int) (M' : Nat) (h1 : l ≤ eLo f) (h2 : l ≤ pl) (hM : M' < (2 * fE f + 1) * 2 ^ (fP f - 1)) (he : wV f M' * 2 ^ (eLo f - l).toNat = u * 2 ^ (pl - l).toNat) : IsFind f u pl M' := by
  refine ⟨hM, fun w hw we hwe => ?_⟩
  rw [(szC_word f w u pl l h1 h2 we hwe).1, ← he, Nat.mul_le_mul_right_iff (Nat.pow_pos (by omega))]
  exact find_exact f hw hM

end Go.Proofs.YtoakmlopjeecoaaGreatDoor.Rd

namespace Go.Proofs.YtoakmlopjeecoaaGreatDoor.Rd
set_option linter.unusedVariables false

/-- The word of an infinite one. -/
def infW (f : Nat) (ng : Bool) : Nat := (2 * fE f + 1) * 2 ^ (fP f - 1) + (if ng then 2 ^ (fB f - 1) else 0)
end Go.Proofs.YtoakmlopjeecoaaGreatDoor.Rd
