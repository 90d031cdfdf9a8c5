/- Arguments that are words: opened as a number, and shut. -/
import Derived.Test.YtojjmcghcgidlaaGreatDoorRwA
import Derived.Test.YtojjmcghcgidlaaGreatDoorRfA
import Derived.Lib.SmallJoins
namespace Go.Proofs.YtojjmcghcgidlaaGreatDoor.Rw
open Go Go.ChangeShapes Go.WideShapes Go.ChangeAt Go.RowKit Go.Joins Go.Deep Go.Proofs.YtojjmcghcgidlaaGreatDoor.Rd

section
variable {H : Type} {enc : TypeId × Value → H} {P : Program} {w : World} {base : Nat} {sp : Nat → Bool} {held : Bool}
/-- What a word reads as. -/
def wordD (H : Type) (m : Nat) : DataW H := .agg [.lit (.int .u64 (lb m 1 : Nat)), .lit (.int .u64 (lb m 0 : Nat))]
theorem u64_nat {z : Int} (h : (Lit.int .u64 z).wf = true) : ∃ y : Nat, z = y ∧ y < B := by
  have hz : 0 ≤ z ∧ z < 18446744073709551616 := by
    simp [Lit.wf, IntKind.min, IntKind.max, IntKind.signed, IntKind.bits] at h
    omega
  exact ⟨z.toNat, by omega, by rw [B_val]; omega⟩
theorem lb_wf (n i : Nat) : (Lit.int .u64 (lb n i : Nat)).wf = true := by
  have := lb_lt n i
  rw [B_val] at this
  simp [Lit.wf, IntKind.min, IntKind.max, IntKind.signed, IntKind.bits]
  omega
theorem word_of (x y : Nat) (hx : x < B) (hy : y < B) : ∃ m, m < M2 ∧ lb m 1 = x ∧ lb m 0 = y := by
  refine ⟨y + x * B ^ 1, ?_, ?_, ?_⟩
  · have : (x + 1) * B ≤ B * B := Nat.mul_le_mul_right _ hx
    rw [Nat.add_mul, Nat.one_mul] at this
    rw [Nat.pow_one]
    show _ < B ^ 2
    rw [Nat.pow_two]; omega
  · rw [lb_add_at y x 1 1 (by rw [Nat.pow_one]; exact hy) hx, if_pos rfl]
  · rw [lb_add_at y x 1 0 (by rw [Nat.pow_one]; exact hy) hx, if_neg (by omega), lb_zero, Nat.mod_eq_of_lt hy]

theorem open_word {r : Reach} {b0 : Nat} {t : TypeId} {f0 f1 : Field} {v : Value} {d : DataW H} {ps : List MemPlace} (hs : P.underlying t = some (.struct #[f0, f1])) (hone : oneCellFields P #[f0, f1] = true) (hC : P.cellsOf t = 2)
    (u0 : P.underlying f0.type = some (.int .u64)) (u1 : P.underlying f1.type = some (.int .u64)) (hv : Value.okWide P w r b0 t v) (hd : DataW.Trod enc P w base sp held t v d ps) : ∃ m, m < M2 ∧ v = Wd m ∧ d = wordD H m ∧ ps = [] := by
  obtain ⟨v0, v1, y0, y1, n, rfl, rfl, rfl, h0, h1⟩ := open_agg2 hs hone hC hv hd
  obtain ⟨z0, e0, rfl, w0⟩ := DataW.trod_int u0 h0
  obtain ⟨z1, e1, rfl, w1⟩ := DataW.trod_int u1 h1
  obtain ⟨x, rfl, hx⟩ := u64_nat w0
  obtain ⟨y, rfl, hy⟩ := u64_nat w1
  obtain ⟨m, hm, e2, e3⟩ := word_of x y hx hy
  simp only [List.cons.injEq, and_true] at e0 e1
  subst e0 e1
  exact ⟨m, hm, by unfold Wd wdc; rw [e2, e3], by unfold wordD; rw [e2, e3], rfl⟩
theorem shut_word {t : TypeId} {f0 f1 : Field} {m : Nat} (hs : P.underlying t = some (.struct #[f0, f1])) (hone : oneCellFields P #[f0, f1] = true) (hC : P.cellsOf t = 2)
    (u0 : P.underlying f0.type = some (.int .u64)) (u1 : P.underlying f1.type = some (.int .u64)) : DataW.Trod enc P w base sp held t (Wd m) (wordD H m) [] :=
  shut_agg2 (y0 := (.lit (.int .u64 (lb m 1 : Nat)), [])) (y1 := (.lit (.int .u64 (lb m 0 : Nat)), [])) hs hone hC ⟨1, by unfold DataW.trod; rw [u0]; simp [lb_wf]⟩ ⟨1, by unfold DataW.trod; rw [u1]; simp [lb_wf]⟩
end
end Go.Proofs.YtojjmcghcgidlaaGreatDoor.Rw
