/- What digits.plain answers. -/
import Derived.Test.YtojjmcghcgidlaaDoorRdN
namespace Go.Proofs.YtojjmcghcgidlaaDoor.Rd
open Go Go.RowKit
set_option linter.unusedVariables false
set_option linter.unusedSimpArgs false
set_option maxRecDepth 100000

/-- What a sign is worth: 99, if it is none. -/
def val (c : Nat) : Nat := if 48 ≤ c ∧ c ≤ 57 then c - 48 else if 97 ≤ c ∧ c ≤ 102 then c - 87 else 99

theorem ib_10 : ∀ x : Nat, x < 127 → decide (Lib.indexByte [48, 49, 50, 51, 52, 53, 54, 55, 56, 57] x.toUInt8 < 0) = decide (10 ≤ val x) := by decide +kernel
theorem ib_16 : ∀ x : Nat, x < 127 → decide (Lib.indexByte [48, 49, 50, 51, 52, 53, 54, 55, 56, 57, 97, 98, 99, 100, 101, 102] x.toUInt8 < 0) = decide (16 ≤ val x) := by decide +kernel
theorem val_big (x : Nat) (h : 103 ≤ x) : val x = 99 := by unfold val; rw [if_neg (by omega), if_neg (by omega)]

theorem plain_1_10 (x b : Nat) (hx : x ≤ 1114111) (E : TypeId) (w0 : World) (hb : w0.heap[b]? = some (.cells #[.int .i64 10] E (0, 0))) :
    GivesAt Tryd.prog 48 #[.int .i32 x, .pointer (some ⟨b, 0, none⟩)] (.bool (decide (10 ≤ val x))) w0 := by
  have hst := (St.start [] w0).add hb (by simp)
  clear hb
  by_cases h : 126 < x
  · have e1 := val_big x (by omega)
    have e2 : decide ((126 : Int) < (x : Int)) = true := by simp; omega
    rw [e1]
    clear e1 
    go_enter Tryd.func48, Tryd.ntmps48
    go_wp2_with ((first | (refine wl_guard (by rfl) ?_) | (refine kc hst tc3 rfl ?_)); try simp only [pz, pn, sz, sc])
    refine bp_t rfl rfl (by rfl) ⟨?_, hst.keeps⟩
    rfl
  · have e2 : decide ((126 : Int) < (x : Int)) = false := by simp; omega
    have e3 := ib_10 x (by omega)
    have h0 : (0 : Int) ≤ (x : Int) := by omega
    have h1 : (x : Int) ≤ 126 := by omega
    have hc := Gives.of_same fun w => Tryd.strings_IndexByte ⟨#[48, 49, 50, 51, 52, 53, 54, 55, 56, 57]⟩ (x : Int) w
    rw [Int.toNat_natCast] at hc
    generalize hi : Lib.indexByte _ _ = i at hc e3
    rw [← e3]
    clear e3
    go_enter Tryd.func48, Tryd.ntmps48
    go_wp2_with ((first | (refine kf gf49 hst (hc) rfl rfl rfl rfl ?_; clear hst; intro w hst) | (refine wl_guard (by rfl) ?_) | (refine kc hst tc3 rfl ?_)); try simp only [pz, pn, sz, sc])
    refine bp_t rfl rfl (by rfl) ⟨?_, hst.keeps⟩
    rfl

theorem plain_1_16 (x b : Nat) (hx : x ≤ 1114111) (E : TypeId) (w0 : World) (hb : w0.heap[b]? = some (.cells #[.int .i64 16] E (0, 0))) :
    GivesAt Tryd.prog 48 #[.int .i32 x, .pointer (some ⟨b, 0, none⟩)] (.bool (decide (16 ≤ val x))) w0 := by
  have hst := (St.start [] w0).add hb (by simp)
  clear hb
  by_cases h : 126 < x
  · have e1 := val_big x (by omega)
    have e2 : decide ((126 : Int) < (x : Int)) = true := by simp; omega
    rw [e1]
    clear e1 
    go_enter Tryd.func48, Tryd.ntmps48
    go_wp2_with ((first | (refine wl_guard (by rfl) ?_) | (refine kc hst tc3 rfl ?_)); try simp only [pz, pn, sz, sc])
    refine bp_t rfl rfl (by rfl) ⟨?_, hst.keeps⟩
    rfl
  · have e2 : decide ((126 : Int) < (x : Int)) = false := by simp; omega
    have e3 := ib_16 x (by omega)
    have h0 : (0 : Int) ≤ (x : Int) := by omega
    have h1 : (x : Int) ≤ 126 := by omega
    have hc := Gives.of_same fun w => Tryd.strings_IndexByte ⟨#[48, 49, 50, 51, 52, 53, 54, 55, 56, 57, 97, 98, 99, 100, 101, 102]⟩ (x : Int) w
    rw [Int.toNat_natCast] at hc
    generalize hi : Lib.indexByte _ _ = i at hc e3
    rw [← e3]
    clear e3
    go_enter Tryd.func48, Tryd.ntmps48
    go_wp2_with ((first | (refine kf gf49 hst (hc) rfl rfl rfl rfl ?_; clear hst; intro w hst) | (refine wl_guard (by rfl) ?_) | (refine kc hst tc3 rfl ?_)); try simp only [pz, pn, sz, sc])
    refine bp_t rfl rfl (by rfl) ⟨?_, hst.keeps⟩
    rfl

/-- Is it a number's text? -/
def isPlain (base : Nat) (l : List UInt8) : Bool := l != [] && l.all (fun c => decide (val c.toNat < base)) && (l == [48] || l.head? != some 48)


end Go.Proofs.YtojjmcghcgidlaaDoor.Rd
