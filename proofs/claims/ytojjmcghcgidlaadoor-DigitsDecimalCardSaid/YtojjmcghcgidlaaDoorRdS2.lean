/- What digits.worth answers; laws of a loop over a text. -/
import Derived.Test.YtojjmcghcgidlaaDoorRdR
import Derived.Lib.OthersKept
namespace Go.Proofs.YtojjmcghcgidlaaDoor.Rd
open Go Go.RowKit
set_option linter.unusedVariables false
set_option linter.unusedSimpArgs false
set_option maxRecDepth 100000

section
variable {P : Program} {ops : Array Oper} {rest : List Oper} {Q : Exit → Act → World → Prop} {a : Act} {w w0 : World} {S : List Nat} {L L' : List (Nat × Obj)}

theorem wl_range {o : Oper} {T : TypeId} {x : Operand} {s : ByteArray} (hst : St w0 S L w) (hT : P.underlying T = some .string) (hg : o.guard = none) (ho : o.op = .range T x) (hx : a.eval x = .string s)
    (h : ∀ b w', w0.heap.size ≤ b → St w0 S ((b, .stringIter s 0) :: L) w' → wpList P ops Q rest (a.put o.dst (.pointer (some ⟨b, 0, none⟩))) w') : wpList P ops Q (o :: rest) a w := by
  refine wpList_plain hg fun K hK => ?_
  unfold Oper.wp execOp
  simp only [ho, hx, Sem.run_bind, run_range_string w T s hT, Sem.run_pure, Result.andThen_ok]
  exact hK _ _ (h _ _ hst.keeps.size (hst.alloc _))

theorem keeps_iterAt (w : World) (k : Nat) (s : ByteArray) (p : Nat) : Keeps [k] w (w.iterAt k s p) := by
  refine ⟨rfl, rfl, rfl, by simp [World.iterAt], fun j _ hj => ?_⟩
  simp only [World.iterAt, Array.getElem?_setIfInBounds]
  rw [if_neg (by simpa using fun e => hj (by simp [e]))]

theorem wl_next {o : Oper} {x : Operand} {b pos : Nat} {s : ByteArray} {c : UInt8} (hst : St w0 S L w) (hg : o.guard = none) (ho : o.op = .next x true) (hx : a.eval x = .pointer (some ⟨b, 0, none⟩))
    (hc : s.data[pos]? = some c) (ha : c.toNat < 128) (hat : At b (.stringIter s pos) (.stringIter s (pos + 1)) L L') (hb : w0.heap.size ≤ b ∨ b ∈ S)
    (h : ∀ w', St w0 S L' w' → wpList P ops Q rest (a.put o.dst (.tuple #[.bool true, .int .i64 (pos : Nat), .int .i32 (c.toNat : Nat)])) w') : wpList P ops Q (o :: rest) a w := by
  have hlt : pos < s.size := by
    rcases Nat.lt_or_ge pos s.data.size with h' | h'
    · exact h'
    · rw [Array.getElem?_eq_none h'] at hc; cases hc
  have hget : s[pos]'hlt = c := by
    have e : s.data[pos]? = some (s.data[pos]'hlt) := Array.getElem?_eq_getElem hlt
    rw [e] at hc
    exact Option.some.inj hc
  have hin := hst.own _ _ hat.mem
  have h1 := Lib.run_next_ascii_at (P := P) w b s pos o.type hin hlt (by rw [hget]; exact ha)
  rw [hget] at h1
  have hnew := Lib.iterAt_heap w b s pos (pos + 1) hin
  refine wpList_plain hg fun K hK => ?_
  unfold Oper.wp execOp
  simp only [ho, hx, Sem.run_bind, h1, Sem.run_pure, Result.andThen_ok]
  exact hK _ _ (h _ (hst.put hat hb (keeps_iterAt w b s (pos + 1)) hnew))

theorem wl_next_end {o : Oper} {x : Operand} {b pos : Nat} {s : ByteArray} (hst : St w0 S L w) (hg : o.guard = none) (ho : o.op = .next x true) (hx : a.eval x = .pointer (some ⟨b, 0, none⟩))
    (hm : (b, .stringIter s pos) ∈ L) (hp : ¬ pos < s.size)
    (h : wpList P ops Q rest (a.put o.dst (.tuple #[.bool false])) w) : wpList P ops Q (o :: rest) a w := by
  have hin := hst.own _ _ hm
  have h1 : (Instr.next (.pointer (some ⟨b, 0, none⟩)) true o.type).run P w = .ok (.tuple #[.bool false]) w := by
    simp [Instr.next, getObj, Sem.run, hin, hp]
  refine wpList_plain hg fun K hK => ?_
  unfold Oper.wp execOp
  simp only [ho, hx, Sem.run_bind, h1, Sem.run_pure, Result.andThen_ok]
  exact hK _ _ h
end

theorem ib_val : ∀ x : Nat, x < 127 → val x < 16 → Lib.indexByte [48, 49, 50, 51, 52, 53, 54, 55, 56, 57, 97, 98, 99, 100, 101, 102] x.toUInt8 = (val x : Int) := by decide +kernel
theorem val_small (x : Nat) (h : val x < 16) : x < 127 := by
  rcases Nat.lt_or_ge x 127 with h' | h'
  · exact h'
  · rw [val_big x (by omega)] at h; omega

theorem digits_worth (x : Nat) (h : val x < 16) : Gives Tryd.prog 20 #[.int .i32 x] (.int .i64 (val x : Nat)) := by
  intro w0
  have hst := St.start [] w0
  have hx := val_small x h
  have hc := Gives.of_same fun w => Tryd.strings_IndexRune_ascii ⟨#[48, 49, 50, 51, 52, 53, 54, 55, 56, 57, 97, 98, 99, 100, 101, 102]⟩ (x : Int) w (by omega) (by omega)
  rw [Int.toNat_natCast, ib_val x hx h] at hc
  clear h hx
  go_enter Tryd.func20, Tryd.ntmps20
  go_wp2_with ((first | (refine kf gf42 hst (hc) rfl rfl rfl rfl ?_; clear hst; intro w hst)); try simp only [pz, pn, sz, sc])
  refine bp_t rfl rfl (by rfl) ⟨?_, hst.keeps⟩
  rfl

/-- What a text is worth. -/
def nv (base : Nat) (l : List UInt8) : Nat := l.foldl (fun a c => a * base + val c.toNat) 0
theorem nv_snoc (base : Nat) (l : List UInt8) (c : UInt8) : nv base (l ++ [c]) = nv base l * base + val c.toNat := by simp [nv]
theorem nv_take (base : Nat) (l : List UInt8) (k : Nat) (c : UInt8) (h : l[k]? = some c) : nv base (l.take (k + 1)) = nv base (l.take k) * base + val c.toNat := by
  have : l.take (k + 1) = l.take k ++ [c] := by
    rw [List.take_add_one, h]; rfl
  rw [this, nv_snoc]
theorem nv_append_ge (base : Nat) (hb : 1 ≤ base) : ∀ (r l : List UInt8), nv base l ≤ nv base (l ++ r)
  | [], l => by simp
  | c :: r, l => by
    have ih := nv_append_ge base hb r (l ++ [c])
    rw [nv_snoc, List.append_assoc] at ih
    have : nv base l ≤ nv base l * base := Nat.le_mul_of_pos_right _ hb
    simp only [List.singleton_append] at ih
    omega
theorem nv_take_le (base : Nat) (hb : 1 ≤ base) (l : List UInt8) (k : Nat) : nv base (l.take k) ≤ nv base l := by
  have := nv_append_ge base hb (l.drop k) (l.take k)
  rwa [List.take_append_drop] at this

/-- What a text reads as, and an error's number. -/
def rd (base : Nat) (l : List UInt8) : Nat × Nat := if isPlain base l then (if nv base l < M then (nv base l, 0) else (0, 4)) else (0, 2)

end Go.Proofs.YtojjmcghcgidlaaDoor.Rd
