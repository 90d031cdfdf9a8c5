/- digits.Int; awake. -/
import Derived.Test.YtojjmcghcgidlaaDoorReK
import Derived.Test.YtojjmcghcgidlaaDoorRdO
import Derived.Test.YtojjmcghcgidlaaDoorRdF
import Derived.Lib.ItoaMem
namespace Go.Proofs.YtojjmcghcgidlaaDoor.Rd
open Go Go.RowKit
set_option linter.unusedVariables false
set_option linter.unusedSimpArgs false
set_option maxRecDepth 100000

theorem tabIs_keeps {P : Program} {w w' : World} {name : String} {k : IntKind} {zs : List Int} (h : Lib.TabIs P w name k zs) (hk : Keeps [] w w') : Lib.TabIs P w' name k zs := by
  unfold Lib.TabIs World.var? at *
  cases hg : P.globalNamed name with
  | none => simp [hg] at h
  | some g =>
    simp only [hg, Option.bind_some] at h ⊢
    have hlt : g < w.heap.size := by
      rcases Nat.lt_or_ge g w.heap.size with h' | h'
      · exact h'
      · rw [Array.getElem?_eq_none h'] at h; simp at h
    rw [hk.block g hlt (by simp)]
    exact h

/-- The table that Itoa and Atoi read. -/
def Tab10 (w : World) : Prop := Lib.TabIs Tryd.prog w "internal/strconv.uint64pow10" .u64 Lib.pow10Tab
theorem Tab10.keep {w w' : World} (h : Tab10 w) (k : Keeps [] w w') : Tab10 w' := tabIs_keeps h k

theorem strconv_Itoa (n : Int) (h0 : -9223372036854775808 ≤ n) (h1 : n ≤ 9223372036854775807) (w : World) (ht : Tab10 w) : GivesAt Tryd.prog 31 #[.int .i64 n] (.string ⟨(Lib.itoa n).toArray⟩) w := by
  refine (Tryd.strconv_Itoa n h0 h1 w ht).mono fun e w' ⟨h2, k, os, h3⟩ => ⟨h2, ?_⟩
  subst h3
  exact Keeps.of_below ⟨rfl, rfl, rfl, by show w.heap.size ≤ (w.heap ++ os).size; rw [Array.size_append]; omega, fun i hi => Go.Sort.heap_grow_old (w.drewN k) os hi⟩

theorem digits_Int (n : Int) (h0 : -9223372036854775808 ≤ n) (h1 : n ≤ 9223372036854775807) (w0 : World) (ht : Tab10 w0) : GivesAt Tryd.prog 15 #[.int .i64 n] (.string ⟨(Lib.itoa n).toArray⟩) w0 := by
  have hst := St.start [] w0
  have hc := fun w (k : Keeps [] w0 w) => strconv_Itoa n h0 h1 w (ht.keep k)
  go_enter Tryd.func15, Tryd.ntmps15
  go_wp2_with ((first | (refine kg gf31 hst (fun w hst => hc w hst.keeps) rfl rfl rfl rfl ?_; clear hst; intro w hst)); try simp only [pz, pn, sz, sc])
  refine bp_t rfl rfl (by rfl) ⟨?_, hst.keeps⟩
  rfl

theorem M_val : (18446744073709551616 : Nat) < M := by decide
set_option maxHeartbeats 4000000 in
theorem law_awake (w0 : World) (ht : Tab10 w0) : GivesAt Tryd.prog 11 #[] (.bool true) w0 := by
  have hst := St.start [] w0
  have hp := wide_Power 64
  have ep : pow2 64 = 18446744073709551616 := by decide
  rw [ep] at hp
  have hh := digits_Hex 18446744073709551616 17 M_val ⟨by omega, by decide, .inr (by decide)⟩
  have hd := digits_Decimal 18446744073709551616 20 M_val ⟨by omega, by decide, .inr (by decide)⟩
  have e1 : txt 16 18446744073709551616 17 = [49, 48, 48, 48, 48, 48, 48, 48, 48, 48, 48, 48, 48, 48, 48, 48, 48] := by decide +kernel
  have e2 : txt 10 18446744073709551616 20 = [49, 56, 52, 52, 54, 55, 52, 52, 48, 55, 51, 55, 48, 57, 53, 53, 49, 54, 49, 54] := by decide +kernel
  rw [e1] at hh
  rw [e2] at hd
  have hi := fun w (k : Keeps [] w0 w) => digits_Int (-7) (by omega) (by omega) w (ht.keep k)
  have e3 : Lib.itoa (-7) = [45, 55] := by decide +kernel
  rw [e3] at hi
  generalize 18446744073709551616 = n at hp hh hd
  clear e1 e2 e3 ep
  go_enter Tryd.func11, Tryd.ntmps11
  go_wp2_with ((first | (refine kf gf26 hst (hp) rfl rfl rfl rfl ?_; clear hst; intro w hst) | (refine kf gf7 hst (hh) rfl rfl rfl rfl ?_; clear hst; intro w hst) | (refine kf gf12 hst (hd) rfl rfl rfl rfl ?_; clear hst; intro w hst) | (refine kg gf15 hst (fun w hst => hi w hst.keeps) rfl rfl rfl rfl ?_; clear hst; intro w hst) | (refine wl_guard (by rfl) ?_)); try simp only [pz, pn, sz, sc])
  refine bp_t rfl rfl (by rfl) ⟨?_, hst.keeps⟩
  rfl

end Go.Proofs.YtojjmcghcgidlaaDoor.Rd
