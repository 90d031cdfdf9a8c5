/- What the rom's Recip, Guess answer; fix.without, Times, Two. -/
import Derived.Test.YtggchelniblipaaGreatDoorJ03
import Derived.Test.YtggchelniblipaaGreatDoorJ12
import Derived.Test.YtggchelniblipaaGreatDoorJ13
namespace Go.Proofs.YtggchelniblipaaGreatDoor.Rd
open Go Go.RowKit
set_option linter.unusedVariables false
set_option linter.unusedSimpArgs false
set_option maxRecDepth 100000

/-- Once, by a contract of its function. -/
theorem once_G (f : FuncId) (hf : GoF Tryz.prog f) (cap : Array Value) (b off : Nat) (E : TypeId) (cs : Array Value) (Q : Array Value → World → World → Prop) (w : World) (hb : w.heap[b]? = some (.cells cs E))
    (h0 : cs[off]? = some (.int .u32 0)) (h1 : cs[off + 1]? = some (.int .i32 0))
    (hc : ∀ w1, w1.heap[b]? = some (.cells (cs.setIfInBounds (off + 1) (.int .i32 1)) E) → Keeps [b] w w1 → Calls Tryz.prog f cap w1 fun e w2 => e = .returned (.tuple #[]) ∧ ∃ cs2, w2.heap[b]? = some (.cells cs2 E) ∧ (∃ x, cs2[off]? = some x) ∧ cs2[off + 1]? = some (.int .i32 1) ∧ Q cs2 w1 w2) :
    Calls Tryz.prog 21 #[.pointer (some ⟨b, off, none⟩), .func (.func f) #[] cap] w fun e w' => e = .returned (.tuple #[]) ∧ ∃ cs2 w1 w2, Q cs2 w1 w2 ∧ Keeps [b] w w1 ∧ Keeps [b] w2 w' ∧
      w'.heap[b]? = some (.cells ((cs2.setIfInBounds off (.int .u32 1)).setIfInBounds (off + 1) (.int .i32 0)) E) := by
  have c0 : w.cell? ⟨b, off, none⟩ = some (.int .u32 0) := by rw [cell_of_row w b off cs E _ hb]; exact h0
  have c1 : w.cell? ⟨b, off + 1, none⟩ = some (.int .i32 0) := by rw [cell_of_row w b (off + 1) cs E _ hb]; exact h1
  have f0 := frozen_of_row w b off cs E hb
  have f1 := frozen_of_row w b (off + 1) cs E hb
  have g1 := heap_setCell_same w b (off + 1) cs E (.int .i32 1) hb
  have k1 : Keeps [b] w (w.setCell ⟨b, off + 1, none⟩ (.int .i32 1)) := ⟨rfl, rfl, rfl, by simp [World.setCell], fun k _ hn => heap_setCell_other w ⟨b, off + 1, none⟩ k _ (by simpa using hn)⟩
  refine (on_do f hf cap b off (fun w2 => ∃ cs2, w2.heap[b]? = some (.cells cs2 E) ∧ Q cs2 (w.setCell ⟨b, off + 1, none⟩ (.int .i32 1)) w2) w c0 c1 f0 f1 ?_).mono ?_
  · refine (hc _ g1 k1).mono ?_
    rintro e w2 ⟨rfl, cs2, hb2, ⟨x, hx⟩, h3, hQ⟩
    exact ⟨rfl, ⟨x, by rw [cell_of_row w2 b off cs2 E _ hb2]; exact hx⟩, frozen_of_row w2 b off cs2 E hb2, by rw [cell_of_row w2 b (off + 1) cs2 E _ hb2]; exact h3, frozen_of_row w2 b (off + 1) cs2 E hb2, cs2, hb2, hQ⟩
  · rintro e w' ⟨rfl, w2, ⟨cs2, hb2, hQ⟩, rfl⟩
    have hd : w2.drew.heap[b]? = some (.cells cs2 E) := by rw [(Keeps.drew w2).block b (lt_of_some hb2) (by simp)]; exact hb2
    have e1 := heap_setCell_same w2.drew b off cs2 E (.int .u32 1) hd
    have e2 := heap_setCell_same _ b (off + 1) _ E (.int .i32 0) e1
    have sc : ∀ (w : World) o v, Keeps [b] w (w.setCell ⟨b, o, none⟩ v) := fun w o v => ⟨rfl, rfl, rfl, by simp [World.setCell], fun k _ hn => heap_setCell_other w ⟨b, o, none⟩ k _ (by simpa using hn)⟩
    exact ⟨rfl, cs2, _, w2, hQ, k1, (((Keeps.drew w2).mono (by simp)).trans (sc _ _ _) (fun x hx _ => hx)).trans (sc _ _ _) (fun x hx _ => hx), e2⟩

/-- The rom's cells. -/
def romC (dn lk mk : Int) (R T : Nat) : Array Value := #[.int .u32 dn, .int .i32 lk, .int .u32 0, .int .i64 mk] ++ (wc 64 R ++ wc 96 T)
def recipAt (i : Nat) : Nat := 131072 / (129 + 2 * i)
/-- The tables. -/
def romR : Nat := lsum recipAt 64
def romT : Nat := lsum (fun i => rguessAt (i + 32)) 96
def romF : Array Value := romC 1 0 1 romR romT
def RomOk (c : Array Value) : Prop := c = romC 0 0 0 0 0 ∨ c = romF
theorem romF_ok : RomOk romF := .inr rfl

theorem isq_spec : ∀ (f s v : Nat), s * s ≤ v → v < (s + f) * (s + f) → IsRoot v (isq f s v)
  | 0, s, v, h1, h2 => by simp at h2; omega
  | f + 1, s, v, h1, h2 => by
    unfold isq
    split
    · rename_i h; exact isq_spec f (s + 1) v h (by rw [show s + 1 + f = s + (f + 1) by omega]; exact h2)
    · rename_i h; exact ⟨h1, by omega⟩

set_option maxHeartbeats 1000000 in
theorem rom_root (n : Nat) (hn : n < 4000000) : Gives Tryz.prog 79 #[.int .u64 n] (.int .u64 (isq 2000 0 n : Nat)) := by
  intro w0
  have hst := St.start [] w0
  have hr := isq_spec 2000 0 n (by omega) (by omega)
  have hu := Lib.hid (fun t (h : IsRoot n t) => h.uniq hr)
  clear hr
  go_enter Tryz.func79, Tryz.ntmps79
  go_wp2_with fail
  go_loopw [3] (fun u wr => ∃ s : Nat, u = .int .u64 s ∧ s * s ≤ n ∧ St w0 [] [] wr) (fun u _ => 3000 - (intOf u).toNat)
  case atStart => exact ⟨0, rfl, by omega, hst⟩
  case round =>
    clear hst
    obtain ⟨s, rfl, hs, hst⟩ := hrel
    have hs2 : s < 2000 := by
      rcases Nat.lt_or_ge s 2000 with h | h
      · exact h
      · have := Nat.mul_le_mul h h; omega
    obtain ⟨q, hq⟩ : ∃ q, q = (s + 1) * (s + 1) := ⟨_, rfl⟩
    have hqb : q ≤ 4000000 := by rw [hq]; exact Nat.mul_le_mul (show s + 1 ≤ 2000 by omega) (show s + 1 ≤ 2000 by omega)
    have F1 : IntKind.u64.wrap ((s : Int) + 1) = ((s + 1 : Nat) : Int) := u64_wrap' _ (s + 1) _ (by omega) (Nat.mod_eq_of_lt (by rw [B_val]; omega))
    have F2 : IntKind.u64.wrap (((s + 1 : Nat) : Int) * ((s + 1 : Nat) : Int)) = (q : Int) := u64_wrap' _ q _ (by rw [hq]; simp) (Nat.mod_eq_of_lt (by rw [B_val]; omega))
    have F3 : IntKind.u64.wrap (((s : Int) + 1) * ((s : Int) + 1)) = (q : Int) := u64_wrap' _ q _ (by rw [hq]; simp) (Nat.mod_eq_of_lt (by rw [B_val]; omega))
    have hs' := Lib.hid hs
    have hq' := Lib.hid hq
    clear hs hq
    by_cases hle : q ≤ n
    · have hle' : (q : Int) ≤ (n : Int) := by omega
      go_wp2_with fail
      exact ⟨⟨s + 1, by go_num, by rw [← hq'.out]; exact hle, hst⟩, by simp [intOf]; omega⟩
    · have hle' : ¬ ((q : Int) ≤ (n : Int)) := by omega
      have e := Lib.hid (hu.out s ⟨hs'.out, by rw [← hq'.out]; omega⟩)
      go_wp2_with fail
      refine bp_t rfl rfl (by rfl) ⟨?_, hst.keeps⟩
      rw [← e.out]; rfl

theorem rom_recip (i : Nat) (hi : i < 64) : Gives Tryz.prog 77 #[.int .u64 i] (.int .u64 (recipAt i : Nat)) := by
  intro w0
  have hst := St.start [] w0
  have F1 : IntKind.u64.wrap (2 * (i : Int)) = ((2 * i : Nat) : Int) := u64_wrap' _ (2 * i) _ (by omega) (Nat.mod_eq_of_lt (by rw [B_val]; omega))
  have F2 : IntKind.u64.wrap (129 + ((2 * i : Nat) : Int)) = ((129 + 2 * i : Nat) : Int) := u64_wrap' _ (129 + 2 * i) _ (by omega) (Nat.mod_eq_of_lt (by rw [B_val]; omega))
  have F2' : IntKind.u64.wrap (129 + 2 * (i : Int)) = ((129 + 2 * i : Nat) : Int) := u64_wrap' _ (129 + 2 * i) _ (by omega) (Nat.mod_eq_of_lt (by rw [B_val]; omega))
  obtain ⟨d, hd⟩ : ∃ d, d = 129 + 2 * i := ⟨_, rfl⟩
  have hd0 : ¬ ((d : Int) = 0) := by omega
  obtain ⟨q, hq⟩ : ∃ q, q = recipAt i := ⟨_, rfl⟩
  have hqd : q = 131072 / d := by rw [hq, hd]; rfl
  have F3 : (131072 : Int) / (d : Int) = (q : Int) := by rw [hqd, Int.natCast_ediv]; rfl
  have F4 : (131072 : Int).tdiv (d : Int) = (q : Int) := by rw [Int.tdiv_eq_ediv_of_nonneg (by omega)]; exact F3
  have hqB : q ≤ 131072 := by rw [hqd]; exact Nat.div_le_self _ _
  have F5 : IntKind.u64.wrap (q : Int) = (q : Int) := u64_wrap' _ q _ rfl (Nat.mod_eq_of_lt (by rw [B_val]; omega))
  rw [← hq]
  rw [← hd] at F2 F2'
  clear hd hq hqd
  go_enter Tryz.func77, Tryz.ntmps77
  go_wp2_with fail
  refine bp_t rfl rfl (by rfl) ⟨?_, hst.keeps⟩
  go_num

theorem rom_guess (i : Nat) (hi : i < 96) : Gives Tryz.prog 78 #[.int .u64 i] (.int .u64 (rguessAt (i + 32) : Nat)) := by
  intro w0
  have hst := St.start [] w0
  have F0 : IntKind.u64.wrap ((i : Int) + 32) = ((i + 32 : Nat) : Int) := u64_wrap' _ (i + 32) _ (by omega) (Nat.mod_eq_of_lt (by rw [B_val]; omega))
  have F1 : IntKind.u64.wrap (2 * ((i + 32 : Nat) : Int)) = ((2 * (i + 32) : Nat) : Int) := u64_wrap' _ (2 * (i + 32)) _ (by omega) (Nat.mod_eq_of_lt (by rw [B_val]; omega))
  have F2 : IntKind.u64.wrap (((2 * (i + 32) : Nat) : Int) + 1) = ((2 * (i + 32) + 1 : Nat) : Int) := u64_wrap' _ (2 * (i + 32) + 1) _ (by omega) (Nat.mod_eq_of_lt (by rw [B_val]; omega))
  obtain ⟨d, hd⟩ : ∃ d, d = 2 * (i + 32) + 1 := ⟨_, rfl⟩
  have hd0 : ¬ ((d : Int) = 0) := by omega
  obtain ⟨q, hqd⟩ : ∃ q, q = 67108864 / d := ⟨_, rfl⟩
  have F3 : (67108864 : Int) / (d : Int) = (q : Int) := by rw [hqd, Int.natCast_ediv]; rfl
  have F4 : (67108864 : Int).tdiv (d : Int) = (q : Int) := by rw [Int.tdiv_eq_ediv_of_nonneg (by omega)]; exact F3
  have hqB : q < 4000000 := by
    rw [hqd]
    exact Nat.lt_of_le_of_lt (Nat.div_le_div_left (show 65 ≤ d by omega) (by omega)) (by decide)
  have F5 : IntKind.u64.wrap (q : Int) = (q : Int) := u64_wrap' _ q _ rfl (Nat.mod_eq_of_lt (by rw [B_val]; omega))
  have hroot := rom_root q hqB
  have e : isq 2000 0 q = rguessAt (i + 32) := by unfold rguessAt; rw [hqd, hd]
  rw [e] at hroot
  rw [← hd] at F2
  clear hqd e hd
  generalize 2 * (i + 32) = x1 at *
  generalize i + 32 = x2 at *
  go_enter Tryz.func78, Tryz.ntmps78
  go_wp2_with ((first | (refine kf gf79 hst (hroot) rfl rfl rfl rfl ?_; clear hst; intro w hst)); try simp only [pz, pn, sz, sc])
  refine bp_t rfl rfl (by rfl) ⟨?_, hst.keeps⟩
  rfl

theorem mid_set (pre post : Array Value) (k n d j o : Nat) (ho : pre.size = o) (hj : j < k) (hn : n < B ^ j) (hd : d < B) :
    (pre ++ (wc k n ++ post)).setIfInBounds (o + j) (.int .u64 (d : Nat)) = pre ++ (wc k (n + d * B ^ j) ++ post) := by
  rw [← wc_set k n d j hn hd]
  apply Array.ext_getElem?
  intro i
  rw [Array.getElem?_setIfInBounds, Array.getElem?_append, Array.getElem?_append, Array.getElem?_append, Array.getElem?_append, Array.getElem?_setIfInBounds]
  simp only [Array.size_append, wc_size, Array.size_setIfInBounds]
  (repeat' split) <;> first | rfl | omega

set_option maxHeartbeats 2000000 in
theorem rom_fill (g : FuncId) (hg : GoF Tryz.prog g) (f : Nat → Nat) (hf : ∀ i, f i < B) (k : Nat) (hk : k ≤ 100) (hgf : ∀ i, i < k → Gives Tryz.prog g #[.int .u64 (i : Nat)] (.int .u64 (f i : Nat)))
    (pre post : Array Value) (b o : Nat) (ho : pre.size = o) (E : TypeId) (w0 : World) (hb : w0.heap[b]? = some (.cells (pre ++ (wc k 0 ++ post)) E)) :
    GivesT Tryz.prog 76 #[.slice (some ⟨b, o, none⟩) k k, .func (.func g) #[] #[]] (.tuple #[]) [(b, .cells (pre ++ (wc k 0 ++ post)) E)] [(b, .cells (pre ++ (wc k (lsum f k) ++ post)) E)] w0 := by
  have hst := (St.start [b] w0).add hb (by simp)
  have hf' := Lib.hid hf
  have ho' := Lib.hid ho
  clear hf hb ho
  go_enter Tryz.func76, Tryz.ntmps76
  go_wp2_with ((first | (refine ks hst tc22 rfl rfl ?_; clear hst; intro w hst)); try simp only [pz, pn, sz, sc])
  go_loopw [4, 7] (fun u i wr => ∃ j : Nat, j ≤ k ∧ i = .int .i64 j ∧ St w0 [b] [(b, .cells (pre ++ (wc k (lsum f j) ++ post)) E)] wr) (fun _ i _ => k - (intOf i).toNat)
  case atStart => exact ⟨0, by omega, rfl, hst⟩
  case round =>
    clear hst
    obtain ⟨j, hj, rfl, hst⟩ := hrel
    by_cases hlt : j < k
    · have hi0 : (0 : Int) ≤ (j : Int) := by omega
      have hi8 : (j : Int) < (k : Int) := by omega
      have hc := hgf j hlt
      have hw : IntKind.u64.wrap (j : Int) = (j : Int) := u64_wrap' _ j _ rfl (Nat.mod_eq_of_lt (by rw [B_val]; omega))
      have hset := Lib.hid (mid_set pre post k (lsum f j) (f j) j o ho'.out hlt (lsum_lt f hf'.out j) (hf'.out j))
      have hsz : o + j < (pre ++ (wc k (lsum f j) ++ post)).size := by
        rw [Array.size_append, Array.size_append, wc_size, ho'.out]; omega
      go_wp2_with ((first | (refine kf hg hst (hc) rfl rfl rfl rfl ?_; clear hst; intro w hst) | (refine ks hst tc22 rfl rfl ?_; clear hst; intro w hst; (try rw [hset.out] at hst))); try simp only [pz, pn, sz, sc])
      exact ⟨⟨j + 1, by omega, by go_num, hst⟩, by simp [intOf]; omega⟩
    · have : j = k := by omega
      subst this
      have hi8 : ¬ ((j : Int) < (j : Int)) := by omega
      go_wp2_with ((first | (refine ks hst tc22 rfl rfl ?_; clear hst; intro w hst)); try simp only [pz, pn, sz, sc])
      first | exact bp_0 rfl rfl (GivesT.of hst rfl (by simp)) | exact bp_0 rfl rfl ⟨rfl, hst.keeps, hst.own _ _ (by simp)⟩

end Go.Proofs.YtggchelniblipaaGreatDoor.Rd

namespace Go.Proofs.YtggchelniblipaaGreatDoor.Rd
open Go Go.RowKit
set_option linter.unusedVariables false
set_option linter.unusedSimpArgs false
set_option maxRecDepth 100000

theorem sc_keeps (w : World) (b o : Nat) (v : Value) : Keeps [b] w (w.setCell ⟨b, o, none⟩ v) := ⟨rfl, rfl, rfl, by simp [World.setCell], fun k _ hn => heap_setCell_other w ⟨b, o, none⟩ k _ (by simpa using hn)⟩

set_option maxHeartbeats 1000000 in
theorem int64_Add (b o : Nat) (x : Int) (h1 : 0 ≤ x) (h2 : x ≤ 1000000) (cs : Array Value) (E : TypeId) (hx : cs[o]? = some (.int .i64 x)) (w0 : World) (hb : w0.heap[b]? = some (.cells cs E)) :
    GivesT Tryz.prog 27 #[.pointer (some ⟨b, o, none⟩), .int .i64 1] (.int .i64 (x + 1)) [(b, .cells cs E)] [(b, .cells (cs.setIfInBounds o (.int .i64 (x + 1))) E)] w0 := by
  have hc : w0.cell? ⟨b, o, none⟩ = some (.int .i64 x) := by rw [cell_of_row w0 b o cs E _ hb]; exact hx
  have hz := frozen_of_row w0 b o cs E hb
  have hadd := run_call_add (P := Tryz.prog) Tryz.func32 (by kernel_rfl) (by kernel_rfl) (by kernel_rfl) .i64 (by kernel_rfl) (y := 1) (s := x + 1) hc hz (by
    have := i64w (x + 1) (by omega) (by omega)
    simp [go_sem]
    first | exact this | (rw [this])  | omega)
  have e1 := heap_setCell_same w0 b o cs E (.int .i64 (x + 1)) hb
  have k1 := sc_keeps w0 b o (.int .i64 (x + 1))
  have hfin : (Ending.returned (.int .i64 (x + 1)) = .returned (.int .i64 (x + 1))) ∧ Keeps [b] w0 (w0.setCell ⟨b, o, none⟩ (.int .i64 (x + 1))) ∧ (w0.setCell ⟨b, o, none⟩ (.int .i64 (x + 1))).heap[b]? = some (.cells (cs.setIfInBounds o (.int .i64 (x + 1))) E) := ⟨rfl, k1, e1⟩
  have hfin' := Lib.hid hfin
  clear hfin e1 k1 hb hx
  go_enter Tryz.func27, Tryz.ntmps27
  go_wp2
  go_ret
  have := hfin'.out
  simpa using this

set_option maxHeartbeats 1000000 in
theorem int64_Load (b o : Nat) (x : Int) (cs : Array Value) (E : TypeId) (fr : Nat × Nat) (hx : cs[o]? = some (.int .i64 x)) (w0 : World) (hb : w0.heap[b]? = some (.cells cs E fr)) :
    GivesAt Tryz.prog 18 #[.pointer (some ⟨b, o, none⟩)] (.int .i64 x) w0 := by
  have hc : w0.cell? ⟨b, o, none⟩ = some (.int .i64 x) := by rw [cell_of_row w0 b o cs E _ hb]; exact hx
  have hl := run_call_load (P := Tryz.prog) Tryz.func28 (by kernel_rfl) (by kernel_rfl) (by kernel_rfl) .i64 (by kernel_rfl) hc
  have hk := Keeps.refl [] w0
  clear hb hx
  go_enter Tryz.func18, Tryz.ntmps18
  go_wp2
  go_ret
  exact ⟨rfl, hk⟩

theorem recipAt_lt (i : Nat) : recipAt i < B := Nat.lt_of_le_of_lt (Nat.div_le_self _ _) (by rw [B_val]; omega)
theorem isq_le : ∀ (f s v : Nat), isq f s v ≤ s + f
  | 0, s, v => Nat.le_refl _
  | f + 1, s, v => by
    unfold isq
    split
    · have := isq_le f (s + 1) v; omega
    · omega
theorem rguess_lt (i : Nat) : rguessAt i < B := Nat.lt_of_le_of_lt (isq_le 2000 0 _) (by rw [B_val]; omega)

theorem app_set (A X : Array Value) (i : Nat) (v : Value) (h : i < A.size) : (A ++ X).setIfInBounds i v = A.setIfInBounds i v ++ X := by
  apply Array.ext_getElem?
  intro k
  rw [Array.getElem?_setIfInBounds, Array.getElem?_append, Array.getElem?_append, Array.getElem?_setIfInBounds, Array.size_setIfInBounds, Array.size_append]
  (repeat' split) <;> first | rfl | omega
/-- The tables are made. -/
theorem romC_get (dn lk mk : Int) (R T : Nat) : (romC dn lk mk R T)[0]? = some (.int .u32 dn) ∧ (romC dn lk mk R T)[0 + 1]? = some (.int .i32 lk) ∧ (romC dn lk mk R T)[3]? = some (.int .i64 mk) := ⟨pre_get (cells_get rfl), pre_get (cells_get rfl), pre_get (cells_get rfl)⟩
theorem romC_set0 (dn dn' lk mk : Int) (R T : Nat) : (romC dn lk mk R T).setIfInBounds 0 (.int .u32 dn') = romC dn' lk mk R T := by
  unfold romC; rw [app_set _ _ _ _ (by simp)]; rfl
theorem romC_set1 (dn lk lk' mk : Int) (R T : Nat) : (romC dn lk mk R T).setIfInBounds (0 + 1) (.int .i32 lk') = romC dn lk' mk R T := by
  unfold romC; rw [app_set _ _ _ _ (by simp)]; rfl
theorem romC_set3 (dn lk mk mk' : Int) (R T : Nat) : (romC dn lk mk R T).setIfInBounds 3 (.int .i64 mk') = romC dn lk mk' R T := by
  unfold romC; rw [app_set _ _ _ _ (by simp)]; rfl
/-- The root's table apart. -/
theorem romC_root (dn lk mk : Int) (R T : Nat) : romC dn lk mk R T = (#[.int .u32 dn, .int .i32 lk, .int .u32 0, .int .i64 mk] ++ wc 64 R) ++ (wc 96 T ++ #[]) := by unfold romC; simp

set_option maxHeartbeats 2000000 in
theorem rom_ready_1 (b1 br : Nat) (E1 : TypeId) (hne : br ≠ b1) (w0 : World) (h1 : w0.heap[b1]? = some (.cells #[.pointer (some ⟨br, 0, none⟩)] E1)) (hr : w0.heap[br]? = some (.cells (romC 0 1 0 0 0) 92)) :
    GivesT Tryz.prog 75 #[.pointer (some ⟨b1, 0, none⟩)] (.tuple #[]) [(br, .cells (romC 0 1 0 0 0) 92)] [(br, .cells (romC 0 1 1 romR romT) 92)] w0 := by
  have hst : St w0 [br] [(br, .cells (romC 0 1 0 0 0) 92), (b1, .cells #[.pointer (some ⟨br, 0, none⟩)] E1)] w0 := ((St.start [br] w0).add h1 (by simp)).add hr (by simpa using hne)
  have f1 := fun (w : World) (h : w.heap[br]? = some (.cells (romC 0 1 0 0 0) 92)) => rom_fill 77 gf77 recipAt recipAt_lt 64 (by omega) rom_recip #[.int .u32 0, .int .i32 1, .int .u32 0, .int .i64 0] (wc 96 0) br 4 rfl 92 w h
  have f2 := fun (w : World) (h : w.heap[br]? = some (.cells (romC 0 1 0 romR 0) 92)) => rom_fill 78 gf78 (fun i => rguessAt (i + 32)) (fun i => rguess_lt _) 96 (by omega) rom_guess (#[.int .u32 0, .int .i32 1, .int .u32 0, .int .i64 0] ++ wc 64 romR) #[] br 68 (by simp) 92 w (by rw [← romC_root]; exact h)
  rw [← romC_root] at f2
  have f3 := fun (w : World) (h : w.heap[br]? = some (.cells (romC 0 1 0 romR romT) 92)) => int64_Add br 3 0 (by omega) (by omega) (romC 0 1 0 romR romT) 92 (romC_get _ _ _ _ _).2.2 w h
  rw [romC_set3] at f3
  have e1 : (#[.int .u32 0, .int .i32 1, .int .u32 0, .int .i64 0] ++ (wc 64 0 ++ wc 96 0) : Array Value) = romC 0 1 0 0 0 := rfl
  have e2 : (#[.int .u32 0, .int .i32 1, .int .u32 0, .int .i64 0] ++ (wc 64 (lsum recipAt 64) ++ wc 96 0) : Array Value) = romC 0 1 0 romR 0 := rfl
  rw [e1, e2] at f1
  have e3 : lsum (fun i => rguessAt (i + 32)) 96 = romT := rfl
  rw [e3, ← romC_root] at f2
  have e4 : (0 : Int) + 1 = 1 := rfl
  rw [e4] at f3
  clear e1 e2 e3 e4 h1 hr
  generalize romC 0 1 0 0 0 = c0 at *
  generalize romC 0 1 0 romR 0 = c1 at *
  generalize romC 0 1 0 romR romT = c2 at *
  generalize romC 0 1 1 romR romT = c3 at *
  go_enter Tryz.func75, Tryz.ntmps75
  go_wp2_with ((first | (refine kT gf76 hst (fun w hst => f1 w (hst.own _ _ (by simp))) rfl rfl rfl rfl ?_; clear hst; intro w hst) | (refine kT gf76 hst (fun w hst => f2 w (hst.own _ _ (by simp))) rfl rfl rfl rfl ?_; clear hst; intro w hst) | (refine kT gf27 hst (fun w hst => f3 w (hst.own _ _ (by simp))) rfl rfl rfl rfl ?_; clear hst; intro w hst) | (refine kc hst tc56 rfl ?_)); try simp only [pz, pn, sz, sc])
  first | exact bp_0 rfl rfl (GivesT.of hst rfl (by simp)) | exact bp_0 rfl rfl ⟨rfl, hst.keeps, hst.own _ _ (by simp)⟩

end Go.Proofs.YtggchelniblipaaGreatDoor.Rd

namespace Go.Proofs.YtggchelniblipaaGreatDoor.Rd
open Go Go.RowKit
set_option linter.unusedVariables false
set_option linter.unusedSimpArgs false
set_option maxRecDepth 100000

theorem rom_do (b1 br : Nat) (c : Array Value) (hc : RomOk c) (E1 : TypeId) (hne : br ≠ b1) (w : World) (h1 : w.heap[b1]? = some (.cells #[.pointer (some ⟨br, 0, none⟩)] E1)) (hr : w.heap[br]? = some (.cells c 92)) :
    GivesT Tryz.prog 21 #[.pointer (some ⟨br, 0, none⟩), .func (.func 75) #[] #[.pointer (some ⟨b1, 0, none⟩)]] (.tuple #[]) [(br, .cells c 92)] [(br, .cells romF 92)] w := by
  rcases hc with rfl | rfl
  · have h := once_G 75 gf75 #[.pointer (some ⟨b1, 0, none⟩)] br 0 92 (romC 0 0 0 0 0) (fun cs2 w1 w2 => cs2 = romC 0 1 1 romR romT ∧ Keeps [br] w1 w2) w hr (romC_get _ _ _ _ _).1 (romC_get _ _ _ _ _).2.1
      (fun w1 hw1 k1 => by
        rw [romC_set1] at hw1
        refine (rom_ready_1 b1 br E1 hne w1 (by rw [k1.block b1 (lt_of_some h1) (by simpa using fun e => hne e.symm)]; exact h1) hw1).mono ?_
        rintro e w2 ⟨rfl, k2, own2⟩
        have hb2 := own2 br _ (List.mem_singleton.2 rfl)
        exact ⟨rfl, _, hb2, ⟨_, (romC_get _ _ _ _ _).1⟩, (romC_get _ _ _ _ _).2.1, rfl, k2⟩)
    refine Calls.mono h ?_
    rintro e w' ⟨rfl, cs2, w1, w2, ⟨rfl, k2⟩, k1, k3, hb'⟩
    rw [romC_set0, romC_set1] at hb'
    refine ⟨rfl, (k1.trans k2 (fun x hx _ => hx)).trans k3 (fun x hx _ => hx), fun b o hm => ?_⟩
    simp only [List.mem_singleton, Prod.mk.injEq] at hm
    obtain ⟨rfl, rfl⟩ := hm
    exact hb'
  · have c0 : w.cell? ⟨br, 0, none⟩ = some (.int .u32 1) := by rw [cell_of_row w br 0 romF _ _ hr]; exact (romC_get _ _ _ _ _).1
    refine (on_done ⟨br, 0, none⟩ 1 (by omega) _ w c0).mono ?_
    rintro e w' ⟨rfl, rfl⟩
    refine ⟨rfl, Keeps.refl _ _, fun b o hm => ?_⟩
    simp only [List.mem_singleton, Prod.mk.injEq] at hm
    obtain ⟨rfl, rfl⟩ := hm
    exact hr

set_option maxHeartbeats 1000000 in
theorem rom_ready (br : Nat) (c : Array Value) (hc : RomOk c) (w0 : World) (hr : w0.heap[br]? = some (.cells c 92)) :
    GivesT Tryz.prog 72 #[.pointer (some ⟨br, 0, none⟩)] (.tuple #[]) [(br, .cells c 92)] [(br, .cells romF 92)] w0 := by
  have hst := (St.start [br] w0).add hr (by simp)
  have hlt := lt_of_some hr
  have hdo := fun (b1 : Nat) (hne : br ≠ b1) (w : World) (h1 : w.heap[b1]? = some (.cells #[.pointer (some ⟨br, 0, none⟩)] 56)) (hr : w.heap[br]? = some (.cells c 92)) => rom_do b1 br c hc _ hne w h1 hr
  clear hr hc
  generalize romF = cf at *
  go_enter Tryz.func72, Tryz.ntmps72
  go_wp2_with ((first | (refine kT gf21 hst (fun w hst => hdo b1 (by omega) w (hst.own _ _ (by simp)) (hst.own _ _ (by simp))) rfl rfl rfl rfl ?_; clear hst; intro w hst) | (refine kb 1 hst rfl rfl ?_; clear hst; intro b1 w hb1 hst) | (refine kc hst tc56 rfl ?_)); try simp only [pz, pn, sz, sc])
  first | exact bp_0 rfl rfl (GivesT.of hst rfl (by simp)) | exact bp_0 rfl rfl ⟨rfl, hst.keeps, hst.own _ _ (by simp)⟩

set_option maxHeartbeats 1000000 in
theorem rom_ask (br : Nat) (c : Array Value) (hc : RomOk c) (i n v : Nat) (hi : i < n) (g : FuncId) (hg : GoF Tryz.prog g) (cap : Array Value) (w0 : World) (hr : w0.heap[br]? = some (.cells c 92))
    (hgf : ∀ w, Keeps [br] w0 w → w.heap[br]? = some (.cells romF 92) → GivesAt Tryz.prog g ([Value.int .i64 (i : Nat)] ++ cap.toList).toArray (.int .u64 (v : Nat)) w) :
    GivesT Tryz.prog 73 #[.pointer (some ⟨br, 0, none⟩), .int .i64 i, .int .i64 n, .func (.func g) #[] cap] (.tuple #[.int .u64 v, .bool true]) [(br, .cells c 92)] [(br, .cells romF 92)] w0 := by
  have hst := (St.start [br] w0).add hr (by simp)
  have hrd := fun (w : World) (h : w.heap[br]? = some (.cells c 92)) => rom_ready br c hc w h
  have i0 : ¬ ((i : Int) < 0) := by omega
  have i1 : ¬ ((n : Int) ≤ (i : Int)) := by omega
  clear hr hc
  generalize romF = cf at *
  go_enter Tryz.func73, Tryz.ntmps73
  go_wp2_with ((first | (refine kT gf72 hst (fun w hst => hrd w (hst.own _ _ (by simp))) rfl rfl rfl rfl ?_; clear hst; intro w hst) | (refine kg hg hst (fun w hst => hgf w hst.keeps (hst.own _ _ (by simp))) rfl rfl rfl rfl ?_; clear hst; intro w hst)); try simp only [pz, pn, sz, sc])
  first | exact bp_tt rfl rfl (by rfl) (by rfl) (GivesT.of hst rfl (by simp)) | exact bp_tt rfl rfl (by rfl) (by rfl) ⟨rfl, hst.keeps, hst.own _ _ (by simp)⟩

theorem romF_root (i : Nat) (hi : i < 96) : romF[68 + i]? = some (.int .u64 (rguessAt (i + 32) : Nat)) := by
  unfold romF romC
  rw [Array.getElem?_append_right (by simp; omega), Array.getElem?_append_right (by simp; omega)]
  simp only [wc_size]
  have e : 68 + i - (#[Value.int .u32 1, .int .i32 0, .int .u32 0, .int .i64 1] : Array Value).size - 64 = i := by
    show 68 + i - 4 - 64 = i; omega
  rw [e, wc_get _ _ _ hi]
  have hl : ∀ k, i < k → lb (lsum (fun i => rguessAt (i + 32)) k) i = rguessAt (i + 32) := by
    intro k
    induction k with
    | zero => intro h; omega
    | succ k ih =>
      intro h
      simp only [lsum]
      rw [lb_add_at _ _ _ _ (lsum_lt _ (fun i => rguess_lt _) k) (rguess_lt _)]
      by_cases e : i = k
      · rw [if_pos e, e]
      · rw [if_neg e]; exact ih (by omega)
  rw [show romT = lsum (fun i => rguessAt (i + 32)) 96 from rfl, hl 96 hi]
theorem romF_recip (i : Nat) (hi : i < 64) : romF[4 + i]? = some (.int .u64 (recipAt i : Nat)) := by
  unfold romF romC
  rw [Array.getElem?_append_right (by simp), Array.getElem?_append_left (by simp; omega)]
  have e : 4 + i - (#[Value.int .u32 1, .int .i32 0, .int .u32 0, .int .i64 1] : Array Value).size = i := by
    show 4 + i - 4 = i; omega
  rw [e, wc_get _ _ _ hi]
  have hl : ∀ k, i < k → lb (lsum recipAt k) i = recipAt i := by
    intro k
    induction k with
    | zero => intro h; omega
    | succ k ih =>
      intro h
      simp only [lsum]
      rw [lb_add_at _ _ _ _ (lsum_lt _ recipAt_lt k) (recipAt_lt _)]
      by_cases e : i = k
      · rw [if_pos e, e]
      · rw [if_neg e]; exact ih (by omega)
  rw [show romR = lsum recipAt 64 from rfl, hl 64 hi]

theorem rom_Root_1 (b2 br i : Nat) (hi : i < 96) (hne : br ≠ b2) (E2 : TypeId) (w0 : World) (h2 : w0.heap[b2]? = some (.cells #[.pointer (some ⟨br, 0, none⟩)] E2)) (hr : w0.heap[br]? = some (.cells romF 92)) :
    GivesAt Tryz.prog 74 #[.int .i64 i, .pointer (some ⟨b2, 0, none⟩)] (.int .u64 (rguessAt (i + 32) : Nat)) w0 := by
  have hst : St w0 [] [(br, .cells romF 92), (b2, .cells #[.pointer (some ⟨br, 0, none⟩)] E2)] w0 := ((St.start [] w0).add h2 (by simp)).add hr (by simpa using hne)
  have hg := romF_root i hi
  have i0 : (0 : Int) ≤ (i : Int) := by omega
  have i1 : (i : Int) < 96 := by omega
  clear h2 hr
  generalize romF = cf at *
  generalize rguessAt (i + 32) = v at *
  go_enter Tryz.func74, Tryz.ntmps74
  go_wp2_with ((first | (refine kc hst tc56 rfl ?_) | (refine kc hst tc22 rfl ?_)); try simp only [pz, pn, sz, sc])
  refine bp_t rfl rfl (by rfl) ⟨?_, hst.keeps⟩
  rfl

set_option maxHeartbeats 1000000 in
theorem rom_Root (br : Nat) (c : Array Value) (hc : RomOk c) (i : Nat) (h1 : 32 ≤ i) (h2 : i < 128) (w0 : World) (hr : w0.heap[br]? = some (.cells c 92)) :
    GivesT Tryz.prog 71 #[.pointer (some ⟨br, 0, none⟩), .int .i64 i] (.tuple #[.int .u64 (rguessAt i : Nat), .bool true]) [(br, .cells c 92)] [(br, .cells romF 92)] w0 := by
  have hst := (St.start [br] w0).add hr (by simp)
  have hlt := lt_of_some hr
  have hask := fun (b2 : Nat) (hne : br ≠ b2) (w : World) (q : w.heap[b2]? = some (.cells #[.pointer (some ⟨br, 0, none⟩)] 56)) (hr : w.heap[br]? = some (.cells c 92)) =>
    rom_ask br c hc (i - 32) 96 (rguessAt (i - 32 + 32)) (by omega) 74 gf74 #[.pointer (some ⟨b2, 0, none⟩)] w hr (fun w' k h => rom_Root_1 b2 br (i - 32) (by omega) hne _ w' (by rw [k.block b2 (lt_of_some q) (by simpa using fun e => hne e.symm)]; exact q) h)
  rw [Nat.sub_add_cancel h1, show ((i - 32 : Nat) : Int) = (i : Int) - 32 by omega] at hask
  have m1 : max (i : Int) 0 = (i : Int) := by omega
  have m2 : max 0 (i : Int) = (i : Int) := by omega
  clear hr hc
  generalize romF = cf at *
  generalize rguessAt i = v at *
  go_enter Tryz.func71, Tryz.ntmps71
  go_wp2_with ((first | (refine kT gf73 hst (fun w hst => hask b2 (by omega) w (hst.own _ _ (by simp)) (hst.own _ _ (by simp))) rfl rfl rfl rfl ?_; clear hst; intro w hst) | (refine kb 2 hst rfl rfl ?_; clear hst; intro b2 w hb2 hst) | (refine kc hst tc56 rfl ?_)); try simp only [pz, pn, sz, sc])
  first | exact bp_tt rfl rfl (by rfl) (by rfl) (GivesT.of hst rfl (by simp)) | exact bp_tt rfl rfl (by rfl) (by rfl) ⟨rfl, hst.keeps, hst.own _ _ (by simp)⟩

set_option maxHeartbeats 1000000 in
theorem rom_GuessRoot (br : Nat) (c : Array Value) (hc : RomOk c) (n : Nat) (h1 : 2 ^ 254 ≤ n) (h2 : n < 2 ^ 256) (w0 : World) (hr : w0.heap[br]? = some (.cells c 92)) :
    GivesT Tryz.prog 192 #[.pointer (some ⟨br, 0, none⟩), W n] (.tuple #[.int .u64 (rguessAt (n / 2 ^ 249) : Nat), .bool true]) [(br, .cells c 92)] [(br, .cells romF 92)] w0 := by
  have hst := (St.start [br] w0).add hr (by simp)
  have hnM : n < M := Nat.lt_trans h2 (small_M (by decide))
  have hlen := wide_Len n hnM
  have hbl : bl n = 255 ∨ bl n = 256 := by
    have a := bl_le.2 h2
    have b : ¬ bl n ≤ 254 := fun h => by have := bl_le.1 h; omega
    omega
  have hshr := wide_Shr n 249 hnM
  rw [show clampN 249 = 249 from rfl] at hshr
  have q1 : 32 ≤ n / 2 ^ 249 := by omega
  have q2 : n / 2 ^ 249 < 128 := by
    rw [Nat.div_lt_iff_lt_mul (by decide)]
    exact Nat.lt_of_lt_of_le h2 (by decide)
  have hlb : lb (n / 2 ^ 249) 0 = n / 2 ^ 249 := by rw [lb_zero, Nat.mod_eq_of_lt (by rw [B_val]; omega)]
  have hroot := fun (w : World) (h : w.heap[br]? = some (.cells c 92)) => rom_Root br c hc (lb (n / 2 ^ 249) 0) (by rw [hlb]; exact q1) (by rw [hlb]; exact q2) w h
  have hv : rguessAt (lb (n / 2 ^ 249) 0) = rguessAt (n / 2 ^ 249) := by rw [hlb]
  have hy : lb (n / 2 ^ 249) 0 < 128 := by rw [hlb]; exact q2
  clear hr hc h1 h2 hlb
  generalize romF = cf at *
  rw [hv] at hroot
  clear hv q1 q2
  generalize rguessAt (n / 2 ^ 249) = v at *
  generalize n / 2 ^ 249 = q at *
  rcases hbl with hbl | hbl
  · rw [hbl] at hlen
    clear hbl
    go_enter Tryz.func192, Tryz.ntmps192
    go_wp2_with ((first | (refine kf gf92 hst (hlen) rfl rfl rfl rfl ?_; clear hst; intro w hst) | (refine kf gf123 hst (hshr) rfl rfl rfl rfl ?_; clear hst; intro w hst) | (refine kT gf71 hst (fun w hst => hroot w (hst.own _ _ (by simp))) rfl rfl rfl rfl ?_; clear hst; intro w hst) | (refine kb 3 hst rfl rfl ?_; clear hst; intro b3 w hb3 hst) | (refine kl hst ta24 rfl ?_) | (refine klm hst ta24 rfl ?_) | (refine ka 7 hst tz24 rfl rfl ?_; clear hst; intro b7 w hb7 hst) | (refine kt hst ta24 rfl rfl ?_; clear hst; intro w hst) | (refine ktm hst ta24 rfl rfl ?_; clear hst; intro w hst) | (refine kc hst tc22 rfl ?_)); try simp only [pz, pn, sz, sc])
    first | exact bp_tt rfl rfl (by rfl) (by rfl) (GivesT.of hst rfl (by simp)) | exact bp_tt rfl rfl (by rfl) (by rfl) ⟨rfl, hst.keeps, hst.own _ _ (by simp)⟩
  · rw [hbl] at hlen
    clear hbl
    go_enter Tryz.func192, Tryz.ntmps192
    go_wp2_with ((first | (refine kf gf92 hst (hlen) rfl rfl rfl rfl ?_; clear hst; intro w hst) | (refine kf gf123 hst (hshr) rfl rfl rfl rfl ?_; clear hst; intro w hst) | (refine kT gf71 hst (fun w hst => hroot w (hst.own _ _ (by simp))) rfl rfl rfl rfl ?_; clear hst; intro w hst) | (refine kb 3 hst rfl rfl ?_; clear hst; intro b3 w hb3 hst) | (refine kl hst ta24 rfl ?_) | (refine klm hst ta24 rfl ?_) | (refine ka 7 hst tz24 rfl rfl ?_; clear hst; intro b7 w hb7 hst) | (refine kt hst ta24 rfl rfl ?_; clear hst; intro w hst) | (refine ktm hst ta24 rfl rfl ?_; clear hst; intro w hst) | (refine kc hst tc22 rfl ?_)); try simp only [pz, pn, sz, sc])
    first | exact bp_tt rfl rfl (by rfl) (by rfl) (GivesT.of hst rfl (by simp)) | exact bp_tt rfl rfl (by rfl) (by rfl) ⟨rfl, hst.keeps, hst.own _ _ (by simp)⟩

end Go.Proofs.YtggchelniblipaaGreatDoor.Rd

namespace Go.Proofs.YtggchelniblipaaGreatDoor.Rd
open Go Go.RowKit
set_option linter.unusedVariables false
set_option linter.unusedSimpArgs false
set_option maxRecDepth 100000

theorem rom_Recip_1 (b2 br i : Nat) (hi : i < 64) (hne : br ≠ b2) (E2 : TypeId) (w0 : World) (h2 : w0.heap[b2]? = some (.cells #[.pointer (some ⟨br, 0, none⟩)] E2)) (hr : w0.heap[br]? = some (.cells romF 92)) :
    GivesAt Tryz.prog 180 #[.int .i64 i, .pointer (some ⟨b2, 0, none⟩)] (.int .u64 (recipAt i : Nat)) w0 := by
  have hst : St w0 [] [(br, .cells romF 92), (b2, .cells #[.pointer (some ⟨br, 0, none⟩)] E2)] w0 := ((St.start [] w0).add h2 (by simp)).add hr (by simpa using hne)
  have hg := romF_recip i hi
  have i0 : (0 : Int) ≤ (i : Int) := by omega
  have i1 : (i : Int) < 64 := by omega
  clear h2 hr
  generalize romF = cf at *
  generalize recipAt i = v at *
  go_enter Tryz.func180, Tryz.ntmps180
  go_wp2_with ((first | (refine kc hst tc56 rfl ?_) | (refine kc hst tc22 rfl ?_)); try simp only [pz, pn, sz, sc])
  refine bp_t rfl rfl (by rfl) ⟨?_, hst.keeps⟩
  rfl

set_option maxHeartbeats 1000000 in
theorem rom_Recip (br : Nat) (c : Array Value) (hc : RomOk c) (i : Nat) (h2 : i < 64) (w0 : World) (hr : w0.heap[br]? = some (.cells c 92)) :
    GivesT Tryz.prog 176 #[.pointer (some ⟨br, 0, none⟩), .int .i64 i] (.tuple #[.int .u64 (recipAt i : Nat), .bool true]) [(br, .cells c 92)] [(br, .cells romF 92)] w0 := by
  have hst := (St.start [br] w0).add hr (by simp)
  have hlt := lt_of_some hr
  have hask := fun (b2 : Nat) (hne : br ≠ b2) (w : World) (q : w.heap[b2]? = some (.cells #[.pointer (some ⟨br, 0, none⟩)] 56)) (hr : w.heap[br]? = some (.cells c 92)) =>
    rom_ask br c hc i 64 (recipAt i) h2 180 gf180 #[.pointer (some ⟨b2, 0, none⟩)] w hr (fun w' k h => rom_Recip_1 b2 br i h2 hne _ w' (by rw [k.block b2 (lt_of_some q) (by simpa using fun e => hne e.symm)]; exact q) h)
  clear hr hc
  generalize romF = cf at *
  generalize recipAt i = v at *
  go_enter Tryz.func176, Tryz.ntmps176
  go_wp2_with ((first | (refine kT gf73 hst (fun w hst => hask b2 (by omega) w (hst.own _ _ (by simp)) (hst.own _ _ (by simp))) rfl rfl rfl rfl ?_; clear hst; intro w hst) | (refine kb 2 hst rfl rfl ?_; clear hst; intro b2 w hb2 hst) | (refine kc hst tc56 rfl ?_)); try simp only [pz, pn, sz, sc])
  first | exact bp_tt rfl rfl (by rfl) (by rfl) (GivesT.of hst rfl (by simp)) | exact bp_tt rfl rfl (by rfl) (by rfl) ⟨rfl, hst.keeps, hst.own _ _ (by simp)⟩

set_option maxHeartbeats 1000000 in
theorem rom_Guess (br : Nat) (c : Array Value) (hc : RomOk c) (n : Nat) (h1 : 2 ^ 127 ≤ n) (h2 : n < 2 ^ 128) (w0 : World) (hr : w0.heap[br]? = some (.cells c 92)) :
    GivesT Tryz.prog 174 #[.pointer (some ⟨br, 0, none⟩), W n] (.tuple #[.int .u64 (recipAt (n / 2 ^ 121 - 64) : Nat), .bool true]) [(br, .cells c 92)] [(br, .cells romF 92)] w0 := by
  have hst := (St.start [br] w0).add hr (by simp)
  have hnM : n < M := Nat.lt_trans h2 (small_M (by decide))
  have hlen := wide_Len n hnM
  have hbl : bl n = 128 := by
    have a := bl_le.2 h2
    have b : ¬ bl n ≤ 127 := fun h => by have := bl_le.1 h; omega
    omega
  rw [hbl] at hlen
  have hshr := wide_Shr n 121 hnM
  rw [show clampN 121 = 121 from rfl] at hshr
  have q1 : 64 ≤ n / 2 ^ 121 := by omega
  have q2 : n / 2 ^ 121 < 128 := by
    rw [Nat.div_lt_iff_lt_mul (by decide)]
    exact Nat.lt_of_lt_of_le h2 (by decide)
  have hlb : lb (n / 2 ^ 121) 0 = n / 2 ^ 121 := by rw [lb_zero, Nat.mod_eq_of_lt (by rw [B_val]; omega)]
  have hroot := fun (w : World) (h : w.heap[br]? = some (.cells c 92)) => rom_Recip br c hc (lb (n / 2 ^ 121) 0 - 64) (by rw [hlb]; omega) w h
  have hv : recipAt (lb (n / 2 ^ 121) 0 - 64) = recipAt (n / 2 ^ 121 - 64) := by rw [hlb]
  have hy : lb (n / 2 ^ 121) 0 < 128 := by rw [hlb]; exact q2
  have hi : ((lb (n / 2 ^ 121) 0 - 64 : Nat) : Int) = (lb (n / 2 ^ 121) 0 : Nat) - (64 : Int) := by rw [hlb]; omega
  clear hr hc h1 h2 hlb hbl
  generalize romF = cf at *
  rw [hv, hi] at hroot
  clear hv hi q1 q2
  generalize recipAt (n / 2 ^ 121 - 64) = v at *
  generalize n / 2 ^ 121 = q at *
  go_enter Tryz.func174, Tryz.ntmps174
  go_wp2_with ((first | (refine kf gf92 hst (hlen) rfl rfl rfl rfl ?_; clear hst; intro w hst) | (refine kf gf123 hst (hshr) rfl rfl rfl rfl ?_; clear hst; intro w hst) | (refine kT gf176 hst (fun w hst => hroot w (hst.own _ _ (by simp))) rfl rfl rfl rfl ?_; clear hst; intro w hst) | (refine kb 3 hst rfl rfl ?_; clear hst; intro b3 w hb3 hst) | (refine kl hst ta24 rfl ?_) | (refine klm hst ta24 rfl ?_) | (refine ka 6 hst tz24 rfl rfl ?_; clear hst; intro b6 w hb6 hst) | (refine kt hst ta24 rfl rfl ?_; clear hst; intro w hst) | (refine ktm hst ta24 rfl rfl ?_; clear hst; intro w hst) | (refine kc hst tc22 rfl ?_)); try simp only [pz, pn, sz, sc])
  first | exact bp_tt rfl rfl (by rfl) (by rfl) (GivesT.of hst rfl (by simp)) | exact bp_tt rfl rfl (by rfl) (by rfl) ⟨rfl, hst.keeps, hst.own _ _ (by simp)⟩

theorem fix_without (n a : Nat) (hn : n < M) (ha : a ≤ n) : Gives Tryz.prog 166 #[W n, W a] (W (n - a)) := by
  intro w0
  have hst := St.start [] w0
  have h := wide_Sub n a hn (by omega)
  rw [show (n + M - a) % M = n - a by rw [show n + M - a = n - a + M by omega, Nat.add_mod_right, Nat.mod_eq_of_lt (by omega)]] at h
  generalize n - a = s at *
  go_enter Tryz.func166, Tryz.ntmps166
  go_wp2_with ((first | (refine kf gf95 hst (h) rfl rfl rfl rfl ?_; clear hst; intro w hst) | (refine kb 2 hst rfl rfl ?_; clear hst; intro b2 w hb2 hst) | (refine kb 3 hst rfl rfl ?_; clear hst; intro b3 w hb3 hst) | (refine ka 4 hst tz24 rfl rfl ?_; clear hst; intro b4 w hb4 hst) | (refine kl hst ta24 rfl ?_) | (refine klm hst ta24 rfl ?_) | (refine ka 5 hst tz24 rfl rfl ?_; clear hst; intro b5 w hb5 hst) | (refine kt hst ta24 rfl rfl ?_; clear hst; intro w hst) | (refine ktm hst ta24 rfl rfl ?_; clear hst; intro w hst)); try simp only [pz, pn, sz, sc])
  refine bp_c rfl rfl (la hst ta24) ⟨?_, hst.keeps⟩
  rfl

theorem fix_Times (a b c : Nat) (ha : a < M) (hb : b < M) (hc : c ≤ 1024) (hs : a * b / 2 ^ c < M) : Gives Tryz.prog 167 #[W a, W b, .int .i64 c] (W (a * b / 2 ^ c)) := by
  intro w0
  have hst := St.start [] w0
  have h := prod_High a b c ha hb hc
  rw [Nat.mod_eq_of_lt hs] at h
  generalize a * b / 2 ^ c = s at *
  go_enter Tryz.func167, Tryz.ntmps167
  go_wp2_with ((first | (refine kf gf170 hst (h) rfl rfl rfl rfl ?_; clear hst; intro w hst) | (refine kb 3 hst rfl rfl ?_; clear hst; intro b3 w hb3 hst) | (refine kb 4 hst rfl rfl ?_; clear hst; intro b4 w hb4 hst) | (refine ka 6 hst tz24 rfl rfl ?_; clear hst; intro b6 w hb6 hst) | (refine kl hst ta24 rfl ?_) | (refine klm hst ta24 rfl ?_) | (refine ka 7 hst tz24 rfl rfl ?_; clear hst; intro b7 w hb7 hst) | (refine kt hst ta24 rfl rfl ?_; clear hst; intro w hst) | (refine ktm hst ta24 rfl rfl ?_; clear hst; intro w hst)); try simp only [pz, pn, sz, sc])
  refine bp_c rfl rfl (la hst ta24) ⟨?_, hst.keeps⟩
  rfl

end Go.Proofs.YtggchelniblipaaGreatDoor.Rd
