/- What limb.at, Less, Bit and wide.at, clamp, Cmp, Len, Bit, Minus, Neg answer, as numbers. -/
import Derived.Test.YtefpoconpeggpaaGreatDoorL03
namespace Go.Proofs.YtefpoconpeggpaaGreatDoor.Rd
open Go Go.RowKit
set_option linter.unusedVariables false
set_option linter.unusedSimpArgs false
set_option maxRecDepth 100000

def C : Nat := 4294967296
theorem C_val : C = 4294967296 := rfl
theorem C_pos : 0 < C := by decide
theorem Cp_pos (k : Nat) : 0 < C ^ k := Nat.pow_pos C_pos
theorem C_pow (k : Nat) : C ^ k = 2 ^ (32 * k) := by rw [show C = 2 ^ 32 from rfl, ← Nat.pow_mul]
/-- A digit by 2^32. -/
def dg (n i : Nat) : Nat := n / C ^ i % C
theorem dg_lt (n i : Nat) : dg n i < C := Nat.mod_lt _ C_pos
theorem dg_lt' (n i : Nat) : dg n i < 4294967296 := dg_lt n i
/-- How many digits by 2^32. -/
def dl (n : Nat) : Nat := (bl n + 31) / 32
theorem dl_le {n l : Nat} : dl n ≤ l ↔ n < C ^ l := by
  rw [C_pow, ← bl_le]; unfold dl; omega
theorem dl_lt (n : Nat) : n < C ^ dl n := dl_le.1 (Nat.le_refl _)
theorem dl_zero : dl 0 = 0 := rfl
theorem dl_eq {n l : Nat} (h1 : n < C ^ l) (h2 : l = 0 ∨ C ^ (l - 1) ≤ n) : dl n = l := by
  have h3 := dl_le.2 h1
  rcases h2 with h | h
  · omega
  · by_cases h4 : dl n ≤ l - 1
    · have := dl_le.1 h4; omega
    · omega
theorem dl_pos {n : Nat} : 0 < dl n ↔ 0 < n := by
  constructor
  · intro h
    rcases Nat.eq_zero_or_pos n with h0 | h0
    · subst h0; simp [dl_zero] at h
    · exact h0
  · intro h
    rcases Nat.eq_zero_or_pos (dl n) with h0 | h0
    · have := dl_lt n; rw [h0] at this; simp at this; omega
    · exact h0
theorem dg_ge {n l i : Nat} (h : n < C ^ l) (hi : l ≤ i) : dg n i = 0 := by
  unfold dg
  rw [Nat.div_eq_of_lt (Nat.lt_of_lt_of_le h (Nat.pow_le_pow_right C_pos hi))]; rfl
theorem lt_down {n k : Nat} (h : n < C ^ (k + 1)) (h0 : dg n k = 0) : n < C ^ k := by
  unfold dg at h0
  have h1 : n / C ^ k < C := by rw [Nat.div_lt_iff_lt_mul (Cp_pos k), ← Nat.pow_succ']; exact h
  rw [Nat.mod_eq_of_lt h1] at h0
  exact (Nat.div_eq_zero_iff_lt (Cp_pos k)).1 h0
theorem ge_top {n k : Nat} (h0 : dg n k ≠ 0) : C ^ k ≤ n := by
  rcases Nat.lt_or_ge n (C ^ k) with h | h
  · exact absurd (dg_ge h (Nat.le_refl k)) h0
  · exact h
theorem dg_split (n k : Nat) : n % C ^ (k + 1) = n % C ^ k + dg n k * C ^ k := by
  unfold dg
  rw [Nat.pow_succ, Nat.mod_mul, Nat.mul_comm (C ^ k)]

/-- The slice v of l digits holds n. -/
def BigAt (w : World) (v : Value) (l n : Nat) : Prop :=
  n < C ^ l ∧ l ≤ 1000000 ∧ ∃ a cap, v = .slice a l cap ∧ l ≤ cap ∧ (0 < l → ∃ g cur E, a = some ⟨g, 0, none⟩ ∧ w.heap[g]? = some (.cells cur E (0, 0)) ∧ ∀ j, j < l → cur[j]? = some (.int .u32 (dg n j : Nat)))
theorem BigAt.keep {w w' : World} {v : Value} {l n : Nat} (h : BigAt w v l n) (k : Keeps [] w w') : BigAt w' v l n := by
  obtain ⟨h1, h2, a, cap, h3, h4, h5⟩ := h
  refine ⟨h1, h2, a, cap, h3, h4, fun h0 => ?_⟩
  obtain ⟨g, cur, E, h6, h7, h8⟩ := h5 h0
  refine ⟨g, cur, E, h6, ?_, h8⟩
  rw [k.block g _ (by simp)]
  · exact h7
  · rcases Nat.lt_or_ge g w.heap.size with h | h
    · exact h
    · rw [Array.getElem?_eq_none h] at h7; cases h7

set_option maxHeartbeats 1000000 in
theorem ref01_digit (v : Value) (l n i : Nat) (hi : i ≤ 1000000) (w0 : World) (h : BigAt w0 v l n) : GivesAt Tryz.prog 40 #[v, .int .i64 i] (.int .u64 (dg n i : Nat)) w0 := by
  obtain ⟨hn, hl, a, cap, rfl, hcap, hmem⟩ := h
  by_cases hil : i < l
  · obtain ⟨g, cur, E, rfl, hg, hc⟩ := hmem (by omega)
    have hst := (St.start [] w0).add hg (by simp)
    have h1 : (0 : Int) ≤ (i : Int) := by omega
    have h2 : (i : Int) < (l : Int) := by omega
    have h3 := hc i hil
    have h4 := dg_lt' n i
    generalize dg n i = d at *
    have h5 : (0 : Int) ≤ (d : Int) := by omega
    have h6 : (d : Int) < 4294967296 := by omega
    have hw : IntKind.u64.wrap (d : Int) = (d : Int) := by rw [u64_wrap, Nat.mod_eq_of_lt (by rw [B_val]; omega)]
    clear hg hc hmem hn h4 h6
    go_enter Tryz.func40, Tryz.ntmps40
    go_wp2_with ((first | (refine wl_guard (by rfl) ?_) | (refine kc hst tc72 rfl ?_)); try simp only [pz, pn, sz, sc])
    refine bp_t rfl rfl (by rfl) ⟨?_, hst.keeps⟩
    rfl
  · have hst := St.start [] w0
    have h1 : (0 : Int) ≤ (i : Int) := by omega
    have h2 : (l : Int) ≤ (i : Int) := by omega
    rw [dg_ge hn (by omega)]
    clear hn hmem
    go_enter Tryz.func40, Tryz.ntmps40
    go_wp2_with ((first | (refine wl_guard (by rfl) ?_)); try simp only [pz, pn, sz, sc])
    refine bp_t rfl rfl (by rfl) ⟨?_, hst.keeps⟩
    rfl

set_option maxHeartbeats 1000000 in
theorem ref01_trim (a : Option Addr) (l cap n : Nat) (w0 : World) (h : BigAt w0 (.slice a l cap) l n) : GivesAt Tryz.prog 41 #[.slice a l cap] (.slice a (dl n) cap) w0 := by
  obtain ⟨hn, hl, a', cap', e, hcap, hmem⟩ := h
  injection e with e1 e2 e3
  subst e1
  subst e3
  by_cases hl0 : 0 < l
  · obtain ⟨g, cur, E, rfl, hg, hc⟩ := hmem hl0
    have hst := (St.start [] w0).add hg (by simp)
    have hc' := Lib.hid hc
    have hn' := Lib.hid hn
    clear hc hg hn
    go_enter Tryz.func41, Tryz.ntmps41
    go_wp2_with fail
    go_loopw [3] (fun j wr => ∃ i : Nat, i ≤ l ∧ j = .int .i64 i ∧ n < C ^ i ∧ St w0 [] [(g, .cells cur E (0, 0))] wr) (fun j _ => (intOf j).toNat)
    case atStart => exact ⟨l, by omega, rfl, hn'.out, hst⟩
    case round =>
      clear hst
      obtain ⟨i, hi, rfl, ht, hst⟩ := hrel
      by_cases h0 : 0 < i
      · obtain ⟨j, rfl⟩ : ∃ j, i = j + 1 := ⟨i - 1, by omega⟩
        have e1 : ((j + 1 : Nat) : Int) = (j : Int) + 1 := by omega
        rw [e1]
        have h1 : (0 : Int) ≤ (j : Int) := by omega
        have h3 : (j : Int) < (l : Int) := by omega
        have hcj := hc'.out j (by omega)
        by_cases hz : dg n j = 0
        · have hz' : ((dg n j : Int) == 0) = true := by simp [hz]
          have hlt := Lib.hid (lt_down ht hz)
          clear ht hz
          go_wp2_with ((first | (refine wl_guard (by rfl) ?_) | (refine kc hst tc72 rfl ?_)); try simp only [pz, pn, sz, sc])
          go_roundw
          case rel => exact ⟨j, by omega, by go_num, hlt.out, hst⟩
          case measure => simp [intOf]
        · have hz' : ((dg n j : Int) == 0) = false := by simp [hz]
          have e := Lib.hid (dl_eq ht (.inr (ge_top hz)))
          have h4 : ((j : Int) + 1) ≤ (cap : Int) := by omega
          clear ht hz
          go_wp2_with ((first | (refine wl_guard (by rfl) ?_) | (refine kc hst tc72 rfl ?_)); try simp only [pz, pn, sz, sc])
          refine bp_t rfl rfl (by rfl) ⟨?_, hst.keeps⟩
          rw [e.out]; rfl
      · have : i = 0 := by omega
        subst this
        have e := Lib.hid (dl_eq ht (.inl rfl))
        clear ht
        go_wp2_with fail
        refine bp_t rfl rfl (by rfl) ⟨?_, hst.keeps⟩
        rw [e.out]; rfl
  · have : l = 0 := by omega
    subst this
    have hst := St.start [] w0
    have e := Lib.hid (dl_eq hn (.inl rfl))
    clear hmem hn
    go_enter Tryz.func41, Tryz.ntmps41
    go_wp2_with fail
    refine wp_loop_once ?_
    go_wp2_with fail
    refine bp_t rfl rfl (by rfl) ⟨?_, hst.keeps⟩
    rw [e.out]; rfl

end Go.Proofs.YtefpoconpeggpaaGreatDoor.Rd

namespace Go.Proofs.YtefpoconpeggpaaGreatDoor.Rd
open Go Go.RowKit
set_option linter.unusedVariables false
set_option linter.unusedSimpArgs false
set_option maxRecDepth 100000

theorem u64_wrap' (x : Int) (n c : Nat) (h : x = (n : Int)) (hc : n % B = c) : IntKind.u64.wrap x = (c : Int) := by
  rw [h, u64_wrap, hc]

end Go.Proofs.YtefpoconpeggpaaGreatDoor.Rd

namespace Go.Proofs.YtefpoconpeggpaaGreatDoor.Rd
open Go Go.RowKit
set_option linter.unusedVariables false
set_option linter.unusedSimpArgs false
set_option maxRecDepth 100000

/-- v holds n, without noughts at the end, in blocks of Lg, all from s on. -/
def BigIn (s : Nat) (Lg : List (Nat × Obj)) (v : Value) (n : Nat) : Prop :=
  (∀ x ∈ Lg, s ≤ x.1) ∧ (Lg.map Prod.fst).Nodup ∧ dl n ≤ 1000000 ∧ ∃ a cap, v = .slice a (dl n) cap ∧ dl n ≤ cap ∧ (0 < dl n → ∃ g cur E, a = some ⟨g, 0, none⟩ ∧ (g, .cells cur E (0, 0)) ∈ Lg ∧ ∀ j, j < dl n → cur[j]? = some (.int .u32 (dg n j : Nat)))
theorem BigIn.at {s : Nat} {Lg : List (Nat × Obj)} {v : Value} {n : Nat} (h : BigIn s Lg v n) {w0 w : World} {S : List Nat} {L : List (Nat × Obj)} (hst : St w0 S L w) (hs : ∀ x ∈ Lg, x ∈ L) : BigAt w v (dl n) n := by
  obtain ⟨_, _, hl, a, cap, h1, h2, h3⟩ := h
  refine ⟨dl_lt n, hl, a, cap, h1, h2, fun h0 => ?_⟩
  obtain ⟨g, cur, E, h4, h5, h6⟩ := h3 h0
  exact ⟨g, cur, E, h4, hst.own _ _ (hs _ h5), h6⟩

def PostB (w0 : World) (n : Nat) (e : Ending) (w' : World) : Prop := ∃ v Lg, e = .returned v ∧ Keeps [] w0 w' ∧ BigIn w0.heap.size Lg v n ∧ ∀ b o, (b, o) ∈ Lg → w'.heap[b]? = some o
def GivesB (P : Program) (f : FuncId) (args : Array Value) (n : Nat) (w0 : World) : Prop := Calls P f args w0 (PostB w0 n)
theorem PostB.of {w0 w : World} {n : Nat} {v : Value} {Lg L : List (Nat × Obj)} (hst : St w0 [] L w) (hb : BigIn w0.heap.size Lg v n) (hs : ∀ x ∈ Lg, x ∈ L) : PostB w0 n (.returned v) w := ⟨v, Lg, rfl, hst.keeps, hb, fun b o h => hst.own b o (hs _ h)⟩

theorem St.more {w0 w w' : World} {S : List Nat} {L Lg : List (Nat × Obj)} (h : St w0 S L w) (k : Keeps [] w w') (h1 : ∀ x ∈ Lg, w.heap.size ≤ x.1) (h2 : (Lg.map Prod.fst).Nodup) (h3 : ∀ b o, (b, o) ∈ Lg → w'.heap[b]? = some o) : St w0 S (L ++ Lg) w' := by
  have hk := h.keep k
  refine ⟨hk.keeps, fun b o hm => ?_, ?_⟩
  · rcases List.mem_append.1 hm with h' | h'
    · exact hk.own _ _ h'
    · exact h3 _ _ h'
  · rw [List.map_append]
    refine List.nodup_append.2 ⟨h.nodup, h2, ?_⟩
    intro b hb b' hb' e
    subst e
    obtain ⟨x, hx, rfl⟩ := List.mem_map.1 hb
    obtain ⟨y, hy, e⟩ := List.mem_map.1 hb'
    have := h.lt (b := x.1) (o := x.2) hx
    have := h1 y hy
    rw [e] at this
    omega

section
variable {P : Program} {ops : Array Oper} {rest : List Oper} {Q : Exit → Act → World → Prop} {a : Act} {w w0 : World} {S : List Nat} {L : List (Nat × Obj)}
theorem wl_callB {o : Oper} {c : Call} {x : Operand} {f : FuncId} {cap : Array Value} {args : List Value} {n : Nat} (hf : GoF P f) (hst : St w0 S L w) (hc : ∀ w, St w0 S L w → GivesB P f args.toArray n w)
    (hg : o.guard = none) (ho : o.op = .call c) (hcal : c.callee = .value x) (hx : a.eval x = .func (.func f) #[] cap) (hargs : c.args.toList.map a.eval ++ cap.toList = args)
    (h : ∀ v Lg w', BigIn w0.heap.size Lg v n → St w0 S (L ++ Lg) w' → wpList P ops Q rest (a.put o.dst v) w') : wpList P ops Q (o :: rest) a w := by
  refine wpList_plain hg fun K hK => ?_
  unfold Oper.wp
  rw [run_execOp_call ho hcal hx, args_eq hargs, run_callFunc_go hf, Oper.upon_enter]
  refine (hc w hst).mono fun e w'' hh => ?_
  obtain ⟨v, Lg, rfl, hk, hb, hown⟩ := hh
  exact hK _ _ (h v Lg w'' ⟨fun x hx => Nat.le_trans hst.keeps.size (hb.1 x hx), hb.2⟩ (hst.more hk hb.1 hb.2.1 hown))
end

/-- The cells of k digits. -/
def uc (k n : Nat) : List Value := (List.range k).map fun j => .int .u32 (dg n j : Nat)
theorem uc_get (k n j : Nat) (h : j < k) : (uc k n)[j]? = some (.int .u32 (dg n j : Nat)) := by simp [uc, h]
theorem dg_low (n d k j : Nat) (h : j < k) : dg (n + d * C ^ k) j = dg n j := by
  unfold dg
  have e : d * C ^ k = C ^ j * (C * (d * C ^ (k - j - 1))) := by
    have : C ^ k = C ^ j * (C * C ^ (k - j - 1)) := by rw [← Nat.pow_succ', ← Nat.pow_add]; congr 1; omega
    rw [this, Nat.mul_left_comm, Nat.mul_left_comm d]
  rw [e, Nat.add_mul_div_left _ _ (Cp_pos j), Nat.add_mul_mod_self_left]
theorem dg_at (n d k : Nat) (hn : n < C ^ k) (hd : d < C) : dg (n + d * C ^ k) k = d := by
  unfold dg
  rw [Nat.add_mul_div_right _ _ (Cp_pos k), Nat.div_eq_of_lt hn, Nat.zero_add, Nat.mod_eq_of_lt hd]
theorem uc_snoc (n d k : Nat) (hn : n < C ^ k) (hd : d < C) : uc k n ++ [.int .u32 (d : Nat)] = uc (k + 1) (n + d * C ^ k) := by
  unfold uc
  rw [List.range_succ, List.map_append]
  congr 1
  · apply List.map_congr_left
    intro j hj
    rw [dg_low n d k j (List.mem_range.1 hj)]
  · simp [dg_at n d k hn hd]
theorem add_lt_C (n d k : Nat) (hn : n < C ^ k) (hd : d < C) : n + d * C ^ k < C ^ (k + 1) := by
  have : (d + 1) * C ^ k ≤ C * C ^ k := Nat.mul_le_mul_right _ hd
  rw [Nat.add_mul, Nat.one_mul] at this
  rw [Nat.pow_succ']; omega

/-- A slice that has grown to the digits of n holds n. -/
theorem GRow.big {w0 : World} {Lg L : List (Nat × Obj)} {e : TypeId} {v : Value} {m n : Nat} (h : GRow w0 Lg e 1 v m (uc m n)) (hn : n < C ^ m) (hm : m ≤ 1000000) (hs : ∀ x ∈ Lg, x ∈ L) :
    ∃ a cap, v = .slice a m cap ∧ (∀ S w, St w0 S L w → BigAt w v m n) ∧ BigIn w0.heap.size Lg (.slice a (dl n) cap) n := by
  have hd : dl n ≤ m := dl_le.2 hn
  obtain ⟨hl, ⟨rfl, rfl, rfl⟩ | ⟨g, cap, cur, rfl, rfl, h1, h2, h3, h4, h5⟩⟩ := h
  · have h0 : dl n = 0 := by omega
    exact ⟨none, 0, rfl, fun _ _ _ => ⟨hn, hm, none, 0, rfl, Nat.le_refl _, fun h => absurd h (by omega)⟩, by simp, by simp, by omega, none, 0, by rw [h0], by omega, fun h => by omega⟩
  · have hc : ∀ j, j < m → cur[j]? = some (.int .u32 (dg n j : Nat)) := fun j hj => by
      have := uc_get m n j hj
      rw [← h5, List.getElem?_take, if_pos (by omega), Array.getElem?_toList] at this
      exact this
    exact ⟨_, cap, rfl, fun _ _ hst => ⟨hn, hm, _, cap, rfl, h2, fun _ => ⟨g, cur, e, rfl, hst.own _ _ (hs _ (by simp)), hc⟩⟩, by simpa using h1, by simp, by omega, _, cap, rfl, by omega, fun _ => ⟨g, cur, e, rfl, by simp, fun j hj => hc j (by omega)⟩⟩

theorem u32_wrap (x : Nat) : IntKind.u32.wrap (x : Int) = ((x % C : Nat) : Int) := by
  show (x : Int) % 4294967296 = _
  rw [C_val]; omega

end Go.Proofs.YtefpoconpeggpaaGreatDoor.Rd

namespace Go.Proofs.YtefpoconpeggpaaGreatDoor.Rd
open Go Go.RowKit
set_option linter.unusedVariables false
set_option linter.unusedSimpArgs false
set_option maxRecDepth 100000

theorem bl_half (d : Nat) (h : d ≠ 0) : bl d = 1 + bl (d / 2) := by
  by_cases h2 : d / 2 = 0
  · have : d = 1 := by omega
    subst this; decide
  · have := bl_shift d 1 (by simpa using h2)
    simpa using this
theorem bl_top {n l : Nat} (h : dl n = l + 1) : bl n = 32 * l + bl (dg n l) ∧ dg n l ≠ 0 := by
  have h1 := dl_lt n
  rw [h] at h1
  have h2 : dg n l ≠ 0 := fun h0 => by
    have := dl_le.2 (lt_down h1 h0); omega
  have h3 : dg n l = n / 2 ^ (32 * l) := by
    unfold dg
    rw [C_pow, Nat.mod_eq_of_lt]
    rw [Nat.div_lt_iff_lt_mul (Nat.pow_pos (by omega)), ← C_pow, ← Nat.pow_succ']; exact h1
  refine ⟨?_, h2⟩
  rw [h3] at h2 ⊢
  exact bl_shift n (32 * l) h2

set_option maxHeartbeats 4000000 in
theorem ref01_Len (v : Value) (l n : Nat) (w0 : World) (h : BigAt w0 v l n) : GivesAt Tryz.prog 20 #[v] (.int .i64 (bl n : Nat)) w0 := by
  obtain ⟨a, cap, rfl⟩ : ∃ a cap, v = .slice a l cap := by obtain ⟨_, _, a, cap, h, _⟩ := h; exact ⟨a, cap, h⟩
  have htr := fun w k => ref01_trim a l cap n w (h.keep (w' := w) k)
  obtain ⟨hn, hl, a', cap', e, hcap, hmem⟩ := h
  injection e with e1 e2 e3
  subst e1
  subst e3
  have hdl := dl_le.2 hn
  rcases hd : dl n with _ | m
  · have hst := St.start [] w0
    have hn0 : n = 0 := by
      rcases Nat.eq_zero_or_pos n with h | h
      · exact h
      · have := dl_pos.2 h; omega
    subst hn0
    rw [hd] at htr
    clear hmem hn hd hdl
    go_enter Tryz.func20, Tryz.ntmps20
    go_wp2_with ((first | (refine kg gf41 hst (fun w hst => htr w hst.keeps) rfl rfl rfl rfl ?_; clear hst; intro w hst)); try simp only [pz, pn, sz, sc])
    refine bp_t rfl rfl (by rfl) ⟨?_, hst.keeps⟩
    rfl
  · obtain ⟨g, cur, E, rfl, hg, hc⟩ := hmem (by omega)
    obtain ⟨hb1, hb2⟩ := bl_top hd
    have hcm := hc m (by omega)
    have hst := (St.start [] w0).add hg (by simp)
    rw [hd] at htr
    have hdC := dg_lt n m
    generalize dg n m = d0 at *
    have e1 : ((m + 1 : Nat) : Int) = (m : Int) + 1 := by omega
    have h1 : (0 : Int) ≤ (m : Int) := by omega
    have hm1 : m ≤ 1000000 := by omega
    rw [hb1]
    have hb3 : bl d0 ≤ 32 := bl_le.2 hdC
    clear hb1 hdl hd hc hg hn hdC
    go_enter Tryz.func20, Tryz.ntmps20
    go_wp2_with ((first | (refine kg gf41 hst (fun w hst => htr w hst.keeps) rfl rfl rfl rfl ?_; clear hst; intro w hst) | (refine kc hst tc72 rfl ?_)); try simp only [pz, pn, sz, sc])
    go_loopw [3, 4] (fun vn vd wr => ∃ (k d : Nat), k + bl d = bl d0 ∧ vn = .int .i64 k ∧ vd = .int .u32 d ∧ St w0 [] [(g, .cells cur E (0, 0))] wr) (fun _ vd _ => (intOf vd).toNat)
    case atStart => exact ⟨0, d0, by omega, rfl, rfl, hst⟩
    case round =>
      clear hst
      obtain ⟨k, d, hk, rfl, rfl, hst⟩ := hrel
      by_cases hd0 : d = 0
      · subst hd0
        have hkk : k = bl d0 := by have : bl 0 = 0 := rfl
                                   omega
        have hk32 : k ≤ 32 := by omega
        have hkk' := Lib.hid hkk
        clear hk hkk
        go_wp2_with fail
        refine bp_t rfl rfl (by rfl) ⟨?_, hst.keeps⟩
        rw [← hkk'.out]; go_num
      · have hbh := bl_half d hd0
        have h2 : (0 : Int) < (d : Int) := by omega
        have hk2 : k + 1 + bl (d / 2) = bl d0 := by omega
        have h3 : d / 2 < d := by omega
        have hk32 : k ≤ 32 := by omega
        obtain ⟨f, hf⟩ : ∃ f, f = d / 2 := ⟨_, rfl⟩
        rw [← hf] at hk2 h3
        have F1 : (d : Int) / 2 = (f : Int) := by omega
        have F2 : (d : Int).tdiv 2 = (f : Int) := by rw [Int.tdiv_eq_ediv_of_nonneg (by omega)]; exact F1
        have F3 : IntKind.u32.wrap (f : Int) = (f : Int) := by
          rw [u32_wrap, Nat.mod_eq_of_lt]
          have : d < C := by
            have : bl d ≤ 32 := by omega
            have := bl_le.1 this
            rw [C_val]; omega
          omega
        have hk2' := Lib.hid hk2
        clear hk hbh hk2 hf
        go_wp2_with fail
        refine ⟨⟨k + 1, f, hk2'.out, by go_num, rfl, hst⟩, ?_⟩
        simp [intOf]; omega

def cmp (a b : Nat) : Int := if a < b then -1 else if b < a then 1 else 0
theorem div_dg (n k : Nat) : n / C ^ k = n / C ^ (k + 1) * C + dg n k := by
  have := Nat.div_add_mod (n / C ^ k) C
  rw [Nat.div_div_eq_div_mul, show C ^ k * C = C ^ (k + 1) from rfl] at this
  unfold dg
  rw [Nat.mul_comm (n / C ^ (k + 1))]; exact this.symm
theorem lt_of_div {a b c : Nat} (h : a / c < b / c) : a < b := by
  rcases Nat.lt_or_ge a b with h' | h'
  · exact h'
  · have := Nat.div_le_div_right (c := c) h'; omega

set_option maxHeartbeats 8000000 in
theorem ref01_Cmp (va vb : Value) (la lb' a b : Nat) (w0 : World) (ha : BigAt w0 va la a) (hb : BigAt w0 vb lb' b) (hla : la ≤ 100000) (hlb : lb' ≤ 100000) : GivesAt Tryz.prog 27 #[va, vb] (.int .i64 (cmp a b)) w0 := by
  have hst := St.start [] w0
  have hda := fun (i : Nat) (hi : i ≤ 1000000) (w : World) (hst : Keeps [] w0 w) => ref01_digit va la a i hi w (ha.keep hst)
  have hdb := fun (i : Nat) (hi : i ≤ 1000000) (w : World) (hst : Keeps [] w0 w) => ref01_digit vb lb' b i hi w (hb.keep hst)
  obtain ⟨han, _, aa, capa, rfl, _, _⟩ := ha
  obtain ⟨hbn, _, ab, capb, rfl, _, _⟩ := hb
  obtain ⟨mx, hmx⟩ : ∃ mx, mx = max la lb' := ⟨_, rfl⟩
  have hmx' : (if (lb' : Int) ≤ (la : Int) then (la : Int) else (lb' : Int)) = (mx : Int) := by split <;> omega
  have h1 : a < C ^ mx := Nat.lt_of_lt_of_le han (Nat.pow_le_pow_right C_pos (by omega))
  have h2 : b < C ^ mx := Nat.lt_of_lt_of_le hbn (Nat.pow_le_pow_right C_pos (by omega))
  have hmx2 : (max (la : Int) (lb' : Int)) = (mx : Int) := by omega
  have hmxl : mx ≤ 100000 := by omega
  go_enter Tryz.func27, Tryz.ntmps27
  go_wp2_with fail
  go_loopw [5] (fun vi wr => ∃ (t : Nat), t ≤ mx ∧ vi = .int .i64 ((t : Int) - 1) ∧ a / C ^ t = b / C ^ t ∧ St w0 [] [] wr) (fun vi _ => (intOf vi + 1).toNat)
  case atStart => exact ⟨mx, by omega, by go_num, by rw [Nat.div_eq_of_lt h1, Nat.div_eq_of_lt h2], hst⟩
  case round =>
    clear hst hmx hmx' hmx2
    obtain ⟨t, ht, rfl, he, hst⟩ := hrel
    cases t with
    | zero =>
      simp only [Nat.pow_zero, Nat.div_one] at he
      subst he
      have hc : cmp a a = 0 := by simp [cmp]
      have hc' := Lib.hid hc
      clear hc h1 h2 han hbn
      go_wp2_with fail
      refine bp_t rfl rfl (by rfl) ⟨?_, hst.keeps⟩
      rw [hc'.out]; rfl
    | succ k =>
      have hdai := hda k (by omega)
      have hdbi := hdb k (by omega)
      have ea := div_dg a k
      have eb := div_dg b k
      rw [he] at ea
      have g1 : dg a k < dg b k → cmp a b = -1 := fun h => by
        have : a < b := lt_of_div (c := C ^ k) (by omega)
        unfold cmp; rw [if_pos this]
      have g2 : dg b k < dg a k → cmp a b = 1 := fun h => by
        have : b < a := lt_of_div (c := C ^ k) (by omega)
        unfold cmp; rw [if_neg (by omega), if_pos this]
      have g3 : dg a k = dg b k → a / C ^ k = b / C ^ k := fun h => by omega
      generalize dg a k = x at *
      generalize dg b k = y at *
      have g1' := Lib.hid g1
      have g2' := Lib.hid g2
      have g3' := Lib.hid g3
      have h0 : (0 : Int) ≤ (k : Int) := by omega
      have ek : ((k + 1 : Nat) : Int) - 1 = (k : Int) := by omega
      rw [ek]
      have hk1 : k ≤ 100000 := by omega
      have hkm : k ≤ mx := by omega
      clear ea eb g1 g2 g3 he h1 h2 han hbn ek ht
      rcases Nat.lt_trichotomy x y with h | h | h
      · have t1 : ((x : Int) < (y : Int)) := by omega
        have e := Lib.hid (g1'.out h)
        clear h
        go_wp2_with ((first | (refine kg gf40 hst (fun w hst => hdai w hst.keeps) rfl rfl rfl rfl ?_; clear hst; intro w hst) | (refine kg gf40 hst (fun w hst => hdbi w hst.keeps) rfl rfl rfl rfl ?_; clear hst; intro w hst)); try simp only [pz, pn, sz, sc])
        refine bp_t rfl rfl (by rfl) ⟨?_, hst.keeps⟩
        rw [e.out]; rfl
      · have e := Lib.hid (g3'.out h)
        subst h
        have t1 : ¬ ((x : Int) < (x : Int)) := by omega
        go_wp2_with ((first | (refine kg gf40 hst (fun w hst => hdai w hst.keeps) rfl rfl rfl rfl ?_; clear hst; intro w hst) | (refine kg gf40 hst (fun w hst => hdbi w hst.keeps) rfl rfl rfl rfl ?_; clear hst; intro w hst)); try simp only [pz, pn, sz, sc])
        go_roundw
        case rel => exact ⟨k, hkm, by go_num, e.out, hst⟩
        case measure => simp [intOf]
      · have t1 : ¬ ((x : Int) < (y : Int)) := by omega
        have t2 : ((y : Int) < (x : Int)) := by omega
        have e := Lib.hid (g2'.out h)
        clear h
        go_wp2_with ((first | (refine kg gf40 hst (fun w hst => hdai w hst.keeps) rfl rfl rfl rfl ?_; clear hst; intro w hst) | (refine kg gf40 hst (fun w hst => hdbi w hst.keeps) rfl rfl rfl rfl ?_; clear hst; intro w hst)); try simp only [pz, pn, sz, sc])
        refine bp_t rfl rfl (by rfl) ⟨?_, hst.keeps⟩
        rw [e.out]; rfl

end Go.Proofs.YtefpoconpeggpaaGreatDoor.Rd

namespace Go.Proofs.YtefpoconpeggpaaGreatDoor.Rd
open Go Go.RowKit
set_option linter.unusedVariables false
set_option linter.unusedSimpArgs false
set_option maxRecDepth 100000

/-- A slice of limbs that holds n. -/
def LimbAt (w : World) (v : Value) (l n : Nat) : Prop := n < B ^ l ∧ l ≤ 100000 ∧ ∃ b cap k m E fr, v = .slice (some ⟨b, 0, none⟩) l cap ∧ l ≤ cap ∧ l ≤ k ∧ w.heap[b]? = some (.cells (wc k m) E fr) ∧ m % B ^ l = n
theorem LimbAt.keep {w w' : World} {v : Value} {l n : Nat} (h : LimbAt w v l n) (k : Keeps [] w w') : LimbAt w' v l n := by
  obtain ⟨h1, h2, b, cap, j, m, E, fr, e, h3, h4, h5, h6⟩ := h
  exact ⟨h1, h2, b, cap, j, m, E, fr, e, h3, h4, by rw [k.block b (lt_of_some h5) (by simp)]; exact h5, h6⟩
theorem lb_mod {m l i : Nat} (h : i < l) : lb (m % B ^ l) i = lb m i := by
  have := lb_part m 0 l i h
  rwa [Nat.pow_zero, Nat.div_one, Nat.zero_add] at this

theorem limb_at_no (v : Value) (l n : Nat) (i : Int) (hi : i < 0) (w0 : World) (h : LimbAt w0 v l n) : GivesAt Tryz.prog 134 #[v, .int .i64 i] (.int .u64 0) w0 := by
  obtain ⟨hn, hl, b, cap, k, m, E, fr, rfl, h3, h4, h5, h6⟩ := h
  have hst := St.start [] w0
  clear hn h5 h6
  go_enter Tryz.func134, Tryz.ntmps134
  go_wp2_with ((first | (refine wl_guard (by rfl) ?_) | (refine kc hst tc22 rfl ?_)); try simp only [pz, pn, sz, sc])
  refine bp_t rfl rfl (by rfl) ⟨?_, hst.keeps⟩
  rfl

theorem limb_at (v : Value) (l n i : Nat) (w0 : World) (h : LimbAt w0 v l n) : GivesAt Tryz.prog 134 #[v, .int .i64 i] (.int .u64 (lb n i : Nat)) w0 := by
  obtain ⟨hn, hl, b, cap, k, m, E, fr, rfl, h3, h4, h5, h6⟩ := h
  have hst := (St.start [] w0).add h5 (by simp)
  have h0 : ¬ ((i : Int) < 0) := by omega
  have h0' : (0 : Int) ≤ (i : Int) := by omega
  by_cases hil : i < l
  · have e : lb n i = lb m i := by rw [← h6, lb_mod hil]
    rw [e]
    have h1 : ¬ ((l : Int) ≤ (i : Int)) := by omega
    have h2 : (i : Int) < (l : Int) := by omega
    clear hn h5 h6 e
    go_enter Tryz.func134, Tryz.ntmps134
    go_wp2_with ((first | (refine wl_guard (by rfl) ?_) | (refine kc hst tc22 rfl ?_)); try simp only [pz, pn, sz, sc])
    refine bp_t rfl rfl (by rfl) ⟨?_, hst.keeps⟩
    rfl
  · have e : lb n i = 0 := lb_lt_of hn (by omega)
    rw [e]
    have h1 : ((l : Int) ≤ (i : Int)) := by omega
    clear hn h5 h6 e
    go_enter Tryz.func134, Tryz.ntmps134
    go_wp2_with ((first | (refine wl_guard (by rfl) ?_)); try simp only [pz, pn, sz, sc])
    refine bp_t rfl rfl (by rfl) ⟨?_, hst.keeps⟩
    rfl

theorem div_lb (n k : Nat) : n / B ^ k = n / B ^ (k + 1) * B + lb n k := by
  have := Nat.div_add_mod (n / B ^ k) B
  rw [Nat.div_div_eq_div_mul, show B ^ k * B = B ^ (k + 1) from rfl] at this
  unfold lb
  rw [Nat.mul_comm (n / B ^ (k + 1))]; exact this.symm
theorem lt_of_div' {a b c : Nat} (h : a / c < b / c) : a < b := by
  rcases Nat.lt_or_ge a b with h' | h'
  · exact h'
  · have := Nat.div_le_div_right (c := c) h'; omega

set_option maxHeartbeats 8000000 in
theorem limb_Less (va vb : Value) (la lb' a b : Nat) (w0 : World) (ha : LimbAt w0 va la a) (hb : LimbAt w0 vb lb' b) : GivesAt Tryz.prog 176 #[va, vb] (.bool (decide (a < b))) w0 := by
  have hst := St.start [] w0
  have hda := fun (i : Nat) (w : World) (hst : Keeps [] w0 w) => limb_at va la a i w (ha.keep hst)
  have hdb := fun (i : Nat) (w : World) (hst : Keeps [] w0 w) => limb_at vb lb' b i w (hb.keep hst)
  obtain ⟨han, hla, aa, capa, _, _, _, _, rfl, _, _, _, _⟩ := ha
  obtain ⟨hbn, hlb, ab, capb, _, _, _, _, rfl, _, _, _, _⟩ := hb
  obtain ⟨mx, hmx⟩ : ∃ mx, mx = max la lb' := ⟨_, rfl⟩
  have hmx' : (if (lb' : Int) ≤ (la : Int) then (la : Int) else (lb' : Int)) = (mx : Int) := by split <;> omega
  have h1 : a < B ^ mx := Nat.lt_of_lt_of_le han (Nat.pow_le_pow_right B_pos (by omega))
  have h2 : b < B ^ mx := Nat.lt_of_lt_of_le hbn (Nat.pow_le_pow_right B_pos (by omega))
  have hmx2 : (max (la : Int) (lb' : Int)) = (mx : Int) := by omega
  have hmxl : mx ≤ 100000 := by omega
  go_enter Tryz.func176, Tryz.ntmps176
  go_wp2_with fail
  go_loopw [5] (fun vi wr => ∃ (t : Nat), t ≤ mx ∧ vi = .int .i64 ((t : Int) - 1) ∧ a / B ^ t = b / B ^ t ∧ St w0 [] [] wr) (fun vi _ => (intOf vi + 1).toNat)
  case atStart => exact ⟨mx, by omega, by go_num, by rw [Nat.div_eq_of_lt h1, Nat.div_eq_of_lt h2], hst⟩
  case round =>
    clear hst hmx hmx' hmx2
    obtain ⟨t, ht, rfl, he, hst⟩ := hrel
    cases t with
    | zero =>
      simp only [Nat.pow_zero, Nat.div_one] at he
      subst he
      have hc : decide (a < a) = false := by simp
      have hc' := Lib.hid hc
      clear hc h1 h2 han hbn
      go_wp2_with fail
      refine bp_t rfl rfl (by rfl) ⟨?_, hst.keeps⟩
      rw [hc'.out]; rfl
    | succ k =>
      have hdai := hda k
      have hdbi := hdb k
      have ea := div_lb a k
      have eb := div_lb b k
      rw [he] at ea
      have g1 : lb a k < lb b k → decide (a < b) = true := fun h => by
        have : a < b := lt_of_div' (c := B ^ k) (by omega)
        simpa using this
      have g2 : lb b k < lb a k → decide (a < b) = false := fun h => by
        have : b < a := lt_of_div' (c := B ^ k) (by omega)
        simp; omega
      have g3 : lb a k = lb b k → a / B ^ k = b / B ^ k := fun h => by omega
      generalize lb a k = x at *
      generalize lb b k = y at *
      have g1' := Lib.hid g1
      have g2' := Lib.hid g2
      have g3' := Lib.hid g3
      have h0 : (0 : Int) ≤ (k : Int) := by omega
      have ek : ((k + 1 : Nat) : Int) - 1 = (k : Int) := by omega
      rw [ek]
      have hk1 : k ≤ 100000 := by omega
      have hkm : k ≤ mx := by omega
      clear ea eb g1 g2 g3 he h1 h2 han hbn ek ht
      rcases Nat.lt_trichotomy x y with h | h | h
      · have t1 : ((x : Int) < (y : Int)) := by omega
        have t3 : ((x : Int) != (y : Int)) = true := by simp; omega
        have e := Lib.hid (g1'.out h)
        clear h
        go_wp2_with ((first | (refine kg gf134 hst (fun w hst => hdai w hst.keeps) rfl rfl rfl rfl ?_; clear hst; intro w hst) | (refine kg gf134 hst (fun w hst => hdbi w hst.keeps) rfl rfl rfl rfl ?_; clear hst; intro w hst)); try simp only [pz, pn, sz, sc])
        refine bp_t rfl rfl (by rfl) ⟨?_, hst.keeps⟩
        rw [e.out]; rfl
      · have e := Lib.hid (g3'.out h)
        subst h
        have t3 : ((x : Int) != (x : Int)) = false := by simp
        go_wp2_with ((first | (refine kg gf134 hst (fun w hst => hdai w hst.keeps) rfl rfl rfl rfl ?_; clear hst; intro w hst) | (refine kg gf134 hst (fun w hst => hdbi w hst.keeps) rfl rfl rfl rfl ?_; clear hst; intro w hst)); try simp only [pz, pn, sz, sc])
        go_roundw
        case rel => exact ⟨k, hkm, by go_num, e.out, hst⟩
        case measure => simp [intOf]
      · have t1 : ¬ ((x : Int) < (y : Int)) := by omega
        have t3 : ((x : Int) != (y : Int)) = true := by simp; omega
        have e := Lib.hid (g2'.out h)
        clear h
        go_wp2_with ((first | (refine kg gf134 hst (fun w hst => hdai w hst.keeps) rfl rfl rfl rfl ?_; clear hst; intro w hst) | (refine kg gf134 hst (fun w hst => hdbi w hst.keeps) rfl rfl rfl rfl ?_; clear hst; intro w hst)); try simp only [pz, pn, sz, sc])
        refine bp_t rfl rfl (by rfl) ⟨?_, hst.keeps⟩
        rw [e.out]; rfl

theorem bits_and1 (x : Nat) (hx : x < B) : bits .and .u64 (x : Int) 1 = ((x % 2 : Nat) : Int) := by
  have := bits_and_u64_nat x 1 (by rw [← B_val]; exact hx) (by omega)
  rw [Nat.and_one_is_mod] at this
  exact this
theorem lb_testBit (n i : Nat) (j : Nat) : (lb n i).testBit j = (decide (j < 64) && n.testBit (64 * i + j)) := by
  unfold lb
  rw [show B ^ i = 2 ^ (64 * i) from by rw [show B = 2 ^ 64 from rfl, ← Nat.pow_mul], show B = 2 ^ 64 from rfl, Nat.testBit_mod_two_pow, Nat.testBit_div_two_pow, Nat.add_comm]
theorem testBit_mod2 (n i : Nat) : (n / 2 ^ i % 2 = 1) = (n.testBit i = true) := by
  rw [Nat.testBit_eq_decide_div_mod_eq]; simp

set_option maxHeartbeats 2000000 in
theorem limb_Bit (v : Value) (l n i : Nat) (hi : i ≤ 100000) (w0 : World) (h : LimbAt w0 v l n) : GivesAt Tryz.prog 107 #[v, .int .i64 i] (.bool (n.testBit i)) w0 := by
  have hst := St.start [] w0
  have hda := fun (i : Nat) (w : World) (hst : Keeps [] w0 w) => limb_at v l n i w (h.keep hst)
  have hd1 := hda (i / 64)
  obtain ⟨x, hx⟩ : ∃ x, x = lb n (i / 64) := ⟨_, rfl⟩
  have hxB : x < B := by rw [hx]; exact lb_lt _ _
  obtain ⟨y, hy⟩ : ∃ y, y = x / 2 ^ (i % 64) := ⟨_, rfl⟩
  have hyB : y < B := by rw [hy]; exact Nat.lt_of_le_of_lt (Nat.div_le_self _ _) hxB
  have hand := bits_and1 y hyB
  have hres : ((y : Int) % 2 == 1) = n.testBit i := by
    have e : n.testBit i = x.testBit (i % 64) := by
      rw [hx, lb_testBit, show 64 * (i / 64) + i % 64 = i by omega]
      have : i % 64 < 64 := by omega
      simp [this]
    rw [e, Bool.eq_iff_iff, ← testBit_mod2, ← hy]
    simp; omega
  obtain ⟨q, hq⟩ : ∃ q, q = i / 64 := ⟨_, rfl⟩
  obtain ⟨r, hr⟩ : ∃ r, r = i % 64 := ⟨_, rfl⟩
  have Q1 : (i : Int) / 64 = (q : Int) := by omega
  have Q2 : (i : Int) % 64 = (r : Int) := by omega
  have Q3 : (0 : Int) ≤ (i : Int) := by omega
  have Q4 : (0 : Int) ≤ (r : Int) := by omega
  have Q5 : (i : Int).tdiv 64 = (q : Int) := by rw [Int.tdiv_eq_ediv_of_nonneg (by omega)]; exact Q1
  have Q6 : (i : Int).tmod 64 = (r : Int) := by rw [Int.tmod_eq_emod_of_nonneg (by omega)]; exact Q2
  have hy' : (x : Int) / 2 ^ r = (y : Int) := by rw [hy, ← hr, cast_pow2]; omega
  rw [← hx, ← hq] at hd1
  have hqs : q ≤ 100000 := by omega
  have hrs : r < 64 := by omega
  have hres' := Lib.hid hres
  clear hres hx hxB hy hyB hq hr h hda
  go_enter Tryz.func107, Tryz.ntmps107
  go_wp2_with ((first | (refine kg gf134 hst (fun w hst => hd1 w hst.keeps) rfl rfl rfl rfl ?_; clear hst; intro w hst) | (refine wl_guard (by rfl) ?_)); try simp only [pz, pn, sz, sc])
  refine bp_t rfl rfl (by rfl) ⟨?_, hst.keeps⟩
  rw [hres'.out]; rfl

/-- What wide.at tells. -/
def wat (n : Nat) (i : Int) (y : Nat) : Nat := if i < 0 then 0 else if 8 ≤ i then y else lb n i.toNat
theorem wat_lt (n : Nat) (i : Int) (y : Nat) (hy : y < B) : wat n i y < B := by
  unfold wat; split
  · exact B_pos
  · split
    · exact hy
    · exact lb_lt _ _

theorem wide_at (n : Nat) (i : Int) (y : Nat) : Gives Tryz.prog 77 #[W n, .int .i64 i, .int .u64 y] (.int .u64 (wat n i y : Nat)) := by
  intro w0
  have hst := St.start [] w0
  by_cases h1 : i < 0
  · have e : wat n i y = 0 := by unfold wat; rw [if_pos h1]
    rw [e]
    go_enter Tryz.func77, Tryz.ntmps77
    go_wp2_with ((first | (refine kb 3 hst rfl rfl ?_; clear hst; intro b3 w hb3 hst)); try simp only [pz, pn, sz, sc])
    refine bp_t rfl rfl (by rfl) ⟨?_, hst.keeps⟩
    rfl
  · by_cases h2 : 8 ≤ i
    · have e : wat n i y = y := by unfold wat; rw [if_neg h1, if_pos h2]
      rw [e]
      go_enter Tryz.func77, Tryz.ntmps77
      go_wp2_with ((first | (refine kb 3 hst rfl rfl ?_; clear hst; intro b3 w hb3 hst)); try simp only [pz, pn, sz, sc])
      refine bp_t rfl rfl (by rfl) ⟨?_, hst.keeps⟩
      rfl
    · obtain ⟨j, rfl⟩ := Int.eq_ofNat_of_zero_le (show 0 ≤ i by omega)
      have e : wat n (j : Int) y = lb n j := by unfold wat; rw [if_neg h1, if_neg h2]; rfl
      rw [e]
      have h3 : (0 : Int) ≤ (j : Int) := by omega
      have h4 : (j : Int) < 8 := by omega
      have h5 : j < 8 := by omega
      clear e
      go_enter Tryz.func77, Tryz.ntmps77
      go_wp2_with ((first | (refine kb 3 hst rfl rfl ?_; clear hst; intro b3 w hb3 hst) | (refine kc hst tc22 rfl ?_)); try simp only [pz, pn, sz, sc])
      refine bp_t rfl rfl (by rfl) ⟨?_, hst.keeps⟩
      rfl

/-- By how much a number is shifted. -/
def clampN (n : Int) : Nat := if n < 0 then 0 else if 512 < n then 512 else n.toNat
theorem clampN_le (n : Int) : clampN n ≤ 512 := by unfold clampN; split <;> (try split) <;> omega
theorem clampN_nat (n : Nat) (h : n ≤ 512) : clampN n = n := by unfold clampN; rw [if_neg (by omega), if_neg (by omega)]; omega

theorem wide_clamp (n : Int) : Gives Tryz.prog 74 #[.int .i64 n] (.int .i64 (clampN n : Nat)) := by
  intro w0
  have hst := St.start [] w0
  obtain ⟨c, hc⟩ : ∃ c, c = clampN n := ⟨_, rfl⟩
  rw [← hc]
  by_cases h1 : n ≤ 512
  · have m1 : (if n ≤ 512 then n else 512) = n := by rw [if_pos h1]
    have m1' : (if (512 : Int) < n then 512 else n) = n := by rw [if_neg (by omega)]
    have m2 : min n 512 = n := by omega
    by_cases h2 : n ≤ 0
    · have m4 : max 0 n = (c : Int) := by rw [hc]; unfold clampN; split <;> (try split) <;> omega
      have e0 : c = 0 := by omega
      have hc' := Lib.hid hc
      clear hc
      subst e0
      go_enter Tryz.func74, Tryz.ntmps74
      go_wp2_with fail
      refine bp_t rfl rfl (by rfl) ⟨?_, hst.keeps⟩
      go_num
    · have m4 : max 0 n = (c : Int) := by rw [hc]; unfold clampN; split <;> (try split) <;> omega
      have e0 : n = (c : Int) := by omega
      clear hc
      subst e0
      go_enter Tryz.func74, Tryz.ntmps74
      go_wp2_with fail
      refine bp_t rfl rfl (by rfl) ⟨?_, hst.keeps⟩
      go_num
  · have m2 : min n 512 = 512 := by omega
    have e0 : c = 512 := by rw [hc]; unfold clampN; rw [if_neg (by omega), if_pos (by omega)]
    clear hc
    subst e0
    go_enter Tryz.func74, Tryz.ntmps74
    go_wp2_with fail
    refine bp_t rfl rfl (by rfl) ⟨?_, hst.keeps⟩
    go_num

theorem LimbAt.wide {w : World} {b n : Nat} {E : TypeId} {fr : Nat × Nat} (hn : n < M) (h : w.heap[b]? = some (.cells (wc 8 n) E fr)) : LimbAt w (.slice (some ⟨b, 0, none⟩) 8 8) 8 n :=
  ⟨hn, by omega, b, 8, 8, n, E, fr, rfl, by omega, by omega, h, Nat.mod_eq_of_lt hn⟩

set_option maxHeartbeats 2000000 in
theorem wide_Cmp (a b : Nat) (ha : a < M) (hb : b < M) : Gives Tryz.prog 166 #[W a, W b] (.int .i64 (cmp a b)) := by
  intro w0
  have hst := St.start [] w0
  have hless := fun (b2 b3 : Nat) (w : World) (h2 : w.heap[b2]? = some (.cells (wc 8 a) 44)) (h3 : w.heap[b3]? = some (.cells (wc 8 b) 44)) => limb_Less _ _ 8 8 a b w (LimbAt.wide ha h2) (LimbAt.wide hb h3)
  by_cases h : a = b
  · subst h
    have e : cmp a a = 0 := by simp [cmp]
    rw [e]
    clear hless e
    have hd := decide_eq_true (show a = a from rfl)
    go_enter Tryz.func166, Tryz.ntmps166
    go_wp2_with ((first | (refine kb 2 hst rfl rfl ?_; clear hst; intro b2 w hb2 hst) | (refine kb 3 hst rfl rfl ?_; clear hst; intro b3 w hb3 hst) | (refine kl hst ta44 rfl ?_) | (refine ke tr44 tc22 rfl ?_)); try simp only [pz, pn, sz, sc])
    refine bp_t rfl rfl (by rfl) ⟨?_, hst.keeps⟩
    rfl
  · have hd := decide_eq_false h
    by_cases hl : a < b
    · have e : cmp a b = -1 := by unfold cmp; rw [if_pos hl]
      rw [e]
      have hd2 := decide_eq_true hl
      rw [hd2] at hless
      clear e h hl hd2
      go_enter Tryz.func166, Tryz.ntmps166
      go_wp2_with ((first | (refine kb 2 hst rfl rfl ?_; clear hst; intro b2 w hb2 hst) | (refine kb 3 hst rfl rfl ?_; clear hst; intro b3 w hb3 hst) | (refine kl hst ta44 rfl ?_) | (refine ke tr44 tc22 rfl ?_)); try simp only [pz, pn, sz, sc])
      refine wp_region_T 4  hst (by kernel_rfl) ?_; clear hst; intro w hst; (try simp only [List.length_cons, List.length_nil, Nat.reduceAdd, Array.replicate_succ, Array.replicate_zero, List.push_toArray, List.nil_append, List.cons_append])
      refine r0 0 ?_; simp only [pz, pn, sz, sc]
      refine r0 1 ?_; simp only [pz, pn, sz, sc]
      refine r1 2 ?_; (refine kg gf176 hst (fun w hst => hless b2 b3 w (hst.own _ _ (by repeat (first | exact List.Mem.head _ | refine List.Mem.tail _ ?_))) (hst.own _ _ (by repeat (first | exact List.Mem.head _ | refine List.Mem.tail _ ?_)))) rfl rfl rfl rfl ?_; clear hst; intro w hst); (try simp only [pz, pn, sz, sc]); refine re ?_
      refine r0 3 ?_; simp only [pz, pn, sz, sc]
      refine rd_ ?_
      go_wp2_with fail
      refine bp_t rfl rfl (by rfl) ⟨?_, hst.keeps⟩
      rfl
    · have e : cmp a b = 1 := by unfold cmp; rw [if_neg hl, if_pos (by omega)]
      rw [e]
      have hd2 := decide_eq_false hl
      rw [hd2] at hless
      clear e h hl hd2
      go_enter Tryz.func166, Tryz.ntmps166
      go_wp2_with ((first | (refine kb 2 hst rfl rfl ?_; clear hst; intro b2 w hb2 hst) | (refine kb 3 hst rfl rfl ?_; clear hst; intro b3 w hb3 hst) | (refine kl hst ta44 rfl ?_) | (refine ke tr44 tc22 rfl ?_)); try simp only [pz, pn, sz, sc])
      refine wp_region_T 4  hst (by kernel_rfl) ?_; clear hst; intro w hst; (try simp only [List.length_cons, List.length_nil, Nat.reduceAdd, Array.replicate_succ, Array.replicate_zero, List.push_toArray, List.nil_append, List.cons_append])
      refine r0 0 ?_; simp only [pz, pn, sz, sc]
      refine r0 1 ?_; simp only [pz, pn, sz, sc]
      refine r1 2 ?_; (refine kg gf176 hst (fun w hst => hless b2 b3 w (hst.own _ _ (by repeat (first | exact List.Mem.head _ | refine List.Mem.tail _ ?_))) (hst.own _ _ (by repeat (first | exact List.Mem.head _ | refine List.Mem.tail _ ?_)))) rfl rfl rfl rfl ?_; clear hst; intro w hst); (try simp only [pz, pn, sz, sc]); refine re ?_
      refine r0 3 ?_; simp only [pz, pn, sz, sc]
      refine rd_ ?_
      go_wp2_with fail
      refine bp_t rfl rfl (by rfl) ⟨?_, hst.keeps⟩
      rfl

theorem wide_Len (a : Nat) (ha : a < M) : Gives Tryz.prog 47 #[W a] (.int .i64 (bl a : Nat)) := by
  intro w0
  have hst := St.start [] w0
  have hlen := fun (b1 : Nat) (w : World) (h : w.heap[b1]? = some (.cells (wc 8 a) 44)) => limb_Len b1 0 8 8 8 a 44 (0, 0) (by omega) (by omega) (by omega) w h
  rw [Nat.pow_zero, Nat.div_one, ← M_eq, Nat.mod_eq_of_lt ha] at hlen
  go_enter Tryz.func47, Tryz.ntmps47
  go_wp2_with ((first | (refine kg gf73 hst (fun w hst => hlen b1 w (hst.own _ _ (by repeat (first | exact List.Mem.head _ | refine List.Mem.tail _ ?_)))) rfl rfl rfl rfl ?_; clear hst; intro w hst) | (refine kb 1 hst rfl rfl ?_; clear hst; intro b1 w hb1 hst)); try simp only [pz, pn, sz, sc])
  refine bp_t rfl rfl (by rfl) ⟨?_, hst.keeps⟩
  rfl

theorem wide_Bit (a i : Nat) (ha : a < M) (hi : i ≤ 100000) : Gives Tryz.prog 86 #[W a, .int .i64 i] (.bool (a.testBit i)) := by
  intro w0
  have hst := St.start [] w0
  have hlen := fun (b1 : Nat) (w : World) (h : w.heap[b1]? = some (.cells (wc 8 a) 44)) => limb_Bit _ 8 a i hi w (LimbAt.wide ha h)
  go_enter Tryz.func86, Tryz.ntmps86
  go_wp2_with ((first | (refine kg gf107 hst (fun w hst => hlen b2 w (hst.own _ _ (by repeat (first | exact List.Mem.head _ | refine List.Mem.tail _ ?_)))) rfl rfl rfl rfl ?_; clear hst; intro w hst) | (refine kb 2 hst rfl rfl ?_; clear hst; intro b2 w hb2 hst)); try simp only [pz, pn, sz, sc])
  refine bp_t rfl rfl (by rfl) ⟨?_, hst.keeps⟩
  rfl

/-- Is a number, taken with a sign, below 0? -/
def minusB (a : Nat) : Bool := a.testBit 511
theorem wide_Minus (a : Nat) (ha : a < M) : Gives Tryz.prog 228 #[W a] (.bool (minusB a)) := by
  intro w0
  have hst := St.start [] w0
  have h := wide_Bit a 511 ha (by omega)
  go_enter Tryz.func228, Tryz.ntmps228
  go_wp2_with ((first | (refine kf gf86 hst (h) rfl rfl rfl rfl ?_; clear hst; intro w hst) | (refine kb 1 hst rfl rfl ?_; clear hst; intro b1 w hb1 hst) | (refine kl hst ta44 rfl ?_)); try simp only [pz, pn, sz, sc])
  refine bp_t rfl rfl (by rfl) ⟨?_, hst.keeps⟩
  rfl

theorem wide_Neg (a : Nat) (ha : a < M) : Gives Tryz.prog 239 #[W a] (W ((M - a) % M)) := by
  intro w0
  have hst := St.start [] w0
  have h := wide_Sub 0 a (by decide) ha
  rw [Nat.zero_add, W_zero] at h
  go_enter Tryz.func239, Tryz.ntmps239
  go_wp2_with ((first | (refine kf gf122 hst (h) rfl rfl rfl rfl ?_; clear hst; intro w hst) | (refine kb 1 hst rfl rfl ?_; clear hst; intro b1 w hb1 hst) | (refine ka 2 hst tz44 rfl rfl ?_; clear hst; intro b2 w hb2 hst) | (refine kl hst ta44 rfl ?_) | (refine ka 3 hst tz44 rfl rfl ?_; clear hst; intro b3 w hb3 hst) | (refine kt hst ta44 rfl rfl ?_; clear hst; intro w hst)); try simp only [pz, pn, sz, sc])
  refine bp_c rfl rfl (la hst ta44) ⟨?_, hst.keeps⟩
  rfl

end Go.Proofs.YtefpoconpeggpaaGreatDoor.Rd
