/- Numbers of the reference that come of a call; what Add answers. -/
import Derived.Test.YtmkeaedpfmblgaaGreatJ01
import Derived.Test.YtmkeaedpfmblgaaGreatJ02
namespace Go.Proofs.YtmkeaedpfmblgaaGreat.Rd
open Go Go.RowKit
set_option linter.unusedVariables false
set_option linter.unusedSimpArgs false
set_option maxRecDepth 100000

theorem or_low (a b s : Nat) (ha : a * 2 ^ s < B) (hb : b < 2 ^ s) (hB : b < B) : bits .or .u64 ((a * 2 ^ s : Nat) : Int) (b : Int) = ((a * 2 ^ s + b : Nat) : Int) := by
  rw [bits_or_u64_nat _ _ (by rw [← B_val]; exact ha) (by rw [← B_val]; exact hB)]
  congr 1
  rw [Nat.mul_comm, Nat.two_pow_add_eq_or_of_lt hb]
theorem wrap_sub_nat (a b c : Nat) (h : a = b + c) (hc : c < B) : IntKind.u64.wrap ((a : Int) - (b : Int)) = (c : Int) := by
  rw [show (a : Int) - (b : Int) = (c : Int) by omega, u64_wrap, Nat.mod_eq_of_lt hc]
theorem wrap_sub_mod (a b c : Nat) (h : (a + (B - b)) % B = c) (hb : b < B) : IntKind.u64.wrap ((a : Int) - (b : Int)) = (c : Int) := by
  rw [B_val] at *
  show ((a : Int) - (b : Int)) % 18446744073709551616 = _
  omega
theorem u64_wrap' (x : Int) (n c : Nat) (h : x = (n : Int)) (hc : n % B = c) : IntKind.u64.wrap x = (c : Int) := by
  rw [h, u64_wrap, hc]

theorem and_low (a : Nat) (ha : a < B) : bits .and .u64 (a : Int) 4294967295 = ((a % 4294967296 : Nat) : Int) := by
  have := bits_and_u64_nat a 4294967295 (by rw [← B_val]; exact ha) (by omega)
  rw [show ((4294967295 : Nat) : Int) = 4294967295 from rfl] at this
  rw [this]
  congr 1
  exact Nat.and_two_pow_sub_one_eq_mod a 32

end Go.Proofs.YtmkeaedpfmblgaaGreat.Rd

namespace Go.Proofs.YtmkeaedpfmblgaaGreat.Rd
open Go Go.RowKit
set_option linter.unusedVariables false
set_option linter.unusedSimpArgs false
set_option maxRecDepth 100000

def C : Nat := 4294967296
theorem C_val : C = 4294967296 := rfl
theorem C_pos : 0 < C := by decide
theorem Cp_pos (k : Nat) : 0 < C ^ k := Nat.pow_pos C_pos
theorem C_pow (k : Nat) : C ^ k = 2 ^ (32 * k) := by rw [show C = 2 ^ 32 from rfl, ← Nat.pow_mul]
/-- A digit by 2^32. -/
def dg (n i : Nat) : Nat := n / C ^ i % C
theorem dg_lt (n i : Nat) : dg n i < C := Nat.mod_lt _ C_pos
theorem dg_lt' (n i : Nat) : dg n i < 4294967296 := dg_lt n i
/-- How many digits by 2^32. -/
def dl (n : Nat) : Nat := (bl n + 31) / 32
theorem dl_le {n l : Nat} : dl n ≤ l ↔ n < C ^ l := by
  rw [C_pow, ← bl_le]; unfold dl; omega
theorem dl_lt (n : Nat) : n < C ^ dl n := dl_le.1 (Nat.le_refl _)
theorem dl_zero : dl 0 = 0 := rfl
theorem dl_eq {n l : Nat} (h1 : n < C ^ l) (h2 : l = 0 ∨ C ^ (l - 1) ≤ n) : dl n = l := by
  have h3 := dl_le.2 h1
  rcases h2 with h | h
  · omega
  · by_cases h4 : dl n ≤ l - 1
    · have := dl_le.1 h4; omega
    · omega
theorem dl_pos {n : Nat} : 0 < dl n ↔ 0 < n := by
  constructor
  · intro h
    rcases Nat.eq_zero_or_pos n with h0 | h0
    · subst h0; simp [dl_zero] at h
    · exact h0
  · intro h
    rcases Nat.eq_zero_or_pos (dl n) with h0 | h0
    · have := dl_lt n; rw [h0] at this; simp at this; omega
    · exact h0
theorem dg_ge {n l i : Nat} (h : n < C ^ l) (hi : l ≤ i) : dg n i = 0 := by
  unfold dg
  rw [Nat.div_eq_of_lt (Nat.lt_of_lt_of_le h (Nat.pow_le_pow_right C_pos hi))]; rfl
theorem lt_down {n k : Nat} (h : n < C ^ (k + 1)) (h0 : dg n k = 0) : n < C ^ k := by
  unfold dg at h0
  have h1 : n / C ^ k < C := by rw [Nat.div_lt_iff_lt_mul (Cp_pos k), ← Nat.pow_succ']; exact h
  rw [Nat.mod_eq_of_lt h1] at h0
  exact (Nat.div_eq_zero_iff_lt (Cp_pos k)).1 h0
theorem ge_top {n k : Nat} (h0 : dg n k ≠ 0) : C ^ k ≤ n := by
  rcases Nat.lt_or_ge n (C ^ k) with h | h
  · exact absurd (dg_ge h (Nat.le_refl k)) h0
  · exact h
theorem dg_split (n k : Nat) : n % C ^ (k + 1) = n % C ^ k + dg n k * C ^ k := by
  unfold dg
  rw [Nat.pow_succ, Nat.mod_mul, Nat.mul_comm (C ^ k)]

/-- The slice v of l digits holds n. -/
def BigAt (w : World) (v : Value) (l n : Nat) : Prop :=
  n < C ^ l ∧ l ≤ 1000000 ∧ ∃ a cap, v = .slice a l cap ∧ l ≤ cap ∧ (0 < l → ∃ g cur E, a = some ⟨g, 0, none⟩ ∧ w.heap[g]? = some (.cells cur E (0, 0)) ∧ ∀ j, j < l → cur[j]? = some (.int .u32 (dg n j : Nat)))
theorem BigAt.keep {w w' : World} {v : Value} {l n : Nat} (h : BigAt w v l n) (k : Keeps [] w w') : BigAt w' v l n := by
  obtain ⟨h1, h2, a, cap, h3, h4, h5⟩ := h
  refine ⟨h1, h2, a, cap, h3, h4, fun h0 => ?_⟩
  obtain ⟨g, cur, E, h6, h7, h8⟩ := h5 h0
  refine ⟨g, cur, E, h6, ?_, h8⟩
  rw [k.block g _ (by simp)]
  · exact h7
  · rcases Nat.lt_or_ge g w.heap.size with h | h
    · exact h
    · rw [Array.getElem?_eq_none h] at h7; cases h7

set_option maxHeartbeats 1000000 in
theorem ref01_digit (v : Value) (l n i : Nat) (hi : i ≤ 1000000) (w0 : World) (h : BigAt w0 v l n) : GivesAt Tryz.prog 50 #[v, .int .i64 i] (.int .u64 (dg n i : Nat)) w0 := by
  obtain ⟨hn, hl, a, cap, rfl, hcap, hmem⟩ := h
  by_cases hil : i < l
  · obtain ⟨g, cur, E, rfl, hg, hc⟩ := hmem (by omega)
    have hst := (St.start [] w0).add hg (by simp)
    have h1 : (0 : Int) ≤ (i : Int) := by omega
    have h2 : (i : Int) < (l : Int) := by omega
    have h3 := hc i hil
    have h4 := dg_lt' n i
    generalize dg n i = d at *
    have h5 : (0 : Int) ≤ (d : Int) := by omega
    have h6 : (d : Int) < 4294967296 := by omega
    have hw : IntKind.u64.wrap (d : Int) = (d : Int) := by rw [u64_wrap, Nat.mod_eq_of_lt (by rw [B_val]; omega)]
    clear hg hc hmem hn h4 h6
    go_enter Tryz.func50, Tryz.ntmps50
    go_wp2_with ((first | (refine wl_guard (by rfl) ?_) | (refine kc hst tc53 rfl ?_)); try simp only [pz, pn, sz, sc])
    refine bp_t rfl rfl (by rfl) ⟨?_, hst.keeps⟩
    rfl
  · have hst := St.start [] w0
    have h1 : (0 : Int) ≤ (i : Int) := by omega
    have h2 : (l : Int) ≤ (i : Int) := by omega
    rw [dg_ge hn (by omega)]
    clear hn hmem
    go_enter Tryz.func50, Tryz.ntmps50
    go_wp2_with ((first | (refine wl_guard (by rfl) ?_) | (refine kc hst tc53 rfl ?_)); try simp only [pz, pn, sz, sc])
    refine bp_t rfl rfl (by rfl) ⟨?_, hst.keeps⟩
    rfl

set_option maxHeartbeats 1000000 in
theorem ref01_trim (a : Option Addr) (l cap n : Nat) (w0 : World) (h : BigAt w0 (.slice a l cap) l n) : GivesAt Tryz.prog 49 #[.slice a l cap] (.slice a (dl n) cap) w0 := by
  obtain ⟨hn, hl, a', cap', e, hcap, hmem⟩ := h
  injection e with e1 e2 e3
  subst e1
  subst e3
  by_cases hl0 : 0 < l
  · obtain ⟨g, cur, E, rfl, hg, hc⟩ := hmem hl0
    have hst := (St.start [] w0).add hg (by simp)
    have hc' := Lib.hid hc
    have hn' := Lib.hid hn
    clear hc hg hn
    go_enter Tryz.func49, Tryz.ntmps49
    go_wp2_with ((first | (refine wl_guard (by rfl) ?_) | (refine kc hst tc53 rfl ?_)); try simp only [pz, pn, sz, sc])
    go_loopw [3] (fun j wr => ∃ i : Nat, i ≤ l ∧ j = .int .i64 i ∧ n < C ^ i ∧ St w0 [] [(g, .cells cur E (0, 0))] wr) (fun j _ => (intOf j).toNat)
    case atStart => exact ⟨l, by omega, rfl, hn'.out, hst⟩
    case round =>
      clear hst
      obtain ⟨i, hi, rfl, ht, hst⟩ := hrel
      by_cases h0 : 0 < i
      · obtain ⟨j, rfl⟩ : ∃ j, i = j + 1 := ⟨i - 1, by omega⟩
        have e1 : ((j + 1 : Nat) : Int) = (j : Int) + 1 := by omega
        rw [e1]
        have h1 : (0 : Int) ≤ (j : Int) := by omega
        have h3 : (j : Int) < (l : Int) := by omega
        have hcj := hc'.out j (by omega)
        by_cases hz : dg n j = 0
        · have hz' : ((dg n j : Int) == 0) = true := by simp [hz]
          have hlt := Lib.hid (lt_down ht hz)
          clear ht hz
          go_wp2_with ((first | (refine wl_guard (by rfl) ?_) | (refine kc hst tc53 rfl ?_)); try simp only [pz, pn, sz, sc])
          go_roundw
          case rel => exact ⟨j, by omega, by go_num, hlt.out, hst⟩
          case measure => simp [intOf]
        · have hz' : ((dg n j : Int) == 0) = false := by simp [hz]
          have e := Lib.hid (dl_eq ht (.inr (ge_top hz)))
          have h4 : ((j : Int) + 1) ≤ (cap : Int) := by omega
          clear ht hz
          go_wp2_with ((first | (refine wl_guard (by rfl) ?_) | (refine kc hst tc53 rfl ?_)); try simp only [pz, pn, sz, sc])
          refine bp_t rfl rfl (by rfl) ⟨?_, hst.keeps⟩
          rw [e.out]; rfl
      · have : i = 0 := by omega
        subst this
        have e := Lib.hid (dl_eq ht (.inl rfl))
        clear ht
        go_wp2_with ((first | (refine wl_guard (by rfl) ?_) | (refine kc hst tc53 rfl ?_)); try simp only [pz, pn, sz, sc])
        refine bp_t rfl rfl (by rfl) ⟨?_, hst.keeps⟩
        rw [e.out]; rfl
  · have : l = 0 := by omega
    subst this
    have hst := St.start [] w0
    have e := Lib.hid (dl_eq hn (.inl rfl))
    clear hmem hn
    go_enter Tryz.func49, Tryz.ntmps49
    go_wp2_with ((first | (refine wl_guard (by rfl) ?_) | (refine kc hst tc53 rfl ?_)); try simp only [pz, pn, sz, sc])
    refine wp_loop_once ?_
    go_wp2_with ((first | (refine wl_guard (by rfl) ?_) | (refine kc hst tc53 rfl ?_)); try simp only [pz, pn, sz, sc])
    refine bp_t rfl rfl (by rfl) ⟨?_, hst.keeps⟩
    rw [e.out]; rfl

end Go.Proofs.YtmkeaedpfmblgaaGreat.Rd

namespace Go.Proofs.YtmkeaedpfmblgaaGreat.Rd
open Go Go.RowKit
set_option linter.unusedVariables false
set_option linter.unusedSimpArgs false
set_option maxRecDepth 100000

/-- v holds n, without noughts at the end, in blocks of Lg, all from s on. -/
def BigIn (s : Nat) (Lg : List (Nat × Obj)) (v : Value) (n : Nat) : Prop :=
  (∀ x ∈ Lg, s ≤ x.1) ∧ (Lg.map Prod.fst).Nodup ∧ dl n ≤ 1000000 ∧ ∃ a cap, v = .slice a (dl n) cap ∧ dl n ≤ cap ∧ (0 < dl n → ∃ g cur E, a = some ⟨g, 0, none⟩ ∧ (g, .cells cur E (0, 0)) ∈ Lg ∧ ∀ j, j < dl n → cur[j]? = some (.int .u32 (dg n j : Nat)))
theorem BigIn.at {s : Nat} {Lg : List (Nat × Obj)} {v : Value} {n : Nat} (h : BigIn s Lg v n) {w0 w : World} {S : List Nat} {L : List (Nat × Obj)} (hst : St w0 S L w) (hs : ∀ x ∈ Lg, x ∈ L) : BigAt w v (dl n) n := by
  obtain ⟨_, _, hl, a, cap, h1, h2, h3⟩ := h
  refine ⟨dl_lt n, hl, a, cap, h1, h2, fun h0 => ?_⟩
  obtain ⟨g, cur, E, h4, h5, h6⟩ := h3 h0
  exact ⟨g, cur, E, h4, hst.own _ _ (hs _ h5), h6⟩

def PostB (w0 : World) (n : Nat) (e : Ending) (w' : World) : Prop := ∃ v Lg, e = .returned v ∧ Keeps [] w0 w' ∧ BigIn w0.heap.size Lg v n ∧ ∀ b o, (b, o) ∈ Lg → w'.heap[b]? = some o
def GivesB (P : Program) (f : FuncId) (args : Array Value) (n : Nat) (w0 : World) : Prop := Calls P f args w0 (PostB w0 n)
theorem PostB.of {w0 w : World} {n : Nat} {v : Value} {Lg L : List (Nat × Obj)} (hst : St w0 [] L w) (hb : BigIn w0.heap.size Lg v n) (hs : ∀ x ∈ Lg, x ∈ L) : PostB w0 n (.returned v) w := ⟨v, Lg, rfl, hst.keeps, hb, fun b o h => hst.own b o (hs _ h)⟩

theorem St.more {w0 w w' : World} {S : List Nat} {L Lg : List (Nat × Obj)} (h : St w0 S L w) (k : Keeps [] w w') (h1 : ∀ x ∈ Lg, w.heap.size ≤ x.1) (h2 : (Lg.map Prod.fst).Nodup) (h3 : ∀ b o, (b, o) ∈ Lg → w'.heap[b]? = some o) : St w0 S (L ++ Lg) w' := by
  have hk := h.keep k
  refine ⟨hk.keeps, fun b o hm => ?_, ?_⟩
  · rcases List.mem_append.1 hm with h' | h'
    · exact hk.own _ _ h'
    · exact h3 _ _ h'
  · rw [List.map_append]
    refine List.nodup_append.2 ⟨h.nodup, h2, ?_⟩
    intro b hb b' hb' e
    subst e
    obtain ⟨x, hx, rfl⟩ := List.mem_map.1 hb
    obtain ⟨y, hy, e⟩ := List.mem_map.1 hb'
    have := h.lt (b := x.1) (o := x.2) hx
    have := h1 y hy
    rw [e] at this
    omega

section
variable {P : Program} {ops : Array Oper} {rest : List Oper} {Q : Exit → Act → World → Prop} {a : Act} {w w0 : World} {S : List Nat} {L : List (Nat × Obj)}
theorem wl_callB {o : Oper} {c : Call} {x : Operand} {f : FuncId} {cap : Array Value} {args : List Value} {n : Nat} (hf : GoF P f) (hst : St w0 S L w) (hc : ∀ w, St w0 S L w → GivesB P f args.toArray n w)
    (hg : o.guard = none) (ho : o.op = .call c) (hcal : c.callee = .value x) (hx : a.eval x = .func (.func f) #[] cap) (hargs : c.args.toList.map a.eval ++ cap.toList = args)
    (h : ∀ v Lg w', BigIn w0.heap.size Lg v n → St w0 S (L ++ Lg) w' → wpList P ops Q rest (a.put o.dst v) w') : wpList P ops Q (o :: rest) a w := by
  refine wpList_plain hg fun K hK => ?_
  unfold Oper.wp
  rw [run_execOp_call ho hcal hx, args_eq hargs, run_callFunc_go hf, Oper.upon_enter]
  refine (hc w hst).mono fun e w'' hh => ?_
  obtain ⟨v, Lg, rfl, hk, hb, hown⟩ := hh
  exact hK _ _ (h v Lg w'' ⟨fun x hx => Nat.le_trans hst.keeps.size (hb.1 x hx), hb.2⟩ (hst.more hk hb.1 hb.2.1 hown))
end

/-- The cells of k digits. -/
def uc (k n : Nat) : List Value := (List.range k).map fun j => .int .u32 (dg n j : Nat)
theorem uc_zero (n : Nat) : uc 0 n = [] := rfl
theorem uc_length (k n : Nat) : (uc k n).length = k := by simp [uc]
theorem uc_get (k n j : Nat) (h : j < k) : (uc k n)[j]? = some (.int .u32 (dg n j : Nat)) := by simp [uc, h]
theorem dg_low (n d k j : Nat) (h : j < k) : dg (n + d * C ^ k) j = dg n j := by
  unfold dg
  have e : d * C ^ k = C ^ j * (C * (d * C ^ (k - j - 1))) := by
    have : C ^ k = C ^ j * (C * C ^ (k - j - 1)) := by rw [← Nat.pow_succ', ← Nat.pow_add]; congr 1; omega
    rw [this, Nat.mul_left_comm, Nat.mul_left_comm d]
  rw [e, Nat.add_mul_div_left _ _ (Cp_pos j), Nat.add_mul_mod_self_left]
theorem dg_at (n d k : Nat) (hn : n < C ^ k) (hd : d < C) : dg (n + d * C ^ k) k = d := by
  unfold dg
  rw [Nat.add_mul_div_right _ _ (Cp_pos k), Nat.div_eq_of_lt hn, Nat.zero_add, Nat.mod_eq_of_lt hd]
theorem uc_snoc (n d k : Nat) (hn : n < C ^ k) (hd : d < C) : uc k n ++ [.int .u32 (d : Nat)] = uc (k + 1) (n + d * C ^ k) := by
  unfold uc
  rw [List.range_succ, List.map_append]
  congr 1
  · apply List.map_congr_left
    intro j hj
    rw [dg_low n d k j (List.mem_range.1 hj)]
  · simp [dg_at n d k hn hd]
theorem add_lt_C (n d k : Nat) (hn : n < C ^ k) (hd : d < C) : n + d * C ^ k < C ^ (k + 1) := by
  have : (d + 1) * C ^ k ≤ C * C ^ k := Nat.mul_le_mul_right _ hd
  rw [Nat.add_mul, Nat.one_mul] at this
  rw [Nat.pow_succ']; omega

/-- A slice that has grown to the digits of n holds n. -/
theorem GRow.big {w0 : World} {Lg L : List (Nat × Obj)} {e : TypeId} {v : Value} {m n : Nat} (h : GRow w0 Lg e 1 v m (uc m n)) (hn : n < C ^ m) (hm : m ≤ 1000000) (hs : ∀ x ∈ Lg, x ∈ L) :
    ∃ a cap, v = .slice a m cap ∧ (∀ S w, St w0 S L w → BigAt w v m n) ∧ BigIn w0.heap.size Lg (.slice a (dl n) cap) n := by
  have hd : dl n ≤ m := dl_le.2 hn
  obtain ⟨hl, ⟨rfl, rfl, rfl⟩ | ⟨g, cap, cur, rfl, rfl, h1, h2, h3, h4, h5⟩⟩ := h
  · have h0 : dl n = 0 := by omega
    exact ⟨none, 0, rfl, fun _ _ _ => ⟨hn, hm, none, 0, rfl, Nat.le_refl _, fun h => absurd h (by omega)⟩, by simp, by simp, by omega, none, 0, by rw [h0], by omega, fun h => by omega⟩
  · have hc : ∀ j, j < m → cur[j]? = some (.int .u32 (dg n j : Nat)) := fun j hj => by
      have := uc_get m n j hj
      rw [← h5, List.getElem?_take, if_pos (by omega), Array.getElem?_toList] at this
      exact this
    exact ⟨_, cap, rfl, fun _ _ hst => ⟨hn, hm, _, cap, rfl, h2, fun _ => ⟨g, cur, e, rfl, hst.own _ _ (hs _ (by simp)), hc⟩⟩, by simpa using h1, by simp, by omega, _, cap, rfl, by omega, fun _ => ⟨g, cur, e, rfl, by simp, fun j hj => hc j (by omega)⟩⟩

theorem u32_wrap (x : Nat) : IntKind.u32.wrap (x : Int) = ((x % C : Nat) : Int) := by
  show (x : Int) % 4294967296 = _
  rw [C_val]; omega

end Go.Proofs.YtmkeaedpfmblgaaGreat.Rd
