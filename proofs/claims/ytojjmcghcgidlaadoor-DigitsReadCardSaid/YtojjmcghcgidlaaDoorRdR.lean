/- The runes of a text, told by its bytes. -/
import Derived.Test.YtojjmcghcgidlaaDoorRdQ
import Derived.Laws.RangeString
namespace Go.Proofs.YtojjmcghcgidlaaDoor.Rd
open Go Go.RowKit
set_option linter.unusedVariables false
set_option linter.unusedSimpArgs false
set_option maxRecDepth 100000

theorem decode_hi (s : ByteArray) (pos : Nat) (h : pos < s.size) (ha : 128 ≤ (s[pos]'h).toNat) : 128 ≤ (Utf8.decode s pos).1 := by
  have e0 : s.get! (pos + 0) = s[pos]'h := by
    have : s.get! pos = s[pos]'h := by
      show s.data[pos]! = s.data[pos]
      exact getElem!_pos s.data pos h
    simpa using this
  unfold Utf8.decode
  simp only [e0]
  rw [if_neg (by omega)]
  split
  · split
    · assumption
    · decide
  · split
    · split
      · rename_i h2; simp at h2; omega
      · decide
    · split
      · split
        · rename_i h2; simp at h2; omega
        · decide
      · decide

theorem val_ge (c : Nat) (h : 128 ≤ c) : val c = 99 := val_big c (by omega)

theorem idx_iff (base : Nat) (hb : base ≤ 16) (s : ByteArray) : ∀ f pos, s.size ≤ pos + f →
    (0 ≤ Lib.idxFuncFrom (fun x => decide (base ≤ val x)) true s f pos ↔ ∃ j, ∃ h : j < s.size, pos ≤ j ∧ base ≤ val (s[j]'h).toNat)
  | 0, pos, hf => by
    simp only [Lib.idxFuncFrom]
    constructor
    · intro h; omega
    · rintro ⟨j, h, h1, _⟩; omega
  | f + 1, pos, hf => by
    simp only [Lib.idxFuncFrom]
    by_cases hp : pos < s.size
    · rw [if_pos hp]
      by_cases ha : (s[pos]'hp).toNat < 128
      · rw [decode_ascii s pos hp ha]
        by_cases hd : base ≤ val (s[pos]'hp).toNat
        · rw [if_pos (by simpa using hd)]
          constructor
          · intro _; exact ⟨pos, hp, Nat.le_refl _, hd⟩
          · intro _; omega
        · rw [if_neg (by simpa using hd)]
          rw [idx_iff base hb s f (pos + 1) (by omega)]
          constructor
          · rintro ⟨j, h, h1, h2⟩; exact ⟨j, h, by omega, h2⟩
          · rintro ⟨j, h, h1, h2⟩
            by_cases e : j = pos
            · subst e; exact absurd h2 hd
            · exact ⟨j, h, by omega, h2⟩
      · have h1 := decode_hi s pos hp (by omega)
        have h2 := val_ge _ h1
        have h3 := val_ge (s[pos]'hp).toNat (by omega)
        rw [if_pos (by rw [h2]; simp; omega)]
        constructor
        · intro _; exact ⟨pos, hp, Nat.le_refl _, by omega⟩
        · intro _; omega
    · rw [if_neg hp]
      constructor
      · intro h; omega
      · rintro ⟨j, h, h1, _⟩; omega

theorem contains_iff (base : Nat) (hb : base ≤ 16) (s : ByteArray) : decide (0 ≤ Lib.idxFunc (fun x => decide (base ≤ val x)) true s) = !(s.data.toList.all fun c => decide (val c.toNat < base)) := by
  rw [Bool.eq_iff_iff]
  simp only [decide_eq_true_eq, Bool.not_eq_true', List.all_eq_false]
  unfold Lib.idxFunc
  rw [idx_iff base hb s s.size 0 (by omega)]
  constructor
  · rintro ⟨j, h, _, h2⟩
    exact ⟨s.data[j]'h, by simp [Array.mem_toList_iff], by show ¬ val (s[j]'h).toNat < base; omega⟩
  · rintro ⟨c, hc, h2⟩
    obtain ⟨j, hj, rfl⟩ := List.mem_iff_getElem.1 hc
    have hj' : j < s.size := by simpa using hj
    refine ⟨j, hj', by omega, ?_⟩
    have h3 : ¬ val (s[j]'hj').toNat < base := h2
    omega

theorem toList_data (s : ByteArray) : s.toList = s.data.toList := ByteArray.toList_eq s
/-- digits.plain: is it a number's text? -/
def plainS (base : Nat) (s : ByteArray) : Bool := isPlain base s.data.toList

theorem str_ne (s : ByteArray) (l : List UInt8) : s = ⟨l.toArray⟩ ↔ s.data.toList = l := by
  constructor
  · rintro rfl; simp
  · intro h
    cases s with | mk d => 
    congr 1
    exact Array.toList_inj.1 (by simpa using h)

theorem enters_plain (args : Array Value) (w : World) : (callFunc 48 args).run Tryd.prog w = .ok (.enter 48 args) w := run_callFunc_go gf48 _ _

set_option maxHeartbeats 4000000 in
theorem digits_plain_10 (s : ByteArray) : Gives Tryd.prog 33 #[.string s, .int .i64 10] (.bool (isPlain 10 s.data.toList)) := by
  intro w0
  have hst := St.start [] w0
  have hcon : ∀ (b : Nat) (w : World) (h : w.heap[b]? = some (.cells #[.int .i64 10] 3 (0, 0))), GivesAt Tryd.prog 50 #[.string s, .func (.func 48) #[] #[.pointer (some ⟨b, 0, none⟩)]] (.bool !(s.data.toList.all fun c => decide (val c.toNat < 10))) w := fun b w h => by
    have hlt : b < w.heap.size := by
      rcases Nat.lt_or_ge b w.heap.size with h' | h'
      · exact h'
      · rw [Array.getElem?_eq_none h'] at h; cases h
    have := Tryd.strings_ContainsFunc_grows 48 #[.pointer (some ⟨b, 0, none⟩)] enters_plain (fun x => decide (10 ≤ val x)) s w (fun W x hx hb => by
      have := plain_1_10 x b hx 3 W (by rw [hb.block b hlt]; exact h)
      exact this.mono fun e w' ⟨h1, h2⟩ => ⟨h1, h2.below⟩)
    rw [contains_iff 10 (by omega) s] at this
    exact this.mono fun e w' ⟨h1, h2⟩ => ⟨h1, Keeps.of_below h2⟩
  unfold isPlain
  rcases hl : s.data.toList with _ | ⟨c, l⟩
  · have h1 : s.toList.isEmpty = true := by rw [toList_data, hl]; rfl
    clear hcon hl
    go_enter Tryd.func33, Tryd.ntmps33
    go_wp2_with ((first | (refine wl_guard (by rfl) ?_) | (refine kb 3 hst rfl rfl ?_; clear hst; intro b3 w hb3 hst)); try simp only [pz, pn, sz, sc])
    refine bp_t rfl rfl (by rfl) ⟨?_, hst.keeps⟩
    rfl
  · have h1 : s.toList.isEmpty = false := by rw [toList_data, hl]; rfl
    have hv : s.data[0]? = some c := by
      rw [← Array.getElem?_toList, hl]; rfl
    rw [hl] at hcon
    generalize (c :: l).all _ = a at hcon
    have hcon' := hcon
    cases a with
    | false =>
      clear hl hv hcon'
      go_enter Tryd.func33, Tryd.ntmps33
      go_wp2_with ((first | (refine kg gf50 hst (fun w hst => hcon _ w (hst.own _ _ (by simp))) rfl rfl rfl rfl ?_; clear hst; intro w hst) | (refine wl_guard (by rfl) ?_) | (refine kb 3 hst rfl rfl ?_; clear hst; intro b3 w hb3 hst)); try simp only [pz, pn, sz, sc])
      refine bp_t rfl rfl (by rfl) ⟨?_, hst.keeps⟩
      rfl
    | true =>
      have hl2 : s.toList = c :: l := by rw [toList_data, hl]
      have hv' := Lib.hid hv
      clear hcon' hv hl
      by_cases h0 : c :: l = [48]
      · have h2 : (s.toList == [48]) = true := by rw [hl2, h0]; rfl
        have hv2 := hl2
        rw [h0]
        clear hl2 h0 hv2
        go_enter Tryd.func33, Tryd.ntmps33
        go_wp2_with ((first | (refine kg gf50 hst (fun w hst => hcon _ w (hst.own _ _ (by simp))) rfl rfl rfl rfl ?_; clear hst; intro w hst) | (refine wl_guard (by rfl) ?_) | (refine kb 3 hst rfl rfl ?_; clear hst; intro b3 w hb3 hst)); try simp only [pz, pn, sz, sc])
        refine bp_t rfl rfl (by rfl) ⟨?_, hst.keeps⟩
        rfl
      · have h2 : (s.toList == [48]) = false := by rw [hl2]; simpa using h0
        have h3 : ((c.toNat : Int) != 48) = (c != 48) := by
          rw [Bool.eq_iff_iff, bne_iff_ne, bne_iff_ne]
          constructor
          · intro h hc; subst hc; exact h rfl
          · intro h hc
            apply h
            apply UInt8.toNat_inj.1
            have : c.toNat = 48 := by omega
            rw [this]; rfl
        have h4 : (c :: l == [48]) = false := by simpa using h0
        have h4' := Lib.hid h4
        clear hl2 h0 h4
        go_enter Tryd.func33, Tryd.ntmps33
        go_wp2_with ((first | (refine kg gf50 hst (fun w hst => hcon _ w (hst.own _ _ (by simp))) rfl rfl rfl rfl ?_; clear hst; intro w hst) | (refine wl_guard (by rfl) ?_; refine wl_strindex (k := .i64) (j := 0) (by kernel_rfl) rfl rfl (by rfl) (by rfl) hv'.out ?_; (try simp only [pz, pn, sz, sc])) | (refine wl_guard (by rfl) ?_) | (refine kb 3 hst rfl rfl ?_; clear hst; intro b3 w hb3 hst)); try simp only [pz, pn, sz, sc])
        refine bp_t rfl rfl (by rfl) ⟨?_, hst.keeps⟩
        rw [h4'.out]
        cases hc : c != 48 <;> simp_all

set_option maxHeartbeats 4000000 in
theorem digits_plain_16 (s : ByteArray) : Gives Tryd.prog 33 #[.string s, .int .i64 16] (.bool (isPlain 16 s.data.toList)) := by
  intro w0
  have hst := St.start [] w0
  have hcon : ∀ (b : Nat) (w : World) (h : w.heap[b]? = some (.cells #[.int .i64 16] 3 (0, 0))), GivesAt Tryd.prog 50 #[.string s, .func (.func 48) #[] #[.pointer (some ⟨b, 0, none⟩)]] (.bool !(s.data.toList.all fun c => decide (val c.toNat < 16))) w := fun b w h => by
    have hlt : b < w.heap.size := by
      rcases Nat.lt_or_ge b w.heap.size with h' | h'
      · exact h'
      · rw [Array.getElem?_eq_none h'] at h; cases h
    have := Tryd.strings_ContainsFunc_grows 48 #[.pointer (some ⟨b, 0, none⟩)] enters_plain (fun x => decide (16 ≤ val x)) s w (fun W x hx hb => by
      have := plain_1_16 x b hx 3 W (by rw [hb.block b hlt]; exact h)
      exact this.mono fun e w' ⟨h1, h2⟩ => ⟨h1, h2.below⟩)
    rw [contains_iff 16 (by omega) s] at this
    exact this.mono fun e w' ⟨h1, h2⟩ => ⟨h1, Keeps.of_below h2⟩
  unfold isPlain
  rcases hl : s.data.toList with _ | ⟨c, l⟩
  · have h1 : s.toList.isEmpty = true := by rw [toList_data, hl]; rfl
    clear hcon hl
    go_enter Tryd.func33, Tryd.ntmps33
    go_wp2_with ((first | (refine wl_guard (by rfl) ?_) | (refine kb 3 hst rfl rfl ?_; clear hst; intro b3 w hb3 hst)); try simp only [pz, pn, sz, sc])
    refine bp_t rfl rfl (by rfl) ⟨?_, hst.keeps⟩
    rfl
  · have h1 : s.toList.isEmpty = false := by rw [toList_data, hl]; rfl
    have hv : s.data[0]? = some c := by
      rw [← Array.getElem?_toList, hl]; rfl
    rw [hl] at hcon
    generalize (c :: l).all _ = a at hcon
    have hcon' := hcon
    cases a with
    | false =>
      clear hl hv hcon'
      go_enter Tryd.func33, Tryd.ntmps33
      go_wp2_with ((first | (refine kg gf50 hst (fun w hst => hcon _ w (hst.own _ _ (by simp))) rfl rfl rfl rfl ?_; clear hst; intro w hst) | (refine wl_guard (by rfl) ?_) | (refine kb 3 hst rfl rfl ?_; clear hst; intro b3 w hb3 hst)); try simp only [pz, pn, sz, sc])
      refine bp_t rfl rfl (by rfl) ⟨?_, hst.keeps⟩
      rfl
    | true =>
      have hl2 : s.toList = c :: l := by rw [toList_data, hl]
      have hv' := Lib.hid hv
      clear hcon' hv hl
      by_cases h0 : c :: l = [48]
      · have h2 : (s.toList == [48]) = true := by rw [hl2, h0]; rfl
        have hv2 := hl2
        rw [h0]
        clear hl2 h0 hv2
        go_enter Tryd.func33, Tryd.ntmps33
        go_wp2_with ((first | (refine kg gf50 hst (fun w hst => hcon _ w (hst.own _ _ (by simp))) rfl rfl rfl rfl ?_; clear hst; intro w hst) | (refine wl_guard (by rfl) ?_) | (refine kb 3 hst rfl rfl ?_; clear hst; intro b3 w hb3 hst)); try simp only [pz, pn, sz, sc])
        refine bp_t rfl rfl (by rfl) ⟨?_, hst.keeps⟩
        rfl
      · have h2 : (s.toList == [48]) = false := by rw [hl2]; simpa using h0
        have h3 : ((c.toNat : Int) != 48) = (c != 48) := by
          rw [Bool.eq_iff_iff, bne_iff_ne, bne_iff_ne]
          constructor
          · intro h hc; subst hc; exact h rfl
          · intro h hc
            apply h
            apply UInt8.toNat_inj.1
            have : c.toNat = 48 := by omega
            rw [this]; rfl
        have h4 : (c :: l == [48]) = false := by simpa using h0
        have h4' := Lib.hid h4
        clear hl2 h0 h4
        go_enter Tryd.func33, Tryd.ntmps33
        go_wp2_with ((first | (refine kg gf50 hst (fun w hst => hcon _ w (hst.own _ _ (by simp))) rfl rfl rfl rfl ?_; clear hst; intro w hst) | (refine wl_guard (by rfl) ?_; refine wl_strindex (k := .i64) (j := 0) (by kernel_rfl) rfl rfl (by rfl) (by rfl) hv'.out ?_; (try simp only [pz, pn, sz, sc])) | (refine wl_guard (by rfl) ?_) | (refine kb 3 hst rfl rfl ?_; clear hst; intro b3 w hb3 hst)); try simp only [pz, pn, sz, sc])
        refine bp_t rfl rfl (by rfl) ⟨?_, hst.keeps⟩
        rw [h4'.out]
        cases hc : c != 48 <;> simp_all

end Go.Proofs.YtojjmcghcgidlaaDoor.Rd
