/- What the reference's plain of chapter 4 answers. -/
import Derived.Test.YtojjmcghcgidlaaDoorReH
namespace Go.Proofs.YtojjmcghcgidlaaDoor.Rd
open Go Go.RowKit
set_option linter.unusedVariables false
set_option linter.unusedSimpArgs false
set_option maxRecDepth 100000

theorem val_u8 (c : UInt8) : c.toNat ≤ 255 := by have := c.toNat_lt; omega
theorem isPlain_bad (base : Nat) (l : List UInt8) (i : Nat) (c : UInt8) (h : l[i]? = some c) (hv : ¬ val c.toNat < base) : isPlain base l = false := by
  unfold isPlain
  have : (l.all fun c => decide (val c.toNat < base)) = false := by
    rw [List.all_eq_false]
    exact ⟨c, List.mem_of_getElem? h, by simpa using hv⟩
  rw [this]; simp
theorem isPlain_good (base : Nat) (c : UInt8) (l : List UInt8) (h : ∀ j < (c :: l).length, ∀ d, (c :: l)[j]? = some d → val d.toNat < base) : isPlain base (c :: l) = (c != 48 || decide (l.length = 0)) := by
  unfold isPlain
  have : ((c :: l).all fun c => decide (val c.toNat < base)) = true := by
    rw [List.all_eq_true]
    intro d hd
    obtain ⟨j, hj, e⟩ := List.mem_iff_getElem.1 hd
    have := h j hj d (by rw [List.getElem?_eq_getElem hj, e])
    simpa using this
  rw [this]
  cases l with
  | nil =>
    by_cases hc : c = 48
    · subst hc; rfl
    · simp [hc]
  | cons e l =>
    by_cases hc : c = 48
    · subst hc; simp
    · rw [Bool.eq_iff_iff]; simp [hc, bne_iff_ne]

set_option maxHeartbeats 8000000 in
theorem ref04_plain (s : ByteArray) (base : Nat) (hb : base ≤ 16) (hsz : s.size ≤ 1000000) : Gives Tryd.prog 27 #[.string s, .int .i64 base] (.bool (isPlain base s.data.toList)) := by
  intro w0
  have hst := St.start [] w0
  have hdig := fun (c : UInt8) => ref04_digit c.toNat base (val_u8 c) hb
  obtain ⟨l, hl⟩ : ∃ l, s.data.toList = l := ⟨_, rfl⟩
  have hlen : s.size = l.length := by rw [← hl]; simp
  have hget : ∀ i, s.data[i]? = l[i]? := fun i => by rw [← hl, Array.getElem?_toList]
  rw [hl]
  obtain ⟨N, hN⟩ : ∃ N, N = l.length := ⟨_, rfl⟩
  have hNs : s.size = N := by omega
  have hNs' : s.toList.length = N := by rw [toList_data, hl, hN]
  have hget' := Lib.hid hget
  have hlen' := Lib.hid hlen
  have hN' := Lib.hid hN
  have hNl : N ≤ 1000000 := by omega
  clear hget hlen hl hsz hN
  go_enter Tryd.func27, Tryd.ntmps27
  go_wp2_with ((first | (refine wl_guard (by rfl) ?_)); try simp only [pz, pn, sz, sc])
  go_loopw [5] (fun vi wr => ∃ (i : Nat), i ≤ N ∧ vi = .int .i64 i ∧ (∀ j < i, ∀ d, l[j]? = some d → val d.toNat < base) ∧ St w0 [] [] wr) (fun vi _ => N - (intOf vi).toNat)
  case atStart => exact ⟨0, by omega, rfl, fun j hj => by omega, hst⟩
  case round =>
    clear hst
    obtain ⟨i, hi, rfl, hall, hst⟩ := hrel
    by_cases hlt : i < N
    · have hc : l[i]? = some (l[i]'(by rw [← hN'.out]; exact hlt)) := List.getElem?_eq_getElem _
      generalize l[i]'(by rw [← hN'.out]; exact hlt) = c at hc
      have hv : s.data[i]? = some c := by rw [hget'.out, hc]
      have hd := hdig c
      have hv' := Lib.hid hv
      have h1 : (i : Int) < (N : Int) := by omega
      have h0 : (0 : Int) ≤ (i : Int) := by omega
      by_cases hok : val c.toNat < base
      · rw [if_pos hok] at hd
        have hall2 : ∀ j < i + 1, ∀ d, l[j]? = some d → val d.toNat < base := fun j hj d hd => by
          by_cases hji : j = i
          · subst hji; rw [hc] at hd; obtain rfl := Option.some.inj hd; exact hok
          · exact hall j (by omega) d hd
        have hall2' := Lib.hid hall2
        have hvn : ¬ (((val c.toNat : Nat) : Int) < 0) := by omega
        clear hall hall2 hc hv hok
        go_wp2_with ((first | (refine kf gf29 hst (hd) rfl rfl rfl rfl ?_; clear hst; intro w hst) | (refine wl_strindex (k := .i64) (j := i) (by kernel_rfl) rfl rfl (by rfl) (by rfl) hv'.out ?_; (try simp only [pz, pn, sz, sc])) | (refine wl_guard (by rfl) ?_)); try simp only [pz, pn, sz, sc])
        go_roundw
        case rel => exact ⟨i + 1, by omega, by go_num, hall2'.out, hst⟩
        case measure => simp [intOf]; omega
      · rw [if_neg hok] at hd
        have hbad := Lib.hid (isPlain_bad base l i c hc hok)
        clear hall hc hv hok
        go_wp2_with ((first | (refine kf gf29 hst (hd) rfl rfl rfl rfl ?_; clear hst; intro w hst) | (refine wl_strindex (k := .i64) (j := i) (by kernel_rfl) rfl rfl (by rfl) (by rfl) hv'.out ?_; (try simp only [pz, pn, sz, sc])) | (refine wl_guard (by rfl) ?_)); try simp only [pz, pn, sz, sc])
        refine bp_t rfl rfl (by rfl) ⟨?_, hst.keeps⟩
        rw [hbad.out]; rfl
    · have hie : i = N := by omega
      subst hie
      have h1 : ¬ ((i : Int) < (i : Int)) := by omega
      rcases l with _ | ⟨c, l⟩
      · have hi0 : i = 0 := by have := hN'.out; simpa using this
        subst hi0
        have he := Lib.hid (show isPlain base [] = false by rfl)
        clear hall
        go_wp2_with ((first | (refine wl_guard (by rfl) ?_)); try simp only [pz, pn, sz, sc])
        refine bp_t rfl rfl (by rfl) ⟨?_, hst.keeps⟩
        rw [he.out]; rfl
      · have hg := isPlain_good base c l (fun j hj d hd => hall j (by have := hN'.out; omega) d hd)
        have hg' := Lib.hid hg
        have hv : s.data[0]? = some c := by rw [hget'.out]; rfl
        have hv' := Lib.hid hv
        have hiv : i = l.length + 1 := by have := hN'.out; simpa using this
        have hi0 : (0 : Int) < (i : Int) := by omega
        have e1 : ((i : Int) == 1) = decide (l.length = 0) := by
          rw [Bool.eq_iff_iff, beq_iff_eq, decide_eq_true_eq]; omega
        have e2 : ((c.toNat : Int) != 48) = (c != 48) := by
          rw [Bool.eq_iff_iff, bne_iff_ne, bne_iff_ne]
          constructor
          · intro h hc; subst hc; exact h rfl
          · intro h hc
            apply h
            apply UInt8.toNat_inj.1
            have : c.toNat = 48 := by omega
            rw [this]; rfl
        generalize (c != 48) = p at *
        generalize decide (l.length = 0) = q at *
        clear hall hg hv hiv
        cases p
        · go_wp2_with ((first | (refine wl_guard (by rfl) ?_; refine wl_strindex (k := .i64) (j := 0) (by kernel_rfl) rfl rfl (by rfl) (by rfl) hv'.out ?_; (try simp only [pz, pn, sz, sc])) | (refine wl_guard (by rfl) ?_)); try simp only [pz, pn, sz, sc])
          refine bp_t rfl rfl (by rfl) ⟨?_, hst.keeps⟩
          rw [hg'.out]; rfl
        · go_wp2_with ((first | (refine wl_guard (by rfl) ?_; refine wl_strindex (k := .i64) (j := 0) (by kernel_rfl) rfl rfl (by rfl) (by rfl) hv'.out ?_; (try simp only [pz, pn, sz, sc])) | (refine wl_guard (by rfl) ?_)); try simp only [pz, pn, sz, sc])
          refine bp_t rfl rfl (by rfl) ⟨?_, hst.keeps⟩
          rw [hg'.out]; rfl

end Go.Proofs.YtojjmcghcgidlaaDoor.Rd
