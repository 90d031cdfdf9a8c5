/- digits.ParseInt. -/
import Derived.Test.YtojjmcghcgidlaaDoorRgA
import Derived.Test.YtojjmcghcgidlaaDoorRdN2
import Derived.Lib.AtoiErrMem
namespace Go.Proofs.YtojjmcghcgidlaaDoor.Rd
open Go Go.RowKit
set_option linter.unusedVariables false
set_option linter.unusedSimpArgs false
set_option maxRecDepth 100000

/-- The variable ErrRange holds an error. -/
def ErrV (w : World) : Prop := ∃ tp p, w.var? Tryd.prog "strconv.ErrRange" = some #[.iface tp p]
theorem var_keep {P : Program} {w w' : World} {n : String} {cs : Array Value} (h : w.var? P n = some cs) (hk : Keeps [] w w') : w'.var? P n = some cs := by
  unfold World.var? at *
  cases hg : P.globalNamed n with
  | none => simp [hg] at h
  | some g =>
    simp only [hg, Option.bind_some] at h ⊢
    have hlt : g < w.heap.size := by
      rcases Nat.lt_or_ge g w.heap.size with h' | h'
      · exact h'
      · rw [Array.getElem?_eq_none h'] at h; simp at h
    rw [hk.block g hlt (by simp)]
    exact h
theorem ErrV.keep {w w' : World} (h : ErrV w) (k : Keeps [] w w') : ErrV w' := by
  obtain ⟨tp, p, h⟩ := h
  exact ⟨tp, p, var_keep h k⟩

theorem strings_CutPrefix (s p : ByteArray) : Gives Tryd.prog 32 #[.string s, .string p] (.tuple #[.string ⟨(Lib.trimPrefix s.data.toList p.data.toList).toArray⟩, .bool (Lib.hasPrefix s.data.toList p.data.toList)]) :=
  Gives.of_same fun w => Tryd.strings_CutPrefix s p w

theorem cut_minus (l : List UInt8) : Lib.hasPrefix l [45] = sgn l ∧ Lib.trimPrefix l [45] = mag l := by
  have h1 : Lib.hasPrefix l [45] = sgn l := by
    unfold Lib.hasPrefix sgn
    cases l with
    | nil => rfl
    | cons c r =>
      rw [Bool.eq_iff_iff]
      simp [List.isPrefixOf]
      exact eq_comm
  refine ⟨h1, ?_⟩
  unfold Lib.trimPrefix mag
  rw [h1]
  cases sgn l <;> simp

theorem atoi_ok (s : ByteArray) (n : Int) (hs : s.size ≤ 1000000) (h : Lib.atoiAll s.data.toList = .ok n) : Gives Tryd.prog 34 #[.string s] (.tuple #[.int .i64 n, .nilIface]) := fun w =>
  (Tryd.strconv_Atoi_ok s (by omega) n h w).mono fun e w' ⟨h1, h2⟩ => ⟨h1, by
    rcases h2 with h2 | ⟨t, h2⟩
    · rw [h2]; exact .refl _ _
    · rw [h2]; exact Keeps.of_below (Lib.bytesWorld_below _ _ _)⟩
theorem atoi_range (s : ByteArray) (hs : s.size ≤ 1000000) (h : Lib.atoiAll s.data.toList = .range) (w : World) (hv : ErrV w) :
    Calls Tryd.prog 34 #[.string s] w fun e w' => ∃ v, e = .returned v ∧ ((∃ (m : Int) (T : TypeId) (N : Nat), v = .tuple #[.int .i64 m, .iface T (.pointer (some ⟨N, 0, none⟩))]) ∧ Keeps [] w w') := by
  obtain ⟨tp, p, hv⟩ := hv
  refine (Tryd.strconv_Atoi_range_var s (by omega) h tp p w hv).mono fun e w' ⟨N, h1, _, _, h2⟩ => ⟨_, h1, ⟨_, _, N, rfl⟩, Keeps.of_below h2⟩

theorem eq_str (s : ByteArray) (l : List UInt8) : (s.toList == l) = (s.data.toList == l) := by rw [toList_data]

set_option maxHeartbeats 8000000 in
theorem digits_ParseInt (s : ByteArray) (hs : s.size ≤ 1000000) (w0 : World) (hv : ErrV w0) : GivesAt Tryd.prog 16 #[.string s] (.tuple #[.int .i64 (pint s.data.toList).1, .int .i64 ((pint s.data.toList).2 : Nat)]) w0 := by
  have hst := St.start [] w0
  have hcut := strings_CutPrefix s ⟨#[45]⟩
  rw [show (⟨#[45]⟩ : ByteArray).data.toList = [45] from rfl, (cut_minus _).1, (cut_minus _).2] at hcut
  have hpl := digits_plain_10 ⟨(mag s.data.toList).toArray⟩
  have e1 : (⟨(mag s.data.toList).toArray⟩ : ByteArray).data.toList = mag s.data.toList := by simp
  rw [e1] at hpl
  have hok := fun n => atoi_ok s n hs
  have hrange := fun w (hk : Keeps [] w0 w) h => atoi_range s hs h w (hv.keep hk)
  have hap := atoi_pint s.data.toList
  have hz : ((⟨(mag s.data.toList).toArray⟩ : ByteArray).toList == [48]) = (mag s.data.toList == [48]) := by rw [eq_str, e1]
  obtain ⟨l, hl⟩ : ∃ l, l = s.data.toList := ⟨_, rfl⟩
  rw [← hl] at hcut hpl hok hrange hap hz ⊢
  have epi : pint l = pint l := rfl
  conv at epi => rhs; unfold pint
  generalize (⟨(mag l).toArray⟩ : ByteArray) = sm at hcut hpl hz
  clear e1 hl hv
  cases hp : isPlain 10 (mag l) with
  | false =>
    rw [hp] at hpl epi
    rw [epi]
    clear hap hok hrange epi hz
    generalize sgn l = sg at hcut
    go_enter Tryd.func16, Tryd.ntmps16
    go_wp2_with ((first | (refine kf gf32 hst (hcut) rfl rfl rfl rfl ?_; clear hst; intro w hst) | (refine kf gf33 hst (hpl) rfl rfl rfl rfl ?_; clear hst; intro w hst)); try simp only [pz, pn, sz, sc])
    refine bp_tt rfl rfl (by rfl) (by rfl) ⟨?_, hst.keeps⟩
    rfl
  | true =>
    rw [hp] at hpl
    cases hsz : sgn l && mag l == [48] with
    | true =>
      rw [hp, hsz] at epi
      rw [epi]
      have hsg : sgn l = true := by simp only [Bool.and_eq_true] at hsz; exact hsz.1
      have hz' : (sm.toList == [48]) = true := by rw [hz]; simp only [Bool.and_eq_true] at hsz; exact hsz.2
      rw [hsg] at hcut
      clear hap hok hrange epi hz hsz hsg hp
      go_enter Tryd.func16, Tryd.ntmps16
      go_wp2_with ((first | (refine kf gf32 hst (hcut) rfl rfl rfl rfl ?_; clear hst; intro w hst) | (refine kf gf33 hst (hpl) rfl rfl rfl rfl ?_; clear hst; intro w hst)); try simp only [pz, pn, sz, sc])
      refine bp_tt rfl rfl (by rfl) (by rfl) ⟨?_, hst.keeps⟩
      rfl
    | false =>
      have ha := hap hp hsz
      have hd : sgn l = false ∨ (sgn l = true ∧ (sm.toList == [48]) = false) := by
        rw [hz]
        cases h1 : sgn l
        · exact .inl rfl
        · rw [h1, Bool.true_and] at hsz; exact .inr ⟨rfl, hsz⟩
      have h4 : (pint l).2 = 0 ∨ ((pint l).2 = 4 ∧ (pint l).1 = 0) := by
        rw [hp, hsz] at epi
        rw [epi]
        simp only [Bool.not_false, Bool.and_self, if_true]
        split <;> split <;> simp
      clear hap epi hz hsz hp
      generalize pint l = pi at ha h4
      obtain ⟨pn, pe⟩ := pi
      simp only at ha h4
      rcases h4 with rfl | ⟨rfl, rfl⟩
      · rw [if_pos rfl] at ha
        have hc := hok pn ha
        clear hok hrange ha
        rcases hd with h1 | ⟨h1, h2⟩
        · rw [h1] at hcut
          clear h1
          go_enter Tryd.func16, Tryd.ntmps16
          go_wp2_with ((first | (refine kf gf32 hst (hcut) rfl rfl rfl rfl ?_; clear hst; intro w hst) | (refine kf gf33 hst (hpl) rfl rfl rfl rfl ?_; clear hst; intro w hst) | (refine kf gf34 hst (hc) rfl rfl rfl rfl ?_; clear hst; intro w hst)); try simp only [pz, pn, sz, sc])
          refine bp_tt rfl rfl (by rfl) (by rfl) ⟨?_, hst.keeps⟩
          rfl
        · rw [h1] at hcut
          clear h1
          go_enter Tryd.func16, Tryd.ntmps16
          go_wp2_with ((first | (refine kf gf32 hst (hcut) rfl rfl rfl rfl ?_; clear hst; intro w hst) | (refine kf gf33 hst (hpl) rfl rfl rfl rfl ?_; clear hst; intro w hst) | (refine kf gf34 hst (hc) rfl rfl rfl rfl ?_; clear hst; intro w hst)); try simp only [pz, pn, sz, sc])
          refine bp_tt rfl rfl (by rfl) (by rfl) ⟨?_, hst.keeps⟩
          rfl
      · rw [if_neg (by omega)] at ha
        have hr := fun w hk => hrange w hk ha
        clear hok hrange ha
        rcases hd with h1 | ⟨h1, h2⟩
        · rw [h1] at hcut
          clear h1
          go_enter Tryd.func16, Tryd.ntmps16
          go_wp2_with ((first | (refine kf gf32 hst (hcut) rfl rfl rfl rfl ?_; clear hst; intro w hst) | (refine kf gf33 hst (hpl) rfl rfl rfl rfl ?_; clear hst; intro w hst) | (refine wl_callR gf34 (hr _ hst.keeps) rfl rfl rfl rfl rfl ?_; intro v w' hv; obtain ⟨⟨m, T, N, rfl⟩, hk⟩ := hv; replace hst := hst.keep hk; clear hk)); try simp only [pz, pn, sz, sc])
          refine bp_tt rfl rfl (by rfl) (by rfl) ⟨?_, hst.keeps⟩
          rfl
        · rw [h1] at hcut
          clear h1
          go_enter Tryd.func16, Tryd.ntmps16
          go_wp2_with ((first | (refine kf gf32 hst (hcut) rfl rfl rfl rfl ?_; clear hst; intro w hst) | (refine kf gf33 hst (hpl) rfl rfl rfl rfl ?_; clear hst; intro w hst) | (refine wl_callR gf34 (hr _ hst.keeps) rfl rfl rfl rfl rfl ?_; intro v w' hv; obtain ⟨⟨m, T, N, rfl⟩, hk⟩ := hv; replace hst := hst.keep hk; clear hk)); try simp only [pz, pn, sz, sc])
          refine bp_tt rfl rfl (by rfl) (by rfl) ⟨?_, hst.keeps⟩
          rfl

end Go.Proofs.YtojjmcghcgidlaaDoor.Rd
