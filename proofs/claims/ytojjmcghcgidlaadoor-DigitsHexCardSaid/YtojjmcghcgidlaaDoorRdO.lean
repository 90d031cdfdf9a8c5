/- What digits.text answers. -/
import Derived.Test.YtojjmcghcgidlaaDoorRdN
import Derived.Test.YtojjmcghcgidlaaDoorRdN2
import Derived.Test.YtojjmcghcgidlaaDoorRdK
namespace Go.Proofs.YtojjmcghcgidlaaDoor.Rd
open Go Go.RowKit
set_option linter.unusedVariables false
set_option linter.unusedSimpArgs false
set_option maxRecDepth 100000

theorem GRow.form {w0 : World} {Lg : List (Nat × Obj)} {e : TypeId} {sz n : Nat} {v : Value} {xs : List Value} (h : GRow w0 Lg e sz v n xs) : ∃ a c, v = .slice a n c := by
  obtain ⟨_, ⟨_, rfl, rfl⟩ | ⟨g, cap, cur, _, rfl, _⟩⟩ := h
  · exact ⟨_, _, rfl⟩
  · exact ⟨_, _, rfl⟩
theorem GRow.block {w0 : World} {Lg : List (Nat × Obj)} {e : TypeId} {n : Nat} {v : Value} {xs : List Value} (h : GRow w0 Lg e 1 v n xs) (h0 : 0 < n) : ∃ g cap cur, Lg = [(g, .cells cur e (0, 0))] ∧ v = .slice (some ⟨g, 0, none⟩) n cap ∧ w0.heap.size ≤ g ∧ n ≤ cap ∧ cap ≤ maxLen ∧ cur.size = cap ∧ ∀ j, j < n → cur[j]? = xs[j]? := by
  obtain ⟨hl, ⟨_, _, rfl⟩ | ⟨g, cap, cur, rfl, rfl, h1, h2, h3, h4, h5⟩⟩ := h
  · omega
  · refine ⟨g, cap, cur, rfl, rfl, h1, h2, h3, by omega, fun j hj => ?_⟩
    rw [← h5, List.getElem?_take, if_pos (by omega), Array.getElem?_toList]

set_option maxHeartbeats 8000000 in
theorem digits_text (n d k0 : Nat) (hn : n < M) (hd : 2 ≤ d) (hd16 : d ≤ 16) (hk0 : NumDig d n k0)
    (hdiv : ∀ hi lo, hi < d → lo < B → Gives Tryd.prog 53 #[.int .u64 (hi : Nat), .int .u64 (lo : Nat), .int .u64 d] (.tuple #[.int .u64 ((hi * B + lo) / d : Nat), .int .u64 ((hi * B + lo) % d : Nat)])) :
    Gives Tryd.prog 18 #[W n, .int .u64 d] (.string ⟨(txt d n k0).toArray⟩) := by
  intro w0
  have hst := St.start [] w0
  have hdivide := fun m (hm : m < M) => digits_divide m d hm (by omega) (by rw [B_val]; omega) hdiv
  go_enter Tryd.func18, Tryd.ntmps18
  go_wp2_with ((first | (refine kb 2 hst rfl rfl ?_; clear hst; intro b2 w hb2 hst) | (refine kl hst ta24 rfl ?_) | (refine kt hst ta24 rfl rfl ?_; clear hst; intro w hst) | (refine wl_slice1 (o := ⟨some 16, _, _, _, _, _⟩) hst ts65 te5 rfl rfl (by (simp only [eval_lit, eval_k, eval_f, eval_g, List.getD_cons_succ, List.getD_cons_zero]) <;> rfl) (by rfl) ?_; clear hst; intro b16 w hb16 hst) | (refine wl_eqlW (m := _) (n := _) tr24 tc22 (by kernel_rfl) (by kernel_rfl) rfl rfl (by rfl) (by first | rfl | exact W_zero.symm) (by assumption) (by first | assumption | decide) ?_)); try simp only [pz, pn, sz, sc])
  go_loopw [5] (fun v wr => ∃ (k : Nat) (Lg : List (Nat × Obj)), (k = 0 ∨ n / d ^ k ≠ 0) ∧ GRow w0 Lg 5 1 v k (dcs d n k) ∧ St w0 [] ((b2, .cells (wc 8 (n / d ^ k)) 24) :: Lg) wr) (fun v _ => match v with | .slice _ l _ => 600 - l | _ => 0)
  case atStart =>
    exact ⟨0, [], .inl rfl, GRow.nil _ _ _, by simpa using hst⟩
  case round =>
    clear hst
    obtain ⟨k, Lg, hk, hgr, hst⟩ := hrel
    have hlt : n / d ^ k < M := Nat.lt_of_le_of_lt (Nat.div_le_self _ _) hn
    have hlt' : n / d ^ (k + 1) < M := Nat.lt_of_le_of_lt (Nat.div_le_self _ _) hn
    have hM : 0 < M := by decide
    have hc := hdivide (n / d ^ k) hlt
    rw [Nat.div_div_eq_div_mul, show d ^ k * d = d ^ (k + 1) from rfl] at hc
    have hk5 : k < 512 := by
      rcases hk with h | h
      · omega
      · exact pow_bound hd hn h
    have hx := hexs_get (n / d ^ k % d) (by have := Nat.mod_lt (n / d ^ k) (show 0 < d by omega); omega)
    have hds := dcs_succ d n k
    generalize hm1 : n / d ^ k = m1 at *
    generalize hm2 : n / d ^ (k + 1) = m2 at *
    generalize hr : m1 % d = r at *
    generalize hxs : dcs d n k = xs at *
    have hm1' := Lib.hid hm1
    have hm2' := Lib.hid hm2
    have hr' := Lib.hid hr
    have hxs' := Lib.hid hxs
    have hds' := Lib.hid hds
    have hx' := Lib.hid hx
    have hk' := Lib.hid hk
    have hke : m2 = 0 → k0 = k + 1 := fun h => NumDig.unique hd hk0 ⟨by omega, by rw [hm2]; exact h, by rcases hk with h | h; exact .inl (by omega); exact .inr (by simpa [hm1] using h)⟩
    have hke' := Lib.hid hke
    clear hke
    clear hx hk hd hd16 hk0 hn hm1 hm2 hr hxs hds
    have hgr0 := hgr
    by_cases h0 : m2 = 0
    · subst h0
      obtain rfl := hke'.out rfl
      have h0' : decide ((0 : Nat) = 0) = true := by simp
      have hcur' := Lib.hid (fun (cur : Array Value) (j : Nat) (hj : j < k + 1) (hg5 : cur[j]? = (xs ++ [Value.int .u8 ((hexu r).toNat : Nat)])[j]?) => (show cur[j]? = some (.int .u8 (dgt d n j : Nat)) by
        rw [hg5, ← hds'.out, dcs_get d n (k + 1) j hj]; rfl))
      go_wp2_with ((first | (refine kf gf37 hst (hc) rfl rfl rfl rfl ?_; clear hst; intro w hst) | (refine wl_append1 (bytes := 1) (o := ⟨some 17, _, _, _, _, _⟩) hgr hst ts65 te5 (show BytesT _ _ _ by unfold BytesT; kernel_rfl) rfl rfl (by rfl) (by rfl) (by repeat (first | exact Tl.here | apply Tl.there)) (by rfl) (by rfl) (by omega) (by omega) ?_; clear hst hgr; intro v17 Lg w hgr hst; (try simp only [List.cons_append, List.nil_append] at hst); (try simp only [pz, pn, sz, sc])) | (refine wl_strindex (k := .u64) (s := hexs) (by kernel_rfl) rfl rfl (by rfl) (by rfl) hx'.out ?_; (try simp only [pz, pn, sz, sc])) | (obtain ⟨g, cap, cur, rfl, rfl, hg1, hg2, hg3, hg4, hg5⟩ := hgr.block (by omega); refine wl_callE gf38 hst (slices_Reverse' g (k + 1) cap _ (dgt d n) cur (by omega) (fun j hj => hcur'.out cur j hj (hg5 j hj))) rfl rfl rfl rfl rfl (by repeat (first | exact Tl.here | apply Tl.there)) (by first | exact Or.inl (by assumption) | (refine Or.inr ?_; simp)) ?_; clear hst hg5; intro ob' w hob hst; obtain ⟨cur', rfl, hrev⟩ := hob; have hrev' := Lib.hid (show ∀ j (hj : j < (txt d n (k + 1)).length), cur'[j]? = some (.int .u8 ((txt d n (k + 1))[j].toNat : Nat)) from (fun j hj => by rw [txt_get]; exact hrev j (by rw [txt_length] at hj; exact hj))); clear hrev; simp only [List.cons_append, List.nil_append] at hst; (try simp only [pz, pn, sz, sc])) | (refine wl_string (src := 65) (dst := 9) (e := 5) (txt d n (k + 1)) hst (show SliceT _ _ _ by unfold SliceT; kernel_rfl) (by kernel_rfl) (by kernel_rfl) rfl rfl (txt_length _ _ _) (by rfl) (by repeat (first | exact List.Mem.head _ | refine List.Mem.tail _ ?_)) (hrev'.out) ?_; (try simp only [pz, pn, sz, sc])) | (refine kb 2 hst rfl rfl ?_; clear hst; intro b2 w hb2 hst) | (refine kl hst ta24 rfl ?_) | (refine kt hst ta24 rfl rfl ?_; clear hst; intro w hst) | (refine wl_slice1 (o := ⟨some 16, _, _, _, _, _⟩) hst ts65 te5 rfl rfl (by (simp only [eval_lit, eval_k, eval_f, eval_g, List.getD_cons_succ, List.getD_cons_zero]) <;> rfl) (by rfl) ?_; clear hst; intro b16 w hb16 hst) | (refine wl_eqlW (m := _) (n := _) tr24 tc22 (by kernel_rfl) (by kernel_rfl) rfl rfl (by rfl) (by first | rfl | exact W_zero.symm) (by assumption) (by first | assumption | decide) ?_)); try simp only [pz, pn, sz, sc])
      refine bp_t rfl rfl (by rfl) ⟨?_, hst.keeps⟩
      rfl
    · have h0' : decide (m2 = 0) = false := by simpa using h0
      go_wp2_with ((first | (refine kf gf37 hst (hc) rfl rfl rfl rfl ?_; clear hst; intro w hst) | (refine wl_append1 (bytes := 1) (o := ⟨some 17, _, _, _, _, _⟩) hgr hst ts65 te5 (show BytesT _ _ _ by unfold BytesT; kernel_rfl) rfl rfl (by rfl) (by rfl) (by repeat (first | exact Tl.here | apply Tl.there)) (by rfl) (by rfl) (by omega) (by omega) ?_; clear hst hgr; intro v17 Lg w hgr hst; (try simp only [List.cons_append, List.nil_append] at hst); (try simp only [pz, pn, sz, sc])) | (refine wl_strindex (k := .u64) (s := hexs) (by kernel_rfl) rfl rfl (by rfl) (by rfl) hx'.out ?_; (try simp only [pz, pn, sz, sc])) | (refine kb 2 hst rfl rfl ?_; clear hst; intro b2 w hb2 hst) | (refine kl hst ta24 rfl ?_) | (refine kt hst ta24 rfl rfl ?_; clear hst; intro w hst) | (refine wl_slice1 (o := ⟨some 16, _, _, _, _, _⟩) hst ts65 te5 rfl rfl (by (simp only [eval_lit, eval_k, eval_f, eval_g, List.getD_cons_succ, List.getD_cons_zero]) <;> rfl) (by rfl) ?_; clear hst; intro b16 w hb16 hst) | (refine wl_eqlW (m := _) (n := _) tr24 tc22 (by kernel_rfl) (by kernel_rfl) rfl rfl (by rfl) (by first | rfl | exact W_zero.symm) (by assumption) (by first | assumption | decide) ?_)); try simp only [pz, pn, sz, sc])
      obtain ⟨a, c, rfl⟩ := hgr0.form
      obtain ⟨a', c', rfl⟩ := hgr.form
      refine ⟨⟨k + 1, Lg, .inr (by rw [hm2'.out]; exact h0), by rw [hds'.out]; exact hgr, by rw [hm2'.out]; exact hst⟩, ?_⟩
      simp only []
      omega

theorem digits_Hex (n k : Nat) (hn : n < M) (hk : NumDig 16 n k) : Gives Tryd.prog 7 #[W n] (.string ⟨(txt 16 n k).toArray⟩) := by
  intro w0
  have hst := St.start [] w0
  have hc := digits_text n 16 k hn (by omega) (by omega) hk div64_16
  go_enter Tryd.func7, Tryd.ntmps7
  go_wp2_with ((first | (refine kf gf18 hst (hc) rfl rfl rfl rfl ?_; clear hst; intro w hst) | (refine kb 1 hst rfl rfl ?_; clear hst; intro b1 w hb1 hst) | (refine kl hst ta24 rfl ?_)); try simp only [pz, pn, sz, sc])
  refine bp_t rfl rfl (by rfl) ⟨?_, hst.keeps⟩
  rfl
theorem digits_Decimal (n k : Nat) (hn : n < M) (hk : NumDig 10 n k) : Gives Tryd.prog 12 #[W n] (.string ⟨(txt 10 n k).toArray⟩) := by
  intro w0
  have hst := St.start [] w0
  have hc := digits_text n 10 k hn (by omega) (by omega) hk div64_10
  go_enter Tryd.func12, Tryd.ntmps12
  go_wp2_with ((first | (refine kf gf18 hst (hc) rfl rfl rfl rfl ?_; clear hst; intro w hst) | (refine kb 1 hst rfl rfl ?_; clear hst; intro b1 w hb1 hst) | (refine kl hst ta24 rfl ?_)); try simp only [pz, pn, sz, sc])
  refine bp_t rfl rfl (by rfl) ⟨?_, hst.keeps⟩
  rfl

end Go.Proofs.YtojjmcghcgidlaaDoor.Rd
