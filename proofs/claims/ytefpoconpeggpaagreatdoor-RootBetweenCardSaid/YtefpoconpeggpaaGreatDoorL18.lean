/- What fix.told, Root answer. -/
import Derived.Test.YtefpoconpeggpaaGreatDoorL17
namespace Go.Proofs.YtefpoconpeggpaaGreatDoor.Rd
open Go Go.RowKit
set_option linter.unusedVariables false
set_option linter.unusedSimpArgs false
set_option maxRecDepth 100000

theorem rom_do (b1 br : Nat) (c : Array Value) (hc : RomOk c) (E1 : TypeId) (hne : br ≠ b1) (w : World) (h1 : w.heap[b1]? = some (.cells #[.pointer (some ⟨br, 0, none⟩)] E1)) (hr : w.heap[br]? = some (.cells c 121)) :
    GivesT Tryz.prog 110 #[.pointer (some ⟨br, 0, none⟩), .func (.func 211) #[] #[.pointer (some ⟨b1, 0, none⟩)]] (.tuple #[]) [(br, .cells c 121)] [(br, .cells romF 121)] w := by
  rcases hc with rfl | rfl
  · have h := once_G 211 gf211 #[.pointer (some ⟨b1, 0, none⟩)] br 0 121 (romC 0 0 0 0 0) (fun cs2 w1 w2 => cs2 = romC 0 1 1 romR romT ∧ Keeps [br] w1 w2) w hr (romC_get _ _ _ _ _).1 (romC_get _ _ _ _ _).2.1
      (fun w1 hw1 k1 => by
        rw [romC_set1] at hw1
        refine (rom_ready_1 b1 br E1 hne w1 (by rw [k1.block b1 (lt_of_some h1) (by simpa using fun e => hne e.symm)]; exact h1) hw1).mono ?_
        rintro e w2 ⟨rfl, k2, own2⟩
        have hb2 := own2 br _ (List.mem_singleton.2 rfl)
        exact ⟨rfl, _, hb2, ⟨_, (romC_get _ _ _ _ _).1⟩, (romC_get _ _ _ _ _).2.1, rfl, k2⟩)
    refine Calls.mono h ?_
    rintro e w' ⟨rfl, cs2, w1, w2, ⟨rfl, k2⟩, k1, k3, hb'⟩
    rw [romC_set0, romC_set1] at hb'
    refine ⟨rfl, (k1.trans k2 (fun x hx _ => hx)).trans k3 (fun x hx _ => hx), fun b o hm => ?_⟩
    simp only [List.mem_singleton, Prod.mk.injEq] at hm
    obtain ⟨rfl, rfl⟩ := hm
    exact hb'
  · have c0 : w.cell? ⟨br, 0, none⟩ = some (.int .u32 1) := by rw [cell_of_row w br 0 romF _ _ hr]; exact (romC_get _ _ _ _ _).1
    refine (on_done ⟨br, 0, none⟩ 1 (by omega) _ w c0).mono ?_
    rintro e w' ⟨rfl, rfl⟩
    refine ⟨rfl, Keeps.refl _ _, fun b o hm => ?_⟩
    simp only [List.mem_singleton, Prod.mk.injEq] at hm
    obtain ⟨rfl, rfl⟩ := hm
    exact hr

set_option maxHeartbeats 1000000 in
theorem rom_ready (br : Nat) (c : Array Value) (hc : RomOk c) (w0 : World) (hr : w0.heap[br]? = some (.cells c 121)) :
    GivesT Tryz.prog 208 #[.pointer (some ⟨br, 0, none⟩)] (.tuple #[]) [(br, .cells c 121)] [(br, .cells romF 121)] w0 := by
  have hst := (St.start [br] w0).add hr (by simp)
  have hlt := lt_of_some hr
  have hdo := fun (b1 : Nat) (hne : br ≠ b1) (w : World) (h1 : w.heap[b1]? = some (.cells #[.pointer (some ⟨br, 0, none⟩)] 67)) (hr : w.heap[br]? = some (.cells c 121)) => rom_do b1 br c hc _ hne w h1 hr
  clear hr hc
  generalize romF = cf at *
  go_enter Tryz.func208, Tryz.ntmps208
  go_wp2_with ((first | (refine kT gf110 hst (fun w hst => hdo b1 (by omega) w (hst.own _ _ (by simp)) (hst.own _ _ (by simp))) rfl rfl rfl rfl ?_; clear hst; intro w hst) | (refine kb 1 hst rfl rfl ?_; clear hst; intro b1 w hb1 hst) | (refine kc hst tc67 rfl ?_)); try simp only [pz, pn, sz, sc])
  first | exact bp_0 rfl rfl (GivesT.of hst rfl (by simp)) | exact bp_0 rfl rfl ⟨rfl, hst.keeps, hst.own _ _ (by simp)⟩

set_option maxHeartbeats 1000000 in
theorem rom_ask (br : Nat) (c : Array Value) (hc : RomOk c) (i n v : Nat) (hi : i < n) (g : FuncId) (hg : GoF Tryz.prog g) (cap : Array Value) (w0 : World) (hr : w0.heap[br]? = some (.cells c 121))
    (hgf : ∀ w, Keeps [br] w0 w → w.heap[br]? = some (.cells romF 121) → GivesAt Tryz.prog g ([Value.int .i64 (i : Nat)] ++ cap.toList).toArray (.int .u64 (v : Nat)) w) :
    GivesT Tryz.prog 209 #[.pointer (some ⟨br, 0, none⟩), .int .i64 i, .int .i64 n, .func (.func g) #[] cap] (.tuple #[.int .u64 v, .bool true]) [(br, .cells c 121)] [(br, .cells romF 121)] w0 := by
  have hst := (St.start [br] w0).add hr (by simp)
  have hrd := fun (w : World) (h : w.heap[br]? = some (.cells c 121)) => rom_ready br c hc w h
  have i0 : ¬ ((i : Int) < 0) := by omega
  have i1 : ¬ ((n : Int) ≤ (i : Int)) := by omega
  clear hr hc
  generalize romF = cf at *
  go_enter Tryz.func209, Tryz.ntmps209
  go_wp2_with ((first | (refine kT gf208 hst (fun w hst => hrd w (hst.own _ _ (by simp))) rfl rfl rfl rfl ?_; clear hst; intro w hst) | (refine kg hg hst (fun w hst => hgf w hst.keeps (hst.own _ _ (by simp))) rfl rfl rfl rfl ?_; clear hst; intro w hst)); try simp only [pz, pn, sz, sc])
  first | exact bp_tt rfl rfl (by rfl) (by rfl) (GivesT.of hst rfl (by simp)) | exact bp_tt rfl rfl (by rfl) (by rfl) ⟨rfl, hst.keeps, hst.own _ _ (by simp)⟩

theorem romF_root (i : Nat) (hi : i < 96) : romF[68 + i]? = some (.int .u64 (rguessAt (i + 32) : Nat)) := by
  unfold romF romC
  rw [Array.getElem?_append_right (by simp; omega), Array.getElem?_append_right (by simp; omega)]
  simp only [wc_size]
  have e : 68 + i - (#[Value.int .u32 1, .int .i32 0, .int .u32 0, .int .i64 1] : Array Value).size - 64 = i := by
    show 68 + i - 4 - 64 = i; omega
  rw [e, wc_get _ _ _ hi]
  have hl : ∀ k, i < k → lb (lsum (fun i => rguessAt (i + 32)) k) i = rguessAt (i + 32) := by
    intro k
    induction k with
    | zero => intro h; omega
    | succ k ih =>
      intro h
      simp only [lsum]
      rw [lb_add_at _ _ _ _ (lsum_lt _ (fun i => rguess_lt _) k) (rguess_lt _)]
      by_cases e : i = k
      · rw [if_pos e, e]
      · rw [if_neg e]; exact ih (by omega)
  rw [show romT = lsum (fun i => rguessAt (i + 32)) 96 from rfl, hl 96 hi]
theorem rom_Root_1 (b2 br i : Nat) (hi : i < 96) (hne : br ≠ b2) (E2 : TypeId) (w0 : World) (h2 : w0.heap[b2]? = some (.cells #[.pointer (some ⟨br, 0, none⟩)] E2)) (hr : w0.heap[br]? = some (.cells romF 121)) :
    GivesAt Tryz.prog 210 #[.int .i64 i, .pointer (some ⟨b2, 0, none⟩)] (.int .u64 (rguessAt (i + 32) : Nat)) w0 := by
  have hst : St w0 [] [(br, .cells romF 121), (b2, .cells #[.pointer (some ⟨br, 0, none⟩)] E2)] w0 := ((St.start [] w0).add h2 (by simp)).add hr (by simpa using hne)
  have hg := romF_root i hi
  have i0 : (0 : Int) ≤ (i : Int) := by omega
  have i1 : (i : Int) < 96 := by omega
  clear h2 hr
  generalize romF = cf at *
  generalize rguessAt (i + 32) = v at *
  go_enter Tryz.func210, Tryz.ntmps210
  go_wp2_with ((first | (refine kc hst tc67 rfl ?_) | (refine kc hst tc22 rfl ?_)); try simp only [pz, pn, sz, sc])
  refine bp_t rfl rfl (by rfl) ⟨?_, hst.keeps⟩
  rfl

set_option maxHeartbeats 1000000 in
theorem rom_Root (br : Nat) (c : Array Value) (hc : RomOk c) (i : Nat) (h1 : 32 ≤ i) (h2 : i < 128) (w0 : World) (hr : w0.heap[br]? = some (.cells c 121)) :
    GivesT Tryz.prog 207 #[.pointer (some ⟨br, 0, none⟩), .int .i64 i] (.tuple #[.int .u64 (rguessAt i : Nat), .bool true]) [(br, .cells c 121)] [(br, .cells romF 121)] w0 := by
  have hst := (St.start [br] w0).add hr (by simp)
  have hlt := lt_of_some hr
  have hask := fun (b2 : Nat) (hne : br ≠ b2) (w : World) (q : w.heap[b2]? = some (.cells #[.pointer (some ⟨br, 0, none⟩)] 67)) (hr : w.heap[br]? = some (.cells c 121)) =>
    rom_ask br c hc (i - 32) 96 (rguessAt (i - 32 + 32)) (by omega) 210 gf210 #[.pointer (some ⟨b2, 0, none⟩)] w hr (fun w' k h => rom_Root_1 b2 br (i - 32) (by omega) hne _ w' (by rw [k.block b2 (lt_of_some q) (by simpa using fun e => hne e.symm)]; exact q) h)
  rw [Nat.sub_add_cancel h1, show ((i - 32 : Nat) : Int) = (i : Int) - 32 by omega] at hask
  have m1 : max (i : Int) 0 = (i : Int) := by omega
  have m2 : max 0 (i : Int) = (i : Int) := by omega
  clear hr hc
  generalize romF = cf at *
  generalize rguessAt i = v at *
  go_enter Tryz.func207, Tryz.ntmps207
  go_wp2_with ((first | (refine kT gf209 hst (fun w hst => hask b2 (by omega) w (hst.own _ _ (by simp)) (hst.own _ _ (by simp))) rfl rfl rfl rfl ?_; clear hst; intro w hst) | (refine kb 2 hst rfl rfl ?_; clear hst; intro b2 w hb2 hst) | (refine kc hst tc67 rfl ?_)); try simp only [pz, pn, sz, sc])
  first | exact bp_tt rfl rfl (by rfl) (by rfl) (GivesT.of hst rfl (by simp)) | exact bp_tt rfl rfl (by rfl) (by rfl) ⟨rfl, hst.keeps, hst.own _ _ (by simp)⟩

set_option maxHeartbeats 1000000 in
theorem rom_GuessRoot (br : Nat) (c : Array Value) (hc : RomOk c) (n : Nat) (h1 : 2 ^ 254 ≤ n) (h2 : n < 2 ^ 256) (w0 : World) (hr : w0.heap[br]? = some (.cells c 121)) :
    GivesT Tryz.prog 259 #[.pointer (some ⟨br, 0, none⟩), W n] (.tuple #[.int .u64 (rguessAt (n / 2 ^ 249) : Nat), .bool true]) [(br, .cells c 121)] [(br, .cells romF 121)] w0 := by
  have hst := (St.start [br] w0).add hr (by simp)
  have hnM : n < M := Nat.lt_trans h2 (small_M (by decide))
  have hlen := wide_Len n hnM
  have hbl : bl n = 255 ∨ bl n = 256 := by
    have a := bl_le.2 h2
    have b : ¬ bl n ≤ 254 := fun h => by have := bl_le.1 h; omega
    omega
  have hshr := wide_Shr n 249 hnM
  rw [show clampN 249 = 249 from rfl] at hshr
  have q1 : 32 ≤ n / 2 ^ 249 := by omega
  have q2 : n / 2 ^ 249 < 128 := by
    rw [Nat.div_lt_iff_lt_mul (by decide)]
    exact Nat.lt_of_lt_of_le h2 (by decide)
  have hlb : lb (n / 2 ^ 249) 0 = n / 2 ^ 249 := by rw [lb_zero, Nat.mod_eq_of_lt (by rw [B_val]; omega)]
  have hroot := fun (w : World) (h : w.heap[br]? = some (.cells c 121)) => rom_Root br c hc (lb (n / 2 ^ 249) 0) (by rw [hlb]; exact q1) (by rw [hlb]; exact q2) w h
  have hv : rguessAt (lb (n / 2 ^ 249) 0) = rguessAt (n / 2 ^ 249) := by rw [hlb]
  have hy : lb (n / 2 ^ 249) 0 < 128 := by rw [hlb]; exact q2
  clear hr hc h1 h2 hlb
  generalize romF = cf at *
  rw [hv] at hroot
  clear hv q1 q2
  generalize rguessAt (n / 2 ^ 249) = v at *
  generalize n / 2 ^ 249 = q at *
  rcases hbl with hbl | hbl
  · rw [hbl] at hlen
    clear hbl
    go_enter Tryz.func259, Tryz.ntmps259
    go_wp2_with ((first | (refine kf gf47 hst (hlen) rfl rfl rfl rfl ?_; clear hst; intro w hst) | (refine kf gf87 hst (hshr) rfl rfl rfl rfl ?_; clear hst; intro w hst) | (refine kT gf207 hst (fun w hst => hroot w (hst.own _ _ (by simp))) rfl rfl rfl rfl ?_; clear hst; intro w hst) | (refine kb 3 hst rfl rfl ?_; clear hst; intro b3 w hb3 hst) | (refine kl hst ta44 rfl ?_) | (refine ka 7 hst tz44 rfl rfl ?_; clear hst; intro b7 w hb7 hst) | (refine kt hst ta44 rfl rfl ?_; clear hst; intro w hst) | (refine kc hst tc22 rfl ?_)); try simp only [pz, pn, sz, sc])
    first | exact bp_tt rfl rfl (by rfl) (by rfl) (GivesT.of hst rfl (by simp)) | exact bp_tt rfl rfl (by rfl) (by rfl) ⟨rfl, hst.keeps, hst.own _ _ (by simp)⟩
  · rw [hbl] at hlen
    clear hbl
    go_enter Tryz.func259, Tryz.ntmps259
    go_wp2_with ((first | (refine kf gf47 hst (hlen) rfl rfl rfl rfl ?_; clear hst; intro w hst) | (refine kf gf87 hst (hshr) rfl rfl rfl rfl ?_; clear hst; intro w hst) | (refine kT gf207 hst (fun w hst => hroot w (hst.own _ _ (by simp))) rfl rfl rfl rfl ?_; clear hst; intro w hst) | (refine kb 3 hst rfl rfl ?_; clear hst; intro b3 w hb3 hst) | (refine kl hst ta44 rfl ?_) | (refine ka 7 hst tz44 rfl rfl ?_; clear hst; intro b7 w hb7 hst) | (refine kt hst ta44 rfl rfl ?_; clear hst; intro w hst) | (refine kc hst tc22 rfl ?_)); try simp only [pz, pn, sz, sc])
    first | exact bp_tt rfl rfl (by rfl) (by rfl) (GivesT.of hst rfl (by simp)) | exact bp_tt rfl rfl (by rfl) (by rfl) ⟨rfl, hst.keeps, hst.own _ _ (by simp)⟩

end Go.Proofs.YtefpoconpeggpaaGreatDoor.Rd

namespace Go.Proofs.YtefpoconpeggpaaGreatDoor.Rd
open Go Go.RowKit
set_option linter.unusedVariables false
set_option linter.unusedSimpArgs false
set_option maxRecDepth 100000

theorem fix_without (n a : Nat) (hn : n < M) (ha : a ≤ n) : Gives Tryz.prog 252 #[W n, W a] (W (n - a)) := by
  intro w0
  have hst := St.start [] w0
  have h := wide_Sub n a hn (by omega)
  rw [show (n + M - a) % M = n - a by rw [show n + M - a = n - a + M by omega, Nat.add_mod_right, Nat.mod_eq_of_lt (by omega)]] at h
  generalize n - a = s at *
  go_enter Tryz.func252, Tryz.ntmps252
  go_wp2_with ((first | (refine kf gf122 hst (h) rfl rfl rfl rfl ?_; clear hst; intro w hst) | (refine kb 2 hst rfl rfl ?_; clear hst; intro b2 w hb2 hst) | (refine kb 3 hst rfl rfl ?_; clear hst; intro b3 w hb3 hst) | (refine ka 4 hst tz44 rfl rfl ?_; clear hst; intro b4 w hb4 hst) | (refine kl hst ta44 rfl ?_) | (refine ka 5 hst tz44 rfl rfl ?_; clear hst; intro b5 w hb5 hst) | (refine kt hst ta44 rfl rfl ?_; clear hst; intro w hst)); try simp only [pz, pn, sz, sc])
  refine bp_c rfl rfl (la hst ta44) ⟨?_, hst.keeps⟩
  rfl

theorem fix_Times (a b c : Nat) (ha : a < M) (hb : b < M) (hc : c ≤ 1024) (hs : a * b / 2 ^ c < M) : Gives Tryz.prog 246 #[W a, W b, .int .i64 c] (W (a * b / 2 ^ c)) := by
  intro w0
  have hst := St.start [] w0
  have h := prod_High a b c ha hb hc
  rw [Nat.mod_eq_of_lt hs] at h
  generalize a * b / 2 ^ c = s at *
  go_enter Tryz.func246, Tryz.ntmps246
  go_wp2_with ((first | (refine kf gf253 hst (h) rfl rfl rfl rfl ?_; clear hst; intro w hst) | (refine kb 3 hst rfl rfl ?_; clear hst; intro b3 w hb3 hst) | (refine kb 4 hst rfl rfl ?_; clear hst; intro b4 w hb4 hst) | (refine ka 6 hst tz44 rfl rfl ?_; clear hst; intro b6 w hb6 hst) | (refine kl hst ta44 rfl ?_) | (refine ka 7 hst tz44 rfl rfl ?_; clear hst; intro b7 w hb7 hst) | (refine kt hst ta44 rfl rfl ?_; clear hst; intro w hst)); try simp only [pz, pn, sz, sc])
  refine bp_c rfl rfl (la hst ta44) ⟨?_, hst.keeps⟩
  rfl

end Go.Proofs.YtefpoconpeggpaaGreatDoor.Rd

namespace Go.Proofs.YtefpoconpeggpaaGreatDoor.Rd
open Go Go.RowKit
set_option linter.unusedVariables false
set_option linter.unusedSimpArgs false
set_option maxRecDepth 100000

theorem one_of : ∀ b w, w.heap[b]? = some (.cells (wc 1 1) 22 (0, 0)) → GivesAt Tryz.prog 131 #[.slice (some ⟨b, 0, none⟩) 1 1] (W 1) w := fun b w h => by
  have := wide_Of b 0 1 1 1 1 22 (0, 0) (by omega) w h
  rwa [Nat.pow_zero, Nat.div_one, show min 1 8 = 1 from rfl, show 1 % B ^ 1 = 1 from rfl] at this

/-- How many steps there are from a guess to what is right. -/
def off (g t : Nat) : Nat := if g = t then 0 else 1

set_option maxHeartbeats 8000000 in
theorem fix_right (g t m : Nat) (h1 : g ≤ t + 1) (h2 : t ≤ g + 1) (hm : 2 ≤ m) (hm2 : m ≤ 100) (htM : t + 1 < M) (f : FuncId) (hf : GoF Tryz.prog f) (cap : Array Value) (w0 : World)
    (ha : ∀ q w, Keeps [] w0 w → q ≤ t + 1 → GivesAt Tryz.prog f ([W q] ++ cap.toList).toArray (.bool (decide (t < q))) w) :
    GivesAt Tryz.prog 257 #[W g, .int .i64 m, .func (.func f) #[] cap] (.tuple #[W t, .int .i64 (off g t : Nat), .bool true]) w0 := by
  have hst := St.start [] w0
  have h1' := Lib.hid (wc_1 1 (by decide))
  have hob := one_of
  have hA := Lib.hid ha
  have d1 : off g t ≤ 1 := by unfold off; split <;> omega
  have d2 : g ≤ t → off g t = t - g := by unfold off; intro h; split <;> omega
  have d3 : t < g → off g t = 1 := by unfold off; intro h; split <;> omega
  have hD2 := Lib.hid d2
  have hD3 := Lib.hid d3
  have hgM : g < M := by omega
  obtain ⟨m', hm', hm1⟩ : ∃ m' : Int, m' = (m : Int) ∧ 2 ≤ m' := ⟨m, rfl, by omega⟩
  rw [← hm']
  obtain ⟨d, hd⟩ : ∃ d, off g t = d := ⟨_, rfl⟩
  rw [hd] at d1 ⊢
  have hd := Lib.hid hd
  clear ha d2 d3
  go_enter Tryz.func257, Tryz.ntmps257
  go_wp2_with ((first | (refine kb 3 hst rfl rfl ?_; clear hst; intro b3 w hb3 hst) | (refine ka 6 hst tz44 rfl rfl ?_; clear hst; intro b6 w hb6 hst)); try simp only [pz, pn, sz, sc])
  go_step3
  go_wp2_with ((first | (refine kg gf131 hst (fun w hst => hob _ w (by rw [← h1'.out]; exact hst.own _ _ (by simp))) rfl rfl rfl rfl ?_; clear hst; intro w hst) | (refine wl_slice1 (o := ⟨some 13, _, _, _, _, _⟩) hst ts123 te22 rfl rfl (by (simp only [eval_lit, eval_k, eval_f, eval_g, List.getD_cons_succ, List.getD_cons_zero]) <;> rfl) (by rfl) ?_; clear hst; intro b13 w hb13 hst) | (refine ka 10 hst tz44 rfl rfl ?_; clear hst; intro b10 w hb10 hst) | (refine kt hst ta44 rfl rfl ?_; clear hst; intro w hst)); try simp only [pz, pn, sz, sc])
  go_step3
  go_wp2_with fail
  go_loopw [9] (fun nn wr => ∃ (k x : Nat), nn = .int .i64 k ∧ ((k = 0 ∧ x = g) ∨ (k = 1 ∧ x = t ∧ t < g)) ∧
    St w0 [] [(b10, .cells (wc 8 1) 44), (b6, .cells (wc 8 0) 44), (b3, .cells (wc 8 x) 44)] wr) (fun i _ => 1 - (intOf i).toNat)
  case atStart => exact ⟨0, g, rfl, .inl ⟨rfl, rfl⟩, hst.sub (by repeat (first | exact List.Sublist.refl _ | exact List.nil_sublist _ | refine List.Sublist.cons_cons _ ?_ | refine List.Sublist.cons _ ?_))⟩
  case round =>
    clear hst
    obtain ⟨k, x, rfl, hx, hst⟩ := hrel
    by_cases hlt : t < x
    · obtain ⟨rfl, rfl⟩ : k = 0 ∧ x = g := by omega
      have hab := fun w hst => hA.out x w hst (by omega)
      have hdd : decide (t < x) = true := by simpa using hlt
      rw [hdd] at hab
      have hsub := wide_Sub x 1 hgM (by omega)
      rw [show (x + M - 1) % M = t by rw [show x + M - 1 = x - 1 + M by omega, Nat.add_mod_right, Nat.mod_eq_of_lt (by omega)]; omega] at hsub
      clear hdd hx
      go_wp2_with ((first | (refine kg hf hst (fun w hst => hab w hst.keeps) rfl rfl rfl rfl ?_; clear hst; intro w hst) | (refine kf gf122 hst (hsub) rfl rfl rfl rfl ?_; clear hst; intro w hst) | (refine kt hst ta44 rfl rfl ?_; clear hst; intro w hst) | (refine kl hst ta44 rfl ?_)); try simp only [pz, pn, sz, sc])
      exact ⟨⟨1, t, by go_num, .inr ⟨rfl, rfl, hlt⟩, hst.sub (by repeat (first | exact List.Sublist.refl _ | exact List.nil_sublist _ | refine List.Sublist.cons_cons _ ?_ | refine List.Sublist.cons _ ?_))⟩, by simp [intOf]⟩
    · have hab := fun w hst => hA.out x w hst (by omega)
      have hdd : decide (t < x) = false := by simpa using hlt
      rw [hdd] at hab
      have hinv : k + (t - x) = d ∧ x ≤ t := by
        rw [← hd.out]
        rcases hx with ⟨rfl, rfl⟩ | ⟨rfl, rfl, h⟩
        · rw [hD2.out (by omega)]; omega
        · rw [hD3.out h]; omega
      have hd1 : d ≤ 1 := by omega
      clear hdd hx hlt d1 hD2 hD3 hd
      go_wp2_with ((first | (refine kg hf hst (fun w hst => hab w hst.keeps) rfl rfl rfl rfl ?_; clear hst; intro w hst) | (refine kl hst ta44 rfl ?_)); try simp only [pz, pn, sz, sc])
      go_step3
      go_wp2_with fail
      clear hab
      go_loopw [9] (fun nn wr => ∃ (k x : Nat), nn = .int .i64 k ∧ k + (t - x) = d ∧ x ≤ t ∧
        St w0 [] [(b10, .cells (wc 8 1) 44), (b6, .cells (wc 8 0) 44), (b3, .cells (wc 8 x) 44)] wr) (fun i _ => 1 - (intOf i).toNat)
      case atStart => exact ⟨k, x, rfl, hinv.1, hinv.2, hst.sub (by repeat (first | exact List.Sublist.refl _ | exact List.nil_sublist _ | refine List.Sublist.cons_cons _ ?_ | refine List.Sublist.cons _ ?_))⟩
      case round =>
        clear hst hinv
        obtain ⟨k, x, rfl, hkd, hxt, hst⟩ := hrel
        have hk : (k : Int) ≤ 1 := by omega
        have hadd := wide_Add x 1 (by omega) (by omega)
        rw [Nat.mod_eq_of_lt (by omega)] at hadd
        have hab := fun w hst => hA.out (x + 1) w hst (by omega)
        by_cases hlt : x < t
        · have hdd : decide (t < x + 1) = false := by simp; omega
          rw [hdd] at hab
          clear hdd
          go_wp2_with ((first | (refine kf gf104 hst (hadd) rfl rfl rfl rfl ?_; clear hst; intro w hst) | (refine kg hf hst (fun w hst => hab w hst.keeps) rfl rfl rfl rfl ?_; clear hst; intro w hst) | (refine kt hst ta44 rfl rfl ?_; clear hst; intro w hst) | (refine kl hst ta44 rfl ?_) | (refine ka 11 hst tz44 rfl rfl ?_; clear hst; intro b11 w hb11 hst)); try simp only [pz, pn, sz, sc])
          exact ⟨⟨k + 1, x + 1, by go_num, by omega, by omega, hst.sub (by repeat (first | exact List.Sublist.refl _ | exact List.nil_sublist _ | refine List.Sublist.cons_cons _ ?_ | refine List.Sublist.cons _ ?_))⟩, by simp [intOf]; omega⟩
        · have hdd : decide (t < x + 1) = true := by simp; omega
          rw [hdd] at hab
          obtain rfl : x = t := by omega
          obtain rfl : k = d := by omega
          clear hdd hkd hxt hlt
          go_wp2_with ((first | (refine kf gf104 hst (hadd) rfl rfl rfl rfl ?_; clear hst; intro w hst) | (refine kg hf hst (fun w hst => hab w hst.keeps) rfl rfl rfl rfl ?_; clear hst; intro w hst) | (refine kt hst ta44 rfl rfl ?_; clear hst; intro w hst) | (refine kl hst ta44 rfl ?_) | (refine ka 11 hst tz44 rfl rfl ?_; clear hst; intro b11 w hb11 hst)); try simp only [pz, pn, sz, sc])
          rw [Exit.noGoto_ret]
          refine bp_ctt rfl rfl (la hst ta44) (by rfl) (by rfl) ⟨?_, hst.keeps⟩
          rfl

end Go.Proofs.YtefpoconpeggpaaGreatDoor.Rd

namespace Go.Proofs.YtefpoconpeggpaaGreatDoor.Rd
open Go Go.RowKit
set_option linter.unusedVariables false
set_option linter.unusedSimpArgs false
set_option maxRecDepth 100000

set_option maxHeartbeats 8000000 in
theorem fix_told (g t m v : Nat) (h1 : g ≤ t + 1) (h2 : t ≤ g + 1) (hm : 2 ≤ m) (hm2 : m ≤ 100) (htM : t + 1 < M) (f f2 : FuncId) (hf : GoF Tryz.prog f) (hf2 : GoF Tryz.prog f2) (cap cap2 : Array Value) (w0 : World)
    (ha : ∀ q w, Keeps [] w0 w → q ≤ t + 1 → GivesAt Tryz.prog f ([W q] ++ cap.toList).toArray (.bool (decide (t < q))) w)
    (hl : ∀ w, Keeps [] w0 w → GivesAt Tryz.prog f2 ([W t] ++ cap2.toList).toArray (W v) w) :
    GivesAt Tryz.prog 249 #[W g, .int .i64 m, .func (.func f) #[] cap, .func (.func f2) #[] cap2] (.tuple #[W t, W v, .int .i64 (off g t : Nat), .int .i64 0]) w0 := by
  have hst := St.start [] w0
  have hr := fun w (k : Keeps [] w0 w) => fix_right g t m h1 h2 hm hm2 htM f hf cap w (fun q w' k' hq => ha q w' (k.trans k' (fun x hx _ => hx)) hq)
  clear ha h1 h2 hm hm2 htM
  generalize off g t = d at *
  obtain ⟨m', hm'⟩ : ∃ m' : Int, m' = (m : Int) := ⟨m, rfl⟩
  rw [← hm'] at hr ⊢
  clear hm'
  go_enter Tryz.func249, Tryz.ntmps249
  go_wp2_with ((first | (refine kg gf257 hst (fun w hst => hr w hst.keeps) rfl rfl rfl rfl ?_; clear hst; intro w hst) | (refine kb 4 hst rfl rfl ?_; clear hst; intro b4 w hb4 hst) | (refine ka 8 hst tz44 rfl rfl ?_; clear hst; intro b8 w hb8 hst) | (refine ka 9 hst tz44 rfl rfl ?_; clear hst; intro b9 w hb9 hst) | (refine kl hst ta44 rfl ?_) | (refine ka 12 hst tz44 rfl rfl ?_; clear hst; intro b12 w hb12 hst) | (refine kt hst ta44 rfl rfl ?_; clear hst; intro w hst)); try simp only [pz, pn, sz, sc])
  refine wp_region_TV 9 [(b12, .cells (wc 8 t) 44)] hst (by kernel_rfl) ?_; clear hst; intro w hst; (try simp only [List.length_cons, List.length_nil, Nat.reduceAdd, Array.replicate_succ, Array.replicate_zero, List.push_toArray, List.nil_append, List.cons_append])
  refine r0 1 ?_; simp only [pz, pn, sz, sc]
  refine r0 4 ?_; simp only [pz, pn, sz, sc]
  refine rl 0 rfl ?_ (by first | exact ylA ta44 | exact ylM ta44); simp only [pz, pn, sz, sc]
  refine rl 2 rfl ?_ (by first | exact ylA ta44 | exact ylM ta44); simp only [pz, pn, sz, sc]
  refine r1 3 ?_; (refine kg hf2 hst (fun w hst => hl w hst.keeps) rfl rfl rfl rfl ?_; clear hst; intro w hst); (try simp only [pz, pn, sz, sc]); refine re ?_
  refine r1 5 ?_; (refine kt hst ta44 rfl rfl ?_; clear hst; intro w hst); (try simp only [pz, pn, sz, sc]); refine re ?_
  refine r1 6 ?_; (refine kt hst ta44 rfl rfl ?_; clear hst; intro w hst); (try simp only [pz, pn, sz, sc]); refine re ?_
  refine r0 7 ?_; simp only [pz, pn, sz, sc]
  refine r0 8 ?_; simp only [pz, pn, sz, sc]
  refine rd_ ?_
  go_wp2_with fail
  refine bp_cctt rfl rfl (la hst ta44) (la hst ta44) (by rfl) (by rfl) ⟨?_, hst.keeps⟩
  rfl

theorem root_at {n t q : Nat} (h : IsRoot n t) : n < q * q ↔ t < q := by
  constructor
  · intro h1
    apply Nat.lt_of_not_le
    intro h2
    have := Nat.mul_le_mul h2 h2
    have := h.1
    omega
  · intro h1
    have := Nat.mul_le_mul (show t + 1 ≤ q from h1) (show t + 1 ≤ q from h1)
    have := h.2
    omega

theorem fix_Root_1 (q : Nat) (hq : q < M) (h : q * q < M) : Gives Tryz.prog 248 #[W q] (W (q * q)) := by
  intro w0
  have hst := St.start [] w0
  have h1 := prod_Square q hq
  rw [Nat.mod_eq_of_lt h] at h1
  clear h
  generalize q * q = s at *
  go_enter Tryz.func248, Tryz.ntmps248
  go_wp2_with ((first | (refine kf gf71 hst (h1) rfl rfl rfl rfl ?_; clear hst; intro w hst) | (refine kb 1 hst rfl rfl ?_; clear hst; intro b1 w hb1 hst) | (refine ka 2 hst tz44 rfl rfl ?_; clear hst; intro b2 w hb2 hst) | (refine kl hst ta44 rfl ?_) | (refine ka 3 hst tz44 rfl rfl ?_; clear hst; intro b3 w hb3 hst) | (refine kt hst ta44 rfl rfl ?_; clear hst; intro w hst)); try simp only [pz, pn, sz, sc])
  refine bp_c rfl rfl (la hst ta44) ⟨?_, hst.keeps⟩
  rfl

set_option maxHeartbeats 1000000 in
theorem fix_Root_2 (n t q : Nat) (hn : n < M) (hr : IsRoot n t) (hq : q < M) (h : q * q < M) (b1 b2 : Nat) (hne : b1 ≠ b2) (E1 E2 : TypeId) (w0 : World) (h1 : w0.heap[b1]? = some (.cells #[.func (.func 248) #[] #[]] E1)) (h2 : w0.heap[b2]? = some (.cells (wc 8 n) E2)) :
    GivesAt Tryz.prog 250 #[W q, .pointer (some ⟨b1, 0, none⟩), .pointer (some ⟨b2, 0, none⟩)] (.bool (decide (t < q))) w0 := by
  have hst : St w0 [] [(b1, .cells #[.func (.func 248) #[] #[]] E1), (b2, .cells (wc 8 n) E2)] w0 := ((St.start [] w0).add h2 (by simp)).add h1 (by simpa using hne)
  have hsq := fix_Root_1 q hq h
  have hc := wide_Cmp (q * q) n h hn
  obtain ⟨c, hc'⟩ : ∃ c, cmp (q * q) n = c := ⟨_, rfl⟩
  rw [hc'] at hc
  have hd : decide (t < q) = decide (0 < c) := by
    have := root_at (q := q) hr
    rw [← hc', ← decide_eq_decide.2 this]
    unfold cmp
    by_cases h1 : q * q < n
    · rw [if_pos h1, decide_eq_false (by omega)]; rfl
    · by_cases h2 : n < q * q
      · rw [if_neg h1, if_pos h2, decide_eq_true h2]; rfl
      · rw [if_neg h1, if_neg h2, decide_eq_false h2]; rfl
  rw [hd]
  clear hd hc' hr h h1 h2 hn
  generalize q * q = s at *
  have hgf := gf248
  go_enter Tryz.func250, Tryz.ntmps250
  go_wp2_with ((first | (refine kb 3 hst rfl rfl ?_; clear hst; intro b3 w hb3 hst)); try simp only [pz, pn, sz, sc])
  refine wp_region_T 7  hst (by kernel_rfl) ?_; clear hst; intro w hst; (try simp only [List.length_cons, List.length_nil, Nat.reduceAdd, Array.replicate_succ, Array.replicate_zero, List.push_toArray, List.nil_append, List.cons_append])
  refine rl 0 rfl ?_ (ylC tc291); simp only [pz, pn, sz, sc]
  refine rl 1 rfl ?_ (by first | exact ylA ta44 | exact ylM ta44); simp only [pz, pn, sz, sc]
  refine rl 3 rfl ?_ (by first | exact ylA ta44 | exact ylM ta44); simp only [pz, pn, sz, sc]
  refine r1 2 ?_; (refine kf hgf hst (hsq) rfl rfl rfl rfl ?_; clear hst; intro w hst); (try simp only [pz, pn, sz, sc]); refine re ?_
  refine r1 4 ?_; (refine kf gf166 hst (hc) rfl rfl rfl rfl ?_; clear hst; intro w hst); (try simp only [pz, pn, sz, sc]); refine re ?_
  refine r0 5 ?_; simp only [pz, pn, sz, sc]
  refine r0 6 ?_; simp only [pz, pn, sz, sc]
  refine rd_ ?_
  go_wp2_with fail
  refine bp_t rfl rfl (by rfl) ⟨?_, hst.keeps⟩
  rfl

set_option maxHeartbeats 1000000 in
theorem fix_Root_3 (n t : Nat) (hn : n < M) (ht : t < M) (h : t * t ≤ n) (b1 b2 : Nat) (hne : b1 ≠ b2) (E1 E2 : TypeId) (w0 : World) (h1 : w0.heap[b1]? = some (.cells #[.func (.func 248) #[] #[]] E1)) (h2 : w0.heap[b2]? = some (.cells (wc 8 n) E2)) :
    GivesAt Tryz.prog 251 #[W t, .pointer (some ⟨b2, 0, none⟩), .pointer (some ⟨b1, 0, none⟩)] (W (n - t * t)) w0 := by
  have hst : St w0 [] [(b1, .cells #[.func (.func 248) #[] #[]] E1), (b2, .cells (wc 8 n) E2)] w0 := ((St.start [] w0).add h2 (by simp)).add h1 (by simpa using hne)
  have hsq := fix_Root_1 t ht (by omega)
  have hwo := fix_without n (t * t) hn h
  clear h h1 h2 hn
  generalize n - t * t = r at *
  generalize t * t = s at *
  have hgf := gf248
  go_enter Tryz.func251, Tryz.ntmps251
  go_wp2_with ((first | (refine kb 3 hst rfl rfl ?_; clear hst; intro b3 w hb3 hst) | (refine ka 4 hst tz44 rfl rfl ?_; clear hst; intro b4 w hb4 hst)); try simp only [pz, pn, sz, sc])
  refine wp_region_T 5  hst (by kernel_rfl) ?_; clear hst; intro w hst; (try simp only [List.length_cons, List.length_nil, Nat.reduceAdd, Array.replicate_succ, Array.replicate_zero, List.push_toArray, List.nil_append, List.cons_append])
  refine rl 0 rfl ?_ (by first | exact ylA ta44 | exact ylM ta44); simp only [pz, pn, sz, sc]
  refine rl 1 rfl ?_ (ylC tc291); simp only [pz, pn, sz, sc]
  refine rl 2 rfl ?_ (by first | exact ylA ta44 | exact ylM ta44); simp only [pz, pn, sz, sc]
  refine r1 3 ?_; (refine kf hgf hst (hsq) rfl rfl rfl rfl ?_; clear hst; intro w hst); (try simp only [pz, pn, sz, sc]); refine re ?_
  refine r1 4 ?_; (refine kf gf252 hst (hwo) rfl rfl rfl rfl ?_; clear hst; intro w hst); (try simp only [pz, pn, sz, sc]); refine re ?_
  refine r1 5 ?_; (refine kt hst ta44 rfl rfl ?_; clear hst; intro w hst); (try simp only [pz, pn, sz, sc]); refine re ?_
  refine rd_ ?_
  go_wp2_with fail
  refine bp_c rfl rfl (la hst ta44) ⟨?_, hst.keeps⟩
  rfl

set_option maxHeartbeats 8000000 in
theorem fix_Root (n g m : Nat) (hn : n < 2 ^ 256) (h1 : g ≤ isqrt n + 1) (h2 : isqrt n ≤ g + 1) (hm : 2 ≤ m) (hm2 : m ≤ 100) : Gives Tryz.prog 245 #[W n, W g, .int .i64 m] (.tuple #[W (isqrt n), W (n - isqrt n * isqrt n), .int .i64 (off g (isqrt n) : Nat), .int .i64 0]) := by
  intro w0
  have hst := St.start [] w0
  have hnM : n < M := Nat.lt_trans hn (small_M (by decide))
  have hr := (isqrt_spec (n := n) (by rw [four_128]; exact hn))
  have htM : isqrt n + 2 < M := small_M (by have := hr.2; omega)
  have hgM : g < M := by omega
  have hlen1 := wide_Len n hnM
  have hlen2 := wide_Len g hgM
  have l1 : bl n ≤ 256 := bl_le.2 hn
  have l2 : bl g ≤ 200 := bl_le.2 (Nat.lt_of_le_of_lt h1 (Nat.lt_of_le_of_lt hr.2 (by decide)))
  have hq2 : ∀ q, q ≤ isqrt n + 1 → q * q < M := fun q hq => by
    have : q ≤ 2 ^ 128 := by have := hr.2; omega
    exact Nat.lt_of_le_of_lt (Nat.mul_le_mul this this) (small_M (by decide))
  have k2 := fun (b1 b2 : Nat) (hne : b1 ≠ b2) q (hq : q ≤ isqrt n + 1) E1 E2 w => fix_Root_2 n (isqrt n) q hnM hr.1 (by omega) (hq2 q hq) b1 b2 hne E1 E2 w
  have k3 := fun (b1 b2 : Nat) (hne : b1 ≠ b2) E1 E2 w => fix_Root_3 n (isqrt n) hnM (by omega) hr.1.1 b1 b2 hne E1 E2 w
  have k4 := fun (b1 b2 : Nat) (hne : b1 ≠ b2) E1 E2 (w : World) (q1 : w.heap[b1]? = some (.cells #[.func (.func 248) #[] #[]] E1)) (q2 : w.heap[b2]? = some (.cells (wc 8 n) E2)) =>
    fix_told g (isqrt n) m (n - isqrt n * isqrt n) h1 h2 hm hm2 (by omega) 250 251 gf250 gf251 #[.pointer (some ⟨b1, 0, none⟩), .pointer (some ⟨b2, 0, none⟩)] #[.pointer (some ⟨b2, 0, none⟩), .pointer (some ⟨b1, 0, none⟩)] w
      (fun q w' k hq => k2 b1 b2 hne q hq E1 E2 w' (k.at q1) (k.at q2)) (fun w' k => k3 b1 b2 hne E1 E2 w' (k.at q1) (k.at q2))
  clear k2 k3
  obtain ⟨m', hm', hm3, hm4⟩ : ∃ m' : Int, m' = (m : Int) ∧ 2 ≤ m' ∧ m' ≤ 100 := ⟨m, rfl, by omega, by omega⟩
  clear hq2 hr htM h1 h2 hm hm2
  generalize n - isqrt n * isqrt n = r at *
  generalize isqrt n = t at *
  generalize off g t = d at *
  rw [← hm'] at k4 ⊢
  clear hm'
  generalize bl n = x1 at *
  generalize bl g = x2 at *
  have Q1 : ¬ ((256 : Int) < (x1 : Int)) := by omega
  have Q2 : ¬ ((200 : Int) < (x2 : Int)) := by omega
  have Q3 : ¬ m' < 0 := by omega
  have Q4 : ¬ 100 < m' := by omega
  go_enter Tryz.func245, Tryz.ntmps245
  go_wp2_with ((first | (refine kf gf47 hst (hlen1) rfl rfl rfl rfl ?_; clear hst; intro w hst) | (refine kf gf47 hst (hlen2) rfl rfl rfl rfl ?_; clear hst; intro w hst) | (refine kg gf249 hst (fun w hst => k4 b10 b3 (by have q := hst.nodup; simp only [List.map_cons, List.map_nil, List.nodup_cons, List.mem_cons, List.not_mem_nil, or_false, not_or] at q; omega) _ _ w (hst.own _ _ (by repeat (first | exact List.Mem.head _ | refine List.Mem.tail _ ?_))) (hst.own _ _ (by repeat (first | exact List.Mem.head _ | refine List.Mem.tail _ ?_)))) rfl rfl rfl rfl ?_; clear hst; intro w hst) | (refine wl_guard (by rfl) ?_) | (refine kb 3 hst rfl rfl ?_; clear hst; intro b3 w hb3 hst) | (refine kb 4 hst rfl rfl ?_; clear hst; intro b4 w hb4 hst) | (refine ka 6 hst tz44 rfl rfl ?_; clear hst; intro b6 w hb6 hst) | (refine ka 7 hst tz44 rfl rfl ?_; clear hst; intro b7 w hb7 hst) | (refine kt hst ta44 rfl rfl ?_; clear hst; intro w hst) | (refine kl hst ta44 rfl ?_) | (refine ka 10 hst tz291 rfl rfl ?_; clear hst; intro b10 w hb10 hst) | (refine ks hst tc291 rfl rfl ?_; clear hst; intro w hst)); try simp only [pz, pn, sz, sc])
  refine bp_cctt rfl rfl (la hst ta44) (la hst ta44) (by rfl) (by rfl) ⟨?_, hst.keeps⟩
  rfl

end Go.Proofs.YtefpoconpeggpaaGreatDoor.Rd
