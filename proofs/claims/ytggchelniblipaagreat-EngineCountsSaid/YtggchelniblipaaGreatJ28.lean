/- What rom.Made, the set's Made answer. -/
import Derived.Test.YtggchelniblipaaGreatJ27
namespace Go.Proofs.YtggchelniblipaaGreat.Rd
open Go Go.RowKit
set_option linter.unusedVariables false
set_option linter.unusedSimpArgs false
set_option maxRecDepth 100000

set_option maxHeartbeats 4000000 in
theorem radix2_Divide (n d : Nat) (hn : n < M) (hd : d < M) : Gives Tryz.prog 80 #[W n, W d] (.tuple #[W (quoQ n d), W (quoM n d), .int .i64 (mayE n d : Nat)]) := by
  intro w0
  have hst := St.start [] w0
  have hmay := radix2_May n d hn hd
  unfold quoQ quoM
  by_cases hm : mayE n d = 0
  · rw [if_pos hm, if_pos hm]
    obtain ⟨m1, m2, m3⟩ := mayE_ok hm
    rw [hm] at hmay ⊢
    have hrun := fun c1 c2 (hne : c2 ≠ c1) E1 E2 w h1 h2 => radix2_run n d c1 c2 (Nat.pos_of_ne_zero m1) m2 m3 hn E1 E2 hne w h1 h2
    clear m1 m2 m3 hm hn hd
    generalize n / d = q at *
    generalize n % d = r at *
    go_enter Tryz.func80, Tryz.ntmps80
    go_wp2_with ((first | (refine kf gf82 hst (hmay) rfl rfl rfl rfl ?_; clear hst; intro w hst) | (refine kT gf83 hst (fun w hst => hrun b8 b9 (by have q := hst.nodup; simp only [List.map_cons, List.map_nil, List.nodup_cons, List.mem_cons, List.not_mem_nil, or_false, not_or] at q; omega) _ _ w (hst.own _ _ (by repeat (first | exact List.Mem.head _ | refine List.Mem.tail _ ?_))) (hst.own _ _ (by repeat (first | exact List.Mem.head _ | refine List.Mem.tail _ ?_)))) rfl rfl rfl rfl ?_; clear hst; intro w hst) | (refine kb 2 hst rfl rfl ?_; clear hst; intro b2 w hb2 hst) | (refine kb 3 hst rfl rfl ?_; clear hst; intro b3 w hb3 hst) | (refine ka 4 hst tz25 rfl rfl ?_; clear hst; intro b4 w hb4 hst) | (refine ka 5 hst tz25 rfl rfl ?_; clear hst; intro b5 w hb5 hst) | (refine kl hst ta25 rfl ?_) | (refine klm hst ta25 rfl ?_) | (refine kt hst ta25 rfl rfl ?_; clear hst; intro w hst) | (refine ktm hst ta25 rfl rfl ?_; clear hst; intro w hst) | (refine ka 8 hst tz25 rfl rfl ?_; clear hst; intro b8 w hb8 hst) | (refine ka 9 hst tz25 rfl rfl ?_; clear hst; intro b9 w hb9 hst)); try simp only [pz, pn, sz, sc])
    refine wp_region_TV 5 [(b9, .cells (wc 8 r) 25), (b8, .cells (wc 8 q) 25)] hst (by kernel_rfl) ?_; clear hst; intro w hst; (try dsimp only [List.length_cons, List.length_nil]); (try simp only [List.length_cons, List.length_nil, Nat.reduceAdd, Array.replicate_succ, Array.replicate_zero, List.push_toArray, List.nil_append, List.cons_append])
    refine rl 0 rfl ?_ (by first | exact ylA ta25 | exact ylM ta25); simp only [pz, pn, sz, sc]
    refine rl 1 rfl ?_ (by first | exact ylA ta25 | exact ylM ta25); simp only [pz, pn, sz, sc]
    refine r1 2 ?_; (first | (refine kt hst ta25 rfl rfl ?_; clear hst; intro w hst) | (refine ktm hst ta25 rfl rfl ?_; clear hst; intro w hst)); (try simp only [pz, pn, sz, sc]); refine re ?_
    refine r1 3 ?_; (first | (refine kt hst ta25 rfl rfl ?_; clear hst; intro w hst) | (refine ktm hst ta25 rfl rfl ?_; clear hst; intro w hst)); (try simp only [pz, pn, sz, sc]); refine re ?_
    refine r0 4 ?_; simp only [pz, pn, sz, sc]
    refine rd_ ?_
    go_wp2_with ((first | (refine kb 2 hst rfl rfl ?_; clear hst; intro b2 w hb2 hst) | (refine kb 3 hst rfl rfl ?_; clear hst; intro b3 w hb3 hst) | (refine ka 4 hst tz25 rfl rfl ?_; clear hst; intro b4 w hb4 hst) | (refine ka 5 hst tz25 rfl rfl ?_; clear hst; intro b5 w hb5 hst) | (refine kl hst ta25 rfl ?_) | (refine klm hst ta25 rfl ?_) | (refine kt hst ta25 rfl rfl ?_; clear hst; intro w hst) | (refine ktm hst ta25 rfl rfl ?_; clear hst; intro w hst) | (refine ka 8 hst tz25 rfl rfl ?_; clear hst; intro b8 w hb8 hst) | (refine ka 9 hst tz25 rfl rfl ?_; clear hst; intro b9 w hb9 hst)); try simp only [pz, pn, sz, sc])
    refine bp_cct rfl rfl (la hst ta25) (la hst ta25) (by rfl) ⟨?_, hst.keeps⟩
    rfl
  · rw [if_neg hm, if_neg hm]
    generalize mayE n d = e at *
    have Q0 : ((e : Int) == 0) = false := by simp; omega
    clear hm hn hd
    go_enter Tryz.func80, Tryz.ntmps80
    go_wp2_with ((first | (refine kf gf82 hst (hmay) rfl rfl rfl rfl ?_; clear hst; intro w hst) | (refine kb 2 hst rfl rfl ?_; clear hst; intro b2 w hb2 hst) | (refine kb 3 hst rfl rfl ?_; clear hst; intro b3 w hb3 hst) | (refine ka 4 hst tz25 rfl rfl ?_; clear hst; intro b4 w hb4 hst) | (refine ka 5 hst tz25 rfl rfl ?_; clear hst; intro b5 w hb5 hst) | (refine kl hst ta25 rfl ?_) | (refine klm hst ta25 rfl ?_) | (refine kt hst ta25 rfl rfl ?_; clear hst; intro w hst) | (refine ktm hst ta25 rfl rfl ?_; clear hst; intro w hst) | (refine ka 8 hst tz25 rfl rfl ?_; clear hst; intro b8 w hb8 hst) | (refine ka 9 hst tz25 rfl rfl ?_; clear hst; intro b9 w hb9 hst)); try simp only [pz, pn, sz, sc])
    refine bp_cct rfl rfl (la hst ta25) (la hst ta25) (by rfl) ⟨?_, hst.keeps⟩
    rw [W_zero]; rfl

theorem restoring_Divide (n d : Nat) (hn : n < M) (hd : d < M) : Gives Tryz.prog 78 #[.agg #[], W n, W d] (.tuple #[W (quoQ n d), W (quoM n d), .int .i64 (mayE n d : Nat)]) := by
  intro w0
  have hst := St.start [] w0
  have h := radix2_Divide n d hn hd
  generalize quoQ n d = x at *
  generalize quoM n d = y at *
  generalize mayE n d = e at *
  go_enter Tryz.func78, Tryz.ntmps78
  go_wp2_with ((first | (refine kf gf80 hst (h) rfl rfl rfl rfl ?_; clear hst; intro w hst) | (refine kb 3 hst rfl rfl ?_; clear hst; intro b3 w hb3 hst) | (refine kb 4 hst rfl rfl ?_; clear hst; intro b4 w hb4 hst) | (refine kb 5 hst rfl rfl ?_; clear hst; intro b5 w hb5 hst) | (refine ka 6 hst tz25 rfl rfl ?_; clear hst; intro b6 w hb6 hst) | (refine ka 7 hst tz25 rfl rfl ?_; clear hst; intro b7 w hb7 hst) | (refine kl hst ta25 rfl ?_) | (refine klm hst ta25 rfl ?_) | (refine kt hst ta25 rfl rfl ?_; clear hst; intro w hst) | (refine ktm hst ta25 rfl rfl ?_; clear hst; intro w hst)); try simp only [pz, pn, sz, sc])
  refine bp_cct rfl rfl (la hst ta25) (la hst ta25) (by rfl) ⟨?_, hst.keeps⟩
  rfl

theorem div_restoring (bs br : Nat) (c : Array Value) (c1 c2 c3 c4 n d : Nat) (hn : n < M) (hd : d < M) : DivM bs br c c c1 c2 c3 c4 1 n d (quoQ n d) (quoM n d) (mayE n d : Nat) := by
  refine ⟨78, .agg #[], fun w => by unfold engA eA1; kernel_rfl, fun w q hL => ?_⟩
  exact Gives.toT (restoring_Divide n d hn hd) _ (own_one (hL.2 br _ (List.Mem.tail _ (List.Mem.head _))))

end Go.Proofs.YtggchelniblipaaGreat.Rd

namespace Go.Proofs.YtggchelniblipaaGreat.Rd
open Go Go.RowKit
set_option linter.unusedVariables false
set_option linter.unusedSimpArgs false
set_option maxRecDepth 100000

theorem rom_Made (br : Nat) (dn lk mk : Int) (R' T : Nat) (w0 : World) (hr : w0.heap[br]? = some (.cells (romC dn lk mk R' T) 69)) : GivesAt Tryz.prog 12 #[.pointer (some ⟨br, 0, none⟩)] (.int .i64 mk) w0 := by
  have hst := (St.start [] w0).add hr (by simp)
  have hld := fun w (h : w.heap[br]? = some (.cells (romC dn lk mk R' T) 69)) => int64_Load br 3 mk _ 69 (0, 0) (romC_get dn lk mk R' T).2.2 w h
  clear hr
  generalize romC dn lk mk R' T = cs at *
  go_enter Tryz.func12, Tryz.ntmps12
  go_wp2_with ((first | (refine kg gf17 hst (fun w hst => hld w (hst.own _ _ (by repeat (first | exact List.Mem.head _ | refine List.Mem.tail _ ?_)))) rfl rfl rfl rfl ?_; clear hst; intro w hst)); try simp only [pz, pn, sz, sc])
  refine bp_t rfl rfl (by rfl) ⟨?_, hst.keeps⟩
  rfl

theorem engine_Made (bs br : Nat) (cs : Array Value) (hcs : cs[3]? = some (.pointer (some ⟨br, 0, none⟩))) (dn lk mk : Int) (R' T : Nat) (hne : bs ≠ br) (w0 : World) (hs : w0.heap[bs]? = some (.cells cs 60)) (hr : w0.heap[br]? = some (.cells (romC dn lk mk R' T) 69)) :
    GivesAt Tryz.prog 6 #[.pointer (some ⟨bs, 0, none⟩)] (.int .i64 mk) w0 := by
  have hst : St w0 [] [(bs, .cells cs 60), (br, .cells (romC dn lk mk R' T) 69)] w0 := ((St.start [] w0).add hr (by simp)).add hs (by simpa using hne)
  have hm := fun w h => rom_Made br dn lk mk R' T w h
  clear hs hr
  generalize romC dn lk mk R' T = c at *
  go_enter Tryz.func6, Tryz.ntmps6
  go_wp2_with ((first | (refine kg gf12 hst (fun w hst => hm w (hst.own _ _ (by repeat (first | exact List.Mem.head _ | refine List.Mem.tail _ ?_)))) rfl rfl rfl rfl ?_; clear hst; intro w hst) | (refine kc hst tc38 rfl ?_)); try simp only [pz, pn, sz, sc])
  refine bp_t rfl rfl (by rfl) ⟨?_, hst.keeps⟩
  rfl

end Go.Proofs.YtggchelniblipaaGreat.Rd
