/- The walk through the law of counts. -/
import Derived.Test.YtggchelniblipaaGreatJ30
namespace Go.Proofs.YtggchelniblipaaGreat.Rd
open Go Go.RowKit
set_option linter.unusedVariables false
set_option linter.unusedSimpArgs false
set_option maxRecDepth 100000

set_option maxHeartbeats 80000000 in
theorem law_EngineCounts (tc : Array Value) (htc : TabOk tc) (a : Option Addr) (len cap : Nat) (hcap : (len : Int) ≤ 9223372036854775807) (n d : Nat) (hn : n < M) (hd : d < M) (w0 : World) (hg : TabIn tc w0)
    (hcells : ∀ i, i < len → ∃ b off z, a = some ⟨b, off, none⟩ ∧ -9223372036854775808 ≤ z ∧ z ≤ 9223372036854775807 ∧ w0.cell? ⟨b, off + i, none⟩ = some (.int .i64 z)) :
    GivesAt Tryz.prog 3 #[.slice a len cap, W n, W d] (.bool true) w0 := by
  have hst := St.start [] w0
  have haw := law_awake
  by_cases h20 : (20 : Int) < (len : Int)
  · clear hg hcells htc
    go_enter Tryz.func3, Tryz.ntmps3
    go_wp2_with ((first | (refine kf gf4 hst (haw) rfl rfl rfl rfl ?_; clear hst; intro w hst) | (refine wl_guard (by rfl) ?_) | (refine kb 4 hst rfl rfl ?_; clear hst; intro b4 w hb4 hst) | (refine kb 5 hst rfl rfl ?_; clear hst; intro b5 w hb5 hst) | (refine ka 8 hst tz30 rfl rfl ?_; clear hst; intro b8 w hb8 hst) | (refine kc hst tc3 rfl ?_) | (refine kl hst ta25 rfl ?_) | (refine klm hst ta25 rfl ?_) | (refine ks hst tc3 rfl rfl ?_; clear hst; intro w hst) | (refine kn tr25 tc23 rfl ?_)); try simp only [pz, pn, sz, sc])
    refine bp_t rfl rfl (by rfl) ⟨?_, hst.keeps⟩
    rfl
  · have hnew := fun w => engine_New w
    have hmd0 := fun bs br L (hS : SetNew bs br L) w ho => engine_MadeS bs br romN romN_ok (fun _ => 0) L (.inl ⟨hS, rfl, rfl⟩) w ho
    rw [madeC_N] at hmd0
    have hZ := Lib.hid (show ∀ w, Keeps [] w0 w → TabIn tc w from fun w k => TabIn.keep (by simp) w0 w hg k)
    have hglt := lt_of_some hg
    have hcells' := Lib.hid hcells
    have htc' := Lib.hid htc
    have hn' := Lib.hid hn
    have hd' := Lib.hid hd
    have hlen : (len : Int) ≤ 20 := by omega
    clear hcells hg htc hn hd
    go_enter Tryz.func3, Tryz.ntmps3
    go_wp2_with ((first | (refine kN (o := ⟨some 17, _, _, _, _, _⟩) gf5 hst (fun w hst => hnew w) rfl rfl rfl rfl ?_; clear hst; intro v17 L w hn5 hR5 hst; obtain ⟨bs, br, hsr, rfl, hS⟩ := hR5; (try simp only [List.cons_append, List.nil_append, List.append_nil, List.append_assoc] at hst); have hbs : w0.heap.size ≤ bs := hn5.1 (bs, _) (by rw [hS]; exact List.Mem.head _); have hbr : w0.heap.size ≤ br := hn5.1 (br, _) (by rw [hS]; exact List.Mem.tail _ (List.Mem.head _))) | (refine kg gf6 hst (fun w hst => hmd0 bs br L hS w (hst.owns (L := L) (.there (.there .here)))) rfl rfl rfl rfl ?_; clear hst; intro w hst) | (refine wl_guard (by rfl) ?_) | (refine kb 4 hst rfl rfl ?_; clear hst; intro b4 w hb4 hst) | (refine kb 5 hst rfl rfl ?_; clear hst; intro b5 w hb5 hst) | (refine ka 8 hst tz30 rfl rfl ?_; clear hst; intro b8 w hb8 hst) | (refine kc hst tc3 rfl ?_) | (refine kl hst ta25 rfl ?_) | (refine klm hst ta25 rfl ?_) | (refine ks hst tc3 rfl rfl ?_; clear hst; intro w hst) | (refine kn tr25 tc23 rfl ?_)); try simp only [pz, pn, sz, sc])
    have hI0 := CntI.start bs br L hS
    clear hmd0 hnew hS hn5
    go_loopw [9, 10] (fun vg vi wr => ∃ (k : Nat) (g : Int) (c : Array Value) (q : Nat → Int) (L : List (Nat × Obj)), k ≤ len ∧ vg = .int .i64 g ∧ vi = .int .i64 k ∧ CntI bs br k g c q L ∧ St w0 [] ((b8, .cells (cntC q) 30) :: (b5, .cells (wc 8 d) 25) :: (b4, .cells (wc 8 n) 25) :: L) wr) (fun _ vi _ => len - (intOf vi).toNat)
    case atStart => exact ⟨0, 0, romN, fun _ => 0, L, by omega, rfl, rfl, hI0, hst⟩
    case round =>
      clear hst hI0
      obtain ⟨k, g, c, q, L, hk, rfl, rfl, hI, hst⟩ := hrel
      by_cases hlt : k < len
      · obtain ⟨b, off, z, rfl, z1, z2, hcell⟩ := hcells'.out k hlt
        have i0 : (0 : Int) ≤ (k : Int) := by omega
        have i1 : (k : Int) < (len : Int) := by omega
        have hcell' := Lib.hid hcell
        have hI' := Lib.hid hI
        obtain ⟨⟨hg01, hgm, hm1⟩, hcok, hq0, hqb, hmade, hset⟩ := hI
        clear hcell hcells' hg01 hgm hm1 hmade hq0
        by_cases hv : 1 ≤ z ∧ z ≤ 4
        · obtain ⟨j, rfl⟩ : ∃ j : Nat, z = (j : Int) := ⟨z.toNat, by omega⟩
          obtain ⟨v1, v2⟩ := hv
          have his := law_is_yes (j : Int) v1 v2
          have hj1 : 1 ≤ j := by omega
          have hj4 : j ≤ 4 := by omega
          obtain ⟨qj1, qj2⟩ := hqb j
          have hget := cntC_get q j hj4
          have hset1 := Lib.hid (cntC_set q j hj4)
          have hsz : (cntC q).size = 5 := rfl
          have j0 : (0 : Int) ≤ (j : Int) := by omega
          have j5 : (j : Int) < 5 := by omega
          have j5' : j < 5 := by omega
          have hqw : q j + 1 ≤ 1000 := by omega
          clear hqb
          by_cases hpar : (k : Int) % 2 = 0
          · obtain ⟨x1, x2, hdiv⟩ := engine_DivideAll tc htc'.out bs br (by omega) (by omega) c hcok q L hset j hj1 hj4 qj1 (by omega) n d hn'.out hd'.out
            obtain ⟨e, he⟩ : ∃ e : Nat, mayE n d = e := ⟨_, rfl⟩
            rw [he] at hdiv
            obtain ⟨c', hc'⟩ : ∃ c', c' = romV j n d c := ⟨_, rfl⟩
            rw [← hc'] at hdiv
            obtain ⟨q', hq'⟩ : ∃ q', q' = bump j q := ⟨_, rfl⟩
            rw [← hq'] at hdiv hset1
            have hgc : ∃ g' : Int, ((e = 0 ∧ 3 ≤ j ∧ g' = 1 ∧ c' = romF) ∨ (¬ (e = 0 ∧ 3 ≤ j) ∧ g' = g)) ∧ (c' = c ∨ (c' = romF ∧ 3 ≤ j)) := by
              by_cases hx : e = 0 ∧ 3 ≤ j
              · refine ⟨1, .inl ⟨hx.1, hx.2, rfl, ?_⟩, .inr ⟨?_, hx.2⟩⟩ <;> (rw [hc']; unfold romV romD; rw [if_neg (by omega), if_pos (by rw [he]; exact hx.1)])
              · refine ⟨g, .inr ⟨hx, rfl⟩, ?_⟩
                rw [hc']; unfold romV
                by_cases h3 : j < 3
                · rw [if_pos h3]; exact .inl rfl
                · rw [if_neg h3]; unfold romD; rw [if_neg (by rw [he]; omega)]; exact .inl rfl
            obtain ⟨g', hgg, hcc⟩ := hgc
            have hIF := Lib.hid (show ∀ L', SetSt bs br c' q' L' → CntI bs br (k + 1) g' c' q' L' from fun L' hS' => by
              subst hq'
              exact hI'.out.yes j hj1 hj4 hS' hcc (by rcases hgg with h | h; exact .inr ⟨h.2.2.1, h.2.2.2⟩; exact .inl h.2))
            clear hc' hcc hset hcok hI' he hq'
            generalize cntC q = cs at *
            have hdv := fun w h1 h2 => hdiv w h1 h2
            clear hdiv
            rcases hgg with ⟨rfl, h3, rfl, _⟩ | ⟨hne, rfl⟩
            · have p3 : (3 : Int) ≤ (j : Int) := by omega
              rw [show ((0 : Nat) : Int) = 0 from rfl] at hdv
              clear h3
              go_wp2_with ((first | (refine wl_guard (by rfl) ?_) | (refine kb 4 hst rfl rfl ?_; clear hst; intro b4 w hb4 hst) | (refine kb 5 hst rfl rfl ?_; clear hst; intro b5 w hb5 hst) | (refine ka 8 hst tz30 rfl rfl ?_; clear hst; intro b8 w hb8 hst) | (refine kc hst tc3 rfl ?_) | (refine kl hst ta25 rfl ?_) | (refine klm hst ta25 rfl ?_) | (refine ks hst tc3 rfl rfl ?_; clear hst; intro w hst) | (refine kn tr25 tc23 rfl ?_)); try simp only [pz, pn, sz, sc])
              refine wp_region_TV 13 [(b8, .cells cs 30), (b5, .cells (wc 8 d) 25), (b4, .cells (wc 8 n) 25)] hst (by kernel_rfl) ?_; clear hst; intro w hst; (try dsimp only [List.length_cons, List.length_nil]); (try simp only [List.length_cons, List.length_nil, Nat.reduceAdd, Array.replicate_succ, Array.replicate_zero, List.push_toArray, List.nil_append, List.cons_append])
              refine r0 0 ?_; simp only [pz, pn, sz, sc]
              refine r0 1 ?_; simp only [pz, pn, sz, sc]
              refine r0 2 ?_; simp only [pz, pn, sz, sc]
              refine r0 3 ?_; simp only [pz, pn, sz, sc]
              refine rl 4 rfl ?_ (by first | exact fun w hw => run_opLoadW hw.keeps tc3 rfl (by rfl) hcell'.out | exact ylC tc3); simp only [pz, pn, sz, sc]
              refine rl 5 rfl ?_ (by first | exact ylA ta25 | exact ylM ta25); simp only [pz, pn, sz, sc]
              refine rl 6 rfl ?_ (by first | exact ylA ta25 | exact ylM ta25); simp only [pz, pn, sz, sc]
              refine r1 7 ?_; (first | (refine kZ (o := ⟨some 42, _, _, _, _, _⟩) (fun L' => (b8, .cells cs 30) :: (b5, .cells (wc 8 d) 25) :: (b4, .cells (wc 8 n) 25) :: L') gf7 hst (fun w hst => hdv w (hZ.out w hst.keeps) (hst.owns (L := L) (.there (.there (.there .here))))) rfl rfl rfl rfl ?_; clear hst; intro v42 L' w hR hnew2 hst; obtain ⟨rfl, hS'⟩ := hR) | (refine kp ?_)); (try simp only [pz, pn, sz, sc]); refine re ?_
              refine r0 8 ?_; simp only [pz, pn, sz, sc]
              refine r0 9 ?_; simp only [pz, pn, sz, sc]
              refine r0 10 ?_; simp only [pz, pn, sz, sc]
              refine r0 11 ?_; simp only [pz, pn, sz, sc]
              refine r0 12 ?_; simp only [pz, pn, sz, sc]
              refine rd_ ?_
              have hI2 := hIF.out L' hS'
              have hmd := fun w ho => engine_MadeS bs br c' hI2.ok q' L' hS' w ho
              have hcnt := Lib.hid (fun jj h1 h2 w ho => engine_CountS bs br c' q' L' hS' jj h1 h2 w ho)
              have hget' := Lib.hid (fun i h => cntC_get q' i h)
              have hg3 := cntC_get q' 3 (by omega)
              have hg4 := cntC_get q' 4 (by omega)
              have hsz' : (cntC q').size = 5 := rfl
              have hc0 := engine_Count_no bs 0 (by omega)
              have hc5 := engine_Count_no bs 5 (by omega)
              obtain ⟨⟨_, gm, m1⟩, _, _, qb, hmade, _⟩ := hI2
              have gm1 : ¬ madeC c' < 1 := by omega
              have gm2 : ¬ 1 < madeC c' := by omega
              obtain ⟨q31, q32⟩ := qb 3
              obtain ⟨q41, q42⟩ := qb 4
              clear qb gm m1
              generalize madeC c' = m' at *
              generalize hcs0 : cntC q' = cs' at *
              have hcs := Lib.hid hcs0
              clear hcs0
              go_wp2_with ((first | (refine kcw hst tc3 (fun w hst => hst.keeps.cell hcell'.out) rfl ?_) | (refine kf gf9 hst (his) rfl rfl rfl rfl ?_; clear hst; intro w hst) | (refine kg gf6 hst (fun w hst => hmd w (hst.owns (L := L') (.there (.there (.there .here))))) rfl rfl rfl rfl ?_; clear hst; intro w hst) | (refine wl_guard (by rfl) ?_) | (refine kb 4 hst rfl rfl ?_; clear hst; intro b4 w hb4 hst) | (refine kb 5 hst rfl rfl ?_; clear hst; intro b5 w hb5 hst) | (refine ka 8 hst tz30 rfl rfl ?_; clear hst; intro b8 w hb8 hst) | (refine kc hst tc3 rfl ?_) | (refine kl hst ta25 rfl ?_) | (refine klm hst ta25 rfl ?_) | (refine ks hst tc3 rfl rfl ?_; clear hst; intro w hst; (try rw [hset1.out] at hst)) | (refine kn tr25 tc23 rfl ?_)); try simp only [pz, pn, sz, sc])
              go_loopw [12] (fun vj wr => ∃ j' : Nat, 1 ≤ j' ∧ j' ≤ 5 ∧ vj = .int .i64 j' ∧ St w0 [] ((b8, .cells cs' 30) :: (b5, .cells (wc 8 d) 25) :: (b4, .cells (wc 8 n) 25) :: L') wr) (fun vj _ => 5 - (intOf vj).toNat)
              case atStart => exact ⟨1, by omega, by omega, rfl, hst⟩
              case round =>
                clear hst
                obtain ⟨j', j1', j2', rfl, hst⟩ := hrel
                by_cases hlt' : j' < 5
                · have e1 : (j' : Int) ≤ 4 := by omega
                  have e2 : (j' : Int) < 5 := by omega
                  have e3 : (0 : Int) ≤ (j' : Int) := by omega
                  have e4 : j' < 5 := hlt'
                  have hgj := hget'.out j' (by omega)
                  have hcj := hcnt.out j' j1' (by omega)
                  generalize q' j' = qj at *
                  go_wp2_with ((first | (refine wl_guard (by rfl) ?_) | (refine kb 4 hst rfl rfl ?_; clear hst; intro b4 w hb4 hst) | (refine kb 5 hst rfl rfl ?_; clear hst; intro b5 w hb5 hst) | (refine ka 8 hst tz30 rfl rfl ?_; clear hst; intro b8 w hb8 hst) | (refine kc hst tc3 rfl ?_) | (refine kl hst ta25 rfl ?_) | (refine klm hst ta25 rfl ?_) | (refine ks hst tc3 rfl rfl ?_; clear hst; intro w hst) | (refine kn tr25 tc23 rfl ?_)); try simp only [pz, pn, sz, sc])
                  refine wp_region_T 7  hst (by kernel_rfl) ?_; clear hst; intro w hst; (try dsimp only [List.length_cons, List.length_nil]); (try simp only [List.length_cons, List.length_nil, Nat.reduceAdd, Array.replicate_succ, Array.replicate_zero, List.push_toArray, List.nil_append, List.cons_append])
                  refine r0 0 ?_; simp only [pz, pn, sz, sc]
                  refine r0 1 ?_; simp only [pz, pn, sz, sc]
                  refine r0 3 ?_; simp only [pz, pn, sz, sc]
                  refine r0 4 ?_; simp only [pz, pn, sz, sc]
                  refine rl 5 rfl ?_ (ylC tc3); simp only [pz, pn, sz, sc]
                  refine r1 2 ?_; (first | (refine kg gf10 hst (fun w hst => hcj w (hst.owns (L := L') (.there (.there (.there .here))))) rfl rfl rfl rfl ?_; clear hst; intro w hst) | (refine kp ?_)); (try simp only [pz, pn, sz, sc]); refine re ?_
                  refine r0 6 ?_; simp only [pz, pn, sz, sc]
                  refine rd_ ?_
                  go_wp2_with ((first | (refine wl_guard (by rfl) ?_) | (refine kb 4 hst rfl rfl ?_; clear hst; intro b4 w hb4 hst) | (refine kb 5 hst rfl rfl ?_; clear hst; intro b5 w hb5 hst) | (refine ka 8 hst tz30 rfl rfl ?_; clear hst; intro b8 w hb8 hst) | (refine kc hst tc3 rfl ?_) | (refine kl hst ta25 rfl ?_) | (refine klm hst ta25 rfl ?_) | (refine ks hst tc3 rfl rfl ?_; clear hst; intro w hst) | (refine kn tr25 tc23 rfl ?_)); try simp only [pz, pn, sz, sc])
                  refine ⟨⟨j' + 1, by omega, by omega, by go_num, hst⟩, ?_⟩
                  (simp [intOf]; try omega)
                · obtain rfl : j' = 5 := by omega
                  have e1 : ¬ ((5 : Nat) : Int) ≤ 4 := by omega
                  by_cases hs0 : q' 3 + q' 4 = 0
                  · obtain rfl : m' = 0 := hmade hs0
                    go_wp2_with ((first | (refine kf gf10 hst (hc0) rfl rfl rfl rfl ?_; clear hst; intro w hst) | (refine kf gf10 hst (hc5) rfl rfl rfl rfl ?_; clear hst; intro w hst) | (refine kg gf6 hst (fun w hst => hmd w (hst.owns (L := L') (.there (.there (.there .here))))) rfl rfl rfl rfl ?_; clear hst; intro w hst) | (refine wl_guard (by rfl) ?_) | (refine kb 4 hst rfl rfl ?_; clear hst; intro b4 w hb4 hst) | (refine kb 5 hst rfl rfl ?_; clear hst; intro b5 w hb5 hst) | (refine ka 8 hst tz30 rfl rfl ?_; clear hst; intro b8 w hb8 hst) | (refine kc hst tc3 rfl ?_) | (refine kl hst ta25 rfl ?_) | (refine klm hst ta25 rfl ?_) | (refine ks hst tc3 rfl rfl ?_; clear hst; intro w hst) | (refine kn tr25 tc23 rfl ?_)); try simp only [pz, pn, sz, sc])
                    refine ⟨⟨k + 1, 1, c', q', L', by omega, rfl, by go_num, hIF.out L' hS', by rw [hcs.out]; exact hst⟩, ?_⟩
                    (simp [intOf]; try omega)
                  · have hs1 : (q' 3 + q' 4 == 0) = false := by simpa using hs0
                    go_wp2_with ((first | (refine kf gf10 hst (hc0) rfl rfl rfl rfl ?_; clear hst; intro w hst) | (refine kf gf10 hst (hc5) rfl rfl rfl rfl ?_; clear hst; intro w hst) | (refine wl_guard (by rfl) ?_) | (refine kb 4 hst rfl rfl ?_; clear hst; intro b4 w hb4 hst) | (refine kb 5 hst rfl rfl ?_; clear hst; intro b5 w hb5 hst) | (refine ka 8 hst tz30 rfl rfl ?_; clear hst; intro b8 w hb8 hst) | (refine kc hst tc3 rfl ?_) | (refine kl hst ta25 rfl ?_) | (refine klm hst ta25 rfl ?_) | (refine ks hst tc3 rfl rfl ?_; clear hst; intro w hst) | (refine kn tr25 tc23 rfl ?_)); try simp only [pz, pn, sz, sc])
                    refine ⟨⟨k + 1, 1, c', q', L', by omega, rfl, by go_num, hIF.out L' hS', by rw [hcs.out]; exact hst⟩, ?_⟩
                    (simp [intOf]; try omega)
            · by_cases he0 : e = 0
              · subst he0
                have p3 : decide ((3 : Int) ≤ (j : Int)) = false := decide_eq_false (fun h => hne ⟨rfl, by omega⟩)
                rw [show ((0 : Nat) : Int) = 0 from rfl] at hdv
                clear hne
                go_wp2_with ((first | (refine wl_guard (by rfl) ?_) | (refine kb 4 hst rfl rfl ?_; clear hst; intro b4 w hb4 hst) | (refine kb 5 hst rfl rfl ?_; clear hst; intro b5 w hb5 hst) | (refine ka 8 hst tz30 rfl rfl ?_; clear hst; intro b8 w hb8 hst) | (refine kc hst tc3 rfl ?_) | (refine kl hst ta25 rfl ?_) | (refine klm hst ta25 rfl ?_) | (refine ks hst tc3 rfl rfl ?_; clear hst; intro w hst) | (refine kn tr25 tc23 rfl ?_)); try simp only [pz, pn, sz, sc])
                refine wp_region_TV 13 [(b8, .cells cs 30), (b5, .cells (wc 8 d) 25), (b4, .cells (wc 8 n) 25)] hst (by kernel_rfl) ?_; clear hst; intro w hst; (try dsimp only [List.length_cons, List.length_nil]); (try simp only [List.length_cons, List.length_nil, Nat.reduceAdd, Array.replicate_succ, Array.replicate_zero, List.push_toArray, List.nil_append, List.cons_append])
                refine r0 0 ?_; simp only [pz, pn, sz, sc]
                refine r0 1 ?_; simp only [pz, pn, sz, sc]
                refine r0 2 ?_; simp only [pz, pn, sz, sc]
                refine r0 3 ?_; simp only [pz, pn, sz, sc]
                refine rl 4 rfl ?_ (by first | exact fun w hw => run_opLoadW hw.keeps tc3 rfl (by rfl) hcell'.out | exact ylC tc3); simp only [pz, pn, sz, sc]
                refine rl 5 rfl ?_ (by first | exact ylA ta25 | exact ylM ta25); simp only [pz, pn, sz, sc]
                refine rl 6 rfl ?_ (by first | exact ylA ta25 | exact ylM ta25); simp only [pz, pn, sz, sc]
                refine r1 7 ?_; (first | (refine kZ (o := ⟨some 42, _, _, _, _, _⟩) (fun L' => (b8, .cells cs 30) :: (b5, .cells (wc 8 d) 25) :: (b4, .cells (wc 8 n) 25) :: L') gf7 hst (fun w hst => hdv w (hZ.out w hst.keeps) (hst.owns (L := L) (.there (.there (.there .here))))) rfl rfl rfl rfl ?_; clear hst; intro v42 L' w hR hnew2 hst; obtain ⟨rfl, hS'⟩ := hR) | (refine kp ?_)); (try simp only [pz, pn, sz, sc]); refine re ?_
                refine r0 8 ?_; simp only [pz, pn, sz, sc]
                refine r0 9 ?_; simp only [pz, pn, sz, sc]
                refine r0 10 ?_; simp only [pz, pn, sz, sc]
                refine r0 11 ?_; simp only [pz, pn, sz, sc]
                refine r0 12 ?_; simp only [pz, pn, sz, sc]
                refine rd_ ?_
                have hI2 := hIF.out L' hS'
                have hmd := fun w ho => engine_MadeS bs br c' hI2.ok q' L' hS' w ho
                have hcnt := Lib.hid (fun jj h1 h2 w ho => engine_CountS bs br c' q' L' hS' jj h1 h2 w ho)
                have hget' := Lib.hid (fun i h => cntC_get q' i h)
                have hg3 := cntC_get q' 3 (by omega)
                have hg4 := cntC_get q' 4 (by omega)
                have hsz' : (cntC q').size = 5 := rfl
                have hc0 := engine_Count_no bs 0 (by omega)
                have hc5 := engine_Count_no bs 5 (by omega)
                obtain ⟨⟨_, gm, m1⟩, _, _, qb, hmade, _⟩ := hI2
                have gm1 : ¬ madeC c' < g' := by omega
                have gm2 : ¬ 1 < madeC c' := by omega
                obtain ⟨q31, q32⟩ := qb 3
                obtain ⟨q41, q42⟩ := qb 4
                clear qb gm m1
                generalize madeC c' = m' at *
                generalize hcs0 : cntC q' = cs' at *
                have hcs := Lib.hid hcs0
                clear hcs0
                go_wp2_with ((first | (refine kcw hst tc3 (fun w hst => hst.keeps.cell hcell'.out) rfl ?_) | (refine kf gf9 hst (his) rfl rfl rfl rfl ?_; clear hst; intro w hst) | (refine kg gf6 hst (fun w hst => hmd w (hst.owns (L := L') (.there (.there (.there .here))))) rfl rfl rfl rfl ?_; clear hst; intro w hst) | (refine wl_guard (by rfl) ?_) | (refine kb 4 hst rfl rfl ?_; clear hst; intro b4 w hb4 hst) | (refine kb 5 hst rfl rfl ?_; clear hst; intro b5 w hb5 hst) | (refine ka 8 hst tz30 rfl rfl ?_; clear hst; intro b8 w hb8 hst) | (refine kc hst tc3 rfl ?_) | (refine kl hst ta25 rfl ?_) | (refine klm hst ta25 rfl ?_) | (refine ks hst tc3 rfl rfl ?_; clear hst; intro w hst; (try rw [hset1.out] at hst)) | (refine kn tr25 tc23 rfl ?_)); try simp only [pz, pn, sz, sc])
                go_loopw [12] (fun vj wr => ∃ j' : Nat, 1 ≤ j' ∧ j' ≤ 5 ∧ vj = .int .i64 j' ∧ St w0 [] ((b8, .cells cs' 30) :: (b5, .cells (wc 8 d) 25) :: (b4, .cells (wc 8 n) 25) :: L') wr) (fun vj _ => 5 - (intOf vj).toNat)
                case atStart => exact ⟨1, by omega, by omega, rfl, hst⟩
                case round =>
                  clear hst
                  obtain ⟨j', j1', j2', rfl, hst⟩ := hrel
                  by_cases hlt' : j' < 5
                  · have e1 : (j' : Int) ≤ 4 := by omega
                    have e2 : (j' : Int) < 5 := by omega
                    have e3 : (0 : Int) ≤ (j' : Int) := by omega
                    have e4 : j' < 5 := hlt'
                    have hgj := hget'.out j' (by omega)
                    have hcj := hcnt.out j' j1' (by omega)
                    generalize q' j' = qj at *
                    go_wp2_with ((first | (refine wl_guard (by rfl) ?_) | (refine kb 4 hst rfl rfl ?_; clear hst; intro b4 w hb4 hst) | (refine kb 5 hst rfl rfl ?_; clear hst; intro b5 w hb5 hst) | (refine ka 8 hst tz30 rfl rfl ?_; clear hst; intro b8 w hb8 hst) | (refine kc hst tc3 rfl ?_) | (refine kl hst ta25 rfl ?_) | (refine klm hst ta25 rfl ?_) | (refine ks hst tc3 rfl rfl ?_; clear hst; intro w hst) | (refine kn tr25 tc23 rfl ?_)); try simp only [pz, pn, sz, sc])
                    refine wp_region_T 7  hst (by kernel_rfl) ?_; clear hst; intro w hst; (try dsimp only [List.length_cons, List.length_nil]); (try simp only [List.length_cons, List.length_nil, Nat.reduceAdd, Array.replicate_succ, Array.replicate_zero, List.push_toArray, List.nil_append, List.cons_append])
                    refine r0 0 ?_; simp only [pz, pn, sz, sc]
                    refine r0 1 ?_; simp only [pz, pn, sz, sc]
                    refine r0 3 ?_; simp only [pz, pn, sz, sc]
                    refine r0 4 ?_; simp only [pz, pn, sz, sc]
                    refine rl 5 rfl ?_ (ylC tc3); simp only [pz, pn, sz, sc]
                    refine r1 2 ?_; (first | (refine kg gf10 hst (fun w hst => hcj w (hst.owns (L := L') (.there (.there (.there .here))))) rfl rfl rfl rfl ?_; clear hst; intro w hst) | (refine kp ?_)); (try simp only [pz, pn, sz, sc]); refine re ?_
                    refine r0 6 ?_; simp only [pz, pn, sz, sc]
                    refine rd_ ?_
                    go_wp2_with ((first | (refine wl_guard (by rfl) ?_) | (refine kb 4 hst rfl rfl ?_; clear hst; intro b4 w hb4 hst) | (refine kb 5 hst rfl rfl ?_; clear hst; intro b5 w hb5 hst) | (refine ka 8 hst tz30 rfl rfl ?_; clear hst; intro b8 w hb8 hst) | (refine kc hst tc3 rfl ?_) | (refine kl hst ta25 rfl ?_) | (refine klm hst ta25 rfl ?_) | (refine ks hst tc3 rfl rfl ?_; clear hst; intro w hst) | (refine kn tr25 tc23 rfl ?_)); try simp only [pz, pn, sz, sc])
                    refine ⟨⟨j' + 1, by omega, by omega, by go_num, hst⟩, ?_⟩
                    (simp [intOf]; try omega)
                  · obtain rfl : j' = 5 := by omega
                    have e1 : ¬ ((5 : Nat) : Int) ≤ 4 := by omega
                    by_cases hs0 : q' 3 + q' 4 = 0
                    · obtain rfl : m' = 0 := hmade hs0
                      go_wp2_with ((first | (refine kf gf10 hst (hc0) rfl rfl rfl rfl ?_; clear hst; intro w hst) | (refine kf gf10 hst (hc5) rfl rfl rfl rfl ?_; clear hst; intro w hst) | (refine kg gf6 hst (fun w hst => hmd w (hst.owns (L := L') (.there (.there (.there .here))))) rfl rfl rfl rfl ?_; clear hst; intro w hst) | (refine wl_guard (by rfl) ?_) | (refine kb 4 hst rfl rfl ?_; clear hst; intro b4 w hb4 hst) | (refine kb 5 hst rfl rfl ?_; clear hst; intro b5 w hb5 hst) | (refine ka 8 hst tz30 rfl rfl ?_; clear hst; intro b8 w hb8 hst) | (refine kc hst tc3 rfl ?_) | (refine kl hst ta25 rfl ?_) | (refine klm hst ta25 rfl ?_) | (refine ks hst tc3 rfl rfl ?_; clear hst; intro w hst) | (refine kn tr25 tc23 rfl ?_)); try simp only [pz, pn, sz, sc])
                      refine ⟨⟨k + 1, g', c', q', L', by omega, rfl, by go_num, hIF.out L' hS', by rw [hcs.out]; exact hst⟩, ?_⟩
                      (simp [intOf]; try omega)
                    · have hs1 : (q' 3 + q' 4 == 0) = false := by simpa using hs0
                      go_wp2_with ((first | (refine kf gf10 hst (hc0) rfl rfl rfl rfl ?_; clear hst; intro w hst) | (refine kf gf10 hst (hc5) rfl rfl rfl rfl ?_; clear hst; intro w hst) | (refine wl_guard (by rfl) ?_) | (refine kb 4 hst rfl rfl ?_; clear hst; intro b4 w hb4 hst) | (refine kb 5 hst rfl rfl ?_; clear hst; intro b5 w hb5 hst) | (refine ka 8 hst tz30 rfl rfl ?_; clear hst; intro b8 w hb8 hst) | (refine kc hst tc3 rfl ?_) | (refine kl hst ta25 rfl ?_) | (refine klm hst ta25 rfl ?_) | (refine ks hst tc3 rfl rfl ?_; clear hst; intro w hst) | (refine kn tr25 tc23 rfl ?_)); try simp only [pz, pn, sz, sc])
                      refine ⟨⟨k + 1, g', c', q', L', by omega, rfl, by go_num, hIF.out L' hS', by rw [hcs.out]; exact hst⟩, ?_⟩
                      (simp [intOf]; try omega)
              · have Q0 : ((e : Int) == 0) = false := by simp; omega
                clear hne he0
                go_wp2_with ((first | (refine wl_guard (by rfl) ?_) | (refine kb 4 hst rfl rfl ?_; clear hst; intro b4 w hb4 hst) | (refine kb 5 hst rfl rfl ?_; clear hst; intro b5 w hb5 hst) | (refine ka 8 hst tz30 rfl rfl ?_; clear hst; intro b8 w hb8 hst) | (refine kc hst tc3 rfl ?_) | (refine kl hst ta25 rfl ?_) | (refine klm hst ta25 rfl ?_) | (refine ks hst tc3 rfl rfl ?_; clear hst; intro w hst) | (refine kn tr25 tc23 rfl ?_)); try simp only [pz, pn, sz, sc])
                refine wp_region_TV 13 [(b8, .cells cs 30), (b5, .cells (wc 8 d) 25), (b4, .cells (wc 8 n) 25)] hst (by kernel_rfl) ?_; clear hst; intro w hst; (try dsimp only [List.length_cons, List.length_nil]); (try simp only [List.length_cons, List.length_nil, Nat.reduceAdd, Array.replicate_succ, Array.replicate_zero, List.push_toArray, List.nil_append, List.cons_append])
                refine r0 0 ?_; simp only [pz, pn, sz, sc]
                refine r0 1 ?_; simp only [pz, pn, sz, sc]
                refine r0 2 ?_; simp only [pz, pn, sz, sc]
                refine r0 3 ?_; simp only [pz, pn, sz, sc]
                refine rl 4 rfl ?_ (by first | exact fun w hw => run_opLoadW hw.keeps tc3 rfl (by rfl) hcell'.out | exact ylC tc3); simp only [pz, pn, sz, sc]
                refine rl 5 rfl ?_ (by first | exact ylA ta25 | exact ylM ta25); simp only [pz, pn, sz, sc]
                refine rl 6 rfl ?_ (by first | exact ylA ta25 | exact ylM ta25); simp only [pz, pn, sz, sc]
                refine r1 7 ?_; (first | (refine kZ (o := ⟨some 42, _, _, _, _, _⟩) (fun L' => (b8, .cells cs 30) :: (b5, .cells (wc 8 d) 25) :: (b4, .cells (wc 8 n) 25) :: L') gf7 hst (fun w hst => hdv w (hZ.out w hst.keeps) (hst.owns (L := L) (.there (.there (.there .here))))) rfl rfl rfl rfl ?_; clear hst; intro v42 L' w hR hnew2 hst; obtain ⟨rfl, hS'⟩ := hR) | (refine kp ?_)); (try simp only [pz, pn, sz, sc]); refine re ?_
                refine r0 8 ?_; simp only [pz, pn, sz, sc]
                refine r0 9 ?_; simp only [pz, pn, sz, sc]
                refine r0 10 ?_; simp only [pz, pn, sz, sc]
                refine r0 11 ?_; simp only [pz, pn, sz, sc]
                refine r0 12 ?_; simp only [pz, pn, sz, sc]
                refine rd_ ?_
                have hI2 := hIF.out L' hS'
                have hmd := fun w ho => engine_MadeS bs br c' hI2.ok q' L' hS' w ho
                have hcnt := Lib.hid (fun jj h1 h2 w ho => engine_CountS bs br c' q' L' hS' jj h1 h2 w ho)
                have hget' := Lib.hid (fun i h => cntC_get q' i h)
                have hg3 := cntC_get q' 3 (by omega)
                have hg4 := cntC_get q' 4 (by omega)
                have hsz' : (cntC q').size = 5 := rfl
                have hc0 := engine_Count_no bs 0 (by omega)
                have hc5 := engine_Count_no bs 5 (by omega)
                obtain ⟨⟨_, gm, m1⟩, _, _, qb, hmade, _⟩ := hI2
                have gm1 : ¬ madeC c' < g' := by omega
                have gm2 : ¬ 1 < madeC c' := by omega
                obtain ⟨q31, q32⟩ := qb 3
                obtain ⟨q41, q42⟩ := qb 4
                clear qb gm m1
                generalize madeC c' = m' at *
                generalize hcs0 : cntC q' = cs' at *
                have hcs := Lib.hid hcs0
                clear hcs0
                go_wp2_with ((first | (refine kcw hst tc3 (fun w hst => hst.keeps.cell hcell'.out) rfl ?_) | (refine kf gf9 hst (his) rfl rfl rfl rfl ?_; clear hst; intro w hst) | (refine kg gf6 hst (fun w hst => hmd w (hst.owns (L := L') (.there (.there (.there .here))))) rfl rfl rfl rfl ?_; clear hst; intro w hst) | (refine wl_guard (by rfl) ?_) | (refine kb 4 hst rfl rfl ?_; clear hst; intro b4 w hb4 hst) | (refine kb 5 hst rfl rfl ?_; clear hst; intro b5 w hb5 hst) | (refine ka 8 hst tz30 rfl rfl ?_; clear hst; intro b8 w hb8 hst) | (refine kc hst tc3 rfl ?_) | (refine kl hst ta25 rfl ?_) | (refine klm hst ta25 rfl ?_) | (refine ks hst tc3 rfl rfl ?_; clear hst; intro w hst; (try rw [hset1.out] at hst)) | (refine kn tr25 tc23 rfl ?_)); try simp only [pz, pn, sz, sc])
                go_loopw [12] (fun vj wr => ∃ j' : Nat, 1 ≤ j' ∧ j' ≤ 5 ∧ vj = .int .i64 j' ∧ St w0 [] ((b8, .cells cs' 30) :: (b5, .cells (wc 8 d) 25) :: (b4, .cells (wc 8 n) 25) :: L') wr) (fun vj _ => 5 - (intOf vj).toNat)
                case atStart => exact ⟨1, by omega, by omega, rfl, hst⟩
                case round =>
                  clear hst
                  obtain ⟨j', j1', j2', rfl, hst⟩ := hrel
                  by_cases hlt' : j' < 5
                  · have e1 : (j' : Int) ≤ 4 := by omega
                    have e2 : (j' : Int) < 5 := by omega
                    have e3 : (0 : Int) ≤ (j' : Int) := by omega
                    have e4 : j' < 5 := hlt'
                    have hgj := hget'.out j' (by omega)
                    have hcj := hcnt.out j' j1' (by omega)
                    generalize q' j' = qj at *
                    go_wp2_with ((first | (refine wl_guard (by rfl) ?_) | (refine kb 4 hst rfl rfl ?_; clear hst; intro b4 w hb4 hst) | (refine kb 5 hst rfl rfl ?_; clear hst; intro b5 w hb5 hst) | (refine ka 8 hst tz30 rfl rfl ?_; clear hst; intro b8 w hb8 hst) | (refine kc hst tc3 rfl ?_) | (refine kl hst ta25 rfl ?_) | (refine klm hst ta25 rfl ?_) | (refine ks hst tc3 rfl rfl ?_; clear hst; intro w hst) | (refine kn tr25 tc23 rfl ?_)); try simp only [pz, pn, sz, sc])
                    refine wp_region_T 7  hst (by kernel_rfl) ?_; clear hst; intro w hst; (try dsimp only [List.length_cons, List.length_nil]); (try simp only [List.length_cons, List.length_nil, Nat.reduceAdd, Array.replicate_succ, Array.replicate_zero, List.push_toArray, List.nil_append, List.cons_append])
                    refine r0 0 ?_; simp only [pz, pn, sz, sc]
                    refine r0 1 ?_; simp only [pz, pn, sz, sc]
                    refine r0 3 ?_; simp only [pz, pn, sz, sc]
                    refine r0 4 ?_; simp only [pz, pn, sz, sc]
                    refine rl 5 rfl ?_ (ylC tc3); simp only [pz, pn, sz, sc]
                    refine r1 2 ?_; (first | (refine kg gf10 hst (fun w hst => hcj w (hst.owns (L := L') (.there (.there (.there .here))))) rfl rfl rfl rfl ?_; clear hst; intro w hst) | (refine kp ?_)); (try simp only [pz, pn, sz, sc]); refine re ?_
                    refine r0 6 ?_; simp only [pz, pn, sz, sc]
                    refine rd_ ?_
                    go_wp2_with ((first | (refine wl_guard (by rfl) ?_) | (refine kb 4 hst rfl rfl ?_; clear hst; intro b4 w hb4 hst) | (refine kb 5 hst rfl rfl ?_; clear hst; intro b5 w hb5 hst) | (refine ka 8 hst tz30 rfl rfl ?_; clear hst; intro b8 w hb8 hst) | (refine kc hst tc3 rfl ?_) | (refine kl hst ta25 rfl ?_) | (refine klm hst ta25 rfl ?_) | (refine ks hst tc3 rfl rfl ?_; clear hst; intro w hst) | (refine kn tr25 tc23 rfl ?_)); try simp only [pz, pn, sz, sc])
                    refine ⟨⟨j' + 1, by omega, by omega, by go_num, hst⟩, ?_⟩
                    (simp [intOf]; try omega)
                  · obtain rfl : j' = 5 := by omega
                    have e1 : ¬ ((5 : Nat) : Int) ≤ 4 := by omega
                    by_cases hs0 : q' 3 + q' 4 = 0
                    · obtain rfl : m' = 0 := hmade hs0
                      go_wp2_with ((first | (refine kf gf10 hst (hc0) rfl rfl rfl rfl ?_; clear hst; intro w hst) | (refine kf gf10 hst (hc5) rfl rfl rfl rfl ?_; clear hst; intro w hst) | (refine kg gf6 hst (fun w hst => hmd w (hst.owns (L := L') (.there (.there (.there .here))))) rfl rfl rfl rfl ?_; clear hst; intro w hst) | (refine wl_guard (by rfl) ?_) | (refine kb 4 hst rfl rfl ?_; clear hst; intro b4 w hb4 hst) | (refine kb 5 hst rfl rfl ?_; clear hst; intro b5 w hb5 hst) | (refine ka 8 hst tz30 rfl rfl ?_; clear hst; intro b8 w hb8 hst) | (refine kc hst tc3 rfl ?_) | (refine kl hst ta25 rfl ?_) | (refine klm hst ta25 rfl ?_) | (refine ks hst tc3 rfl rfl ?_; clear hst; intro w hst) | (refine kn tr25 tc23 rfl ?_)); try simp only [pz, pn, sz, sc])
                      refine ⟨⟨k + 1, g', c', q', L', by omega, rfl, by go_num, hIF.out L' hS', by rw [hcs.out]; exact hst⟩, ?_⟩
                      (simp [intOf]; try omega)
                    · have hs1 : (q' 3 + q' 4 == 0) = false := by simpa using hs0
                      go_wp2_with ((first | (refine kf gf10 hst (hc0) rfl rfl rfl rfl ?_; clear hst; intro w hst) | (refine kf gf10 hst (hc5) rfl rfl rfl rfl ?_; clear hst; intro w hst) | (refine wl_guard (by rfl) ?_) | (refine kb 4 hst rfl rfl ?_; clear hst; intro b4 w hb4 hst) | (refine kb 5 hst rfl rfl ?_; clear hst; intro b5 w hb5 hst) | (refine ka 8 hst tz30 rfl rfl ?_; clear hst; intro b8 w hb8 hst) | (refine kc hst tc3 rfl ?_) | (refine kl hst ta25 rfl ?_) | (refine klm hst ta25 rfl ?_) | (refine ks hst tc3 rfl rfl ?_; clear hst; intro w hst) | (refine kn tr25 tc23 rfl ?_)); try simp only [pz, pn, sz, sc])
                      refine ⟨⟨k + 1, g', c', q', L', by omega, rfl, by go_num, hIF.out L' hS', by rw [hcs.out]; exact hst⟩, ?_⟩
                      (simp [intOf]; try omega)
          · have hpar1 : (k : Int) % 2 = 1 := by omega
            clear hpar
            have hdiv := fun w ho => engine_RootS bs br c hcok q L hset j hj1 hj4 qj1 (by omega) n hn'.out w ho
            obtain ⟨e, he⟩ : ∃ e : Int, rootE n = e := ⟨_, rfl⟩
            rw [he] at hdiv
            generalize rootQ n = x1 at *
            generalize rootM n = x2 at *
            obtain ⟨c', hc'⟩ : ∃ c', c' = romK j n c := ⟨_, rfl⟩
            rw [← hc'] at hdiv
            obtain ⟨q', hq'⟩ : ∃ q', q' = bump j q := ⟨_, rfl⟩
            rw [← hq'] at hdiv hset1
            have hgc : ∃ g' : Int, ((e = 0 ∧ 3 ≤ j ∧ n ≠ 0 ∧ g' = 1 ∧ c' = romF) ∨ (¬ (e = 0 ∧ 3 ≤ j ∧ n ≠ 0) ∧ g' = g)) ∧ (c' = c ∨ (c' = romF ∧ 3 ≤ j)) := by
              by_cases hx : e = 0 ∧ 3 ≤ j ∧ n ≠ 0
              · have h256 : n < 2 ^ 256 := by
                  by_cases h : n < 2 ^ 256
                  · exact h
                  · exfalso
                    have : rootE n = 4 := if_neg h
                    omega
                refine ⟨1, .inl ⟨hx.1, hx.2.1, hx.2.2, rfl, ?_⟩, .inr ⟨?_, hx.2.1⟩⟩ <;> (rw [hc']; unfold romK; rw [if_neg (by omega)]; exact romTo_made _ hx.2.2 h256)
              · refine ⟨g, .inr ⟨hx, rfl⟩, ?_⟩
                rw [hc']; unfold romK
                by_cases h3 : j < 3
                · rw [if_pos h3]; exact .inl rfl
                · rw [if_neg h3]
                  by_cases h0 : n = 0
                  · rw [h0]; exact .inl (romTo_zero _)
                  · refine .inl (romTo_big _ fun h => hx ⟨?_, by omega, h0⟩)
                    rw [← he]; exact if_pos h
            obtain ⟨g', hgg, hcc⟩ := hgc
            have hIF := Lib.hid (show ∀ L', SetSt bs br c' q' L' → CntI bs br (k + 1) g' c' q' L' from fun L' hS' => by
              subst hq'
              exact hI'.out.yes j hj1 hj4 hS' hcc (by rcases hgg with h | h; exact .inr ⟨h.2.2.2.1, h.2.2.2.2⟩; exact .inl h.2))
            clear hc' hcc hset hcok hI' he hq'
            generalize cntC q = cs at *
            have hdv := fun w ho => hdiv w ho
            clear hdiv
            have hn0 : n < M := hn'.out
            have hM0 : 0 < M := M_pos
            rcases hgg with ⟨rfl, h3, h0, rfl, _⟩ | ⟨hne, rfl⟩
            · have p3 : (3 : Int) ≤ (j : Int) := by omega
              have Qn : decide (n = 0) = false := by simpa using h0
              clear h3 h0
              go_wp2_with ((first | (refine wl_guard (by rfl) ?_) | (refine kb 4 hst rfl rfl ?_; clear hst; intro b4 w hb4 hst) | (refine kb 5 hst rfl rfl ?_; clear hst; intro b5 w hb5 hst) | (refine ka 8 hst tz30 rfl rfl ?_; clear hst; intro b8 w hb8 hst) | (refine kc hst tc3 rfl ?_) | (refine kl hst ta25 rfl ?_) | (refine klm hst ta25 rfl ?_) | (refine ks hst tc3 rfl rfl ?_; clear hst; intro w hst) | (refine kn tr25 tc23 rfl ?_)); try simp only [pz, pn, sz, sc])
              refine wp_region_TV 12 [(b8, .cells cs 30), (b5, .cells (wc 8 d) 25), (b4, .cells (wc 8 n) 25)] hst (by kernel_rfl) ?_; clear hst; intro w hst; (try dsimp only [List.length_cons, List.length_nil]); (try simp only [List.length_cons, List.length_nil, Nat.reduceAdd, Array.replicate_succ, Array.replicate_zero, List.push_toArray, List.nil_append, List.cons_append])
              refine r0 0 ?_; simp only [pz, pn, sz, sc]
              refine r0 1 ?_; simp only [pz, pn, sz, sc]
              refine r0 2 ?_; simp only [pz, pn, sz, sc]
              refine r0 3 ?_; simp only [pz, pn, sz, sc]
              refine rl 4 rfl ?_ (by first | exact fun w hw => run_opLoadW hw.keeps tc3 rfl (by rfl) hcell'.out | exact ylC tc3); simp only [pz, pn, sz, sc]
              refine rl 5 rfl ?_ (by first | exact ylA ta25 | exact ylM ta25); simp only [pz, pn, sz, sc]
              refine r1 6 ?_; (first | (refine kZ (o := ⟨some 53, _, _, _, _, _⟩) (fun L' => (b8, .cells cs 30) :: (b5, .cells (wc 8 d) 25) :: (b4, .cells (wc 8 n) 25) :: L') gf8 hst (fun w hst => hdv w (hst.owns (L := L) (.there (.there (.there .here))))) rfl rfl rfl rfl ?_; clear hst; intro v42 L' w hR hnew2 hst; obtain ⟨rfl, hS'⟩ := hR) | (refine kp ?_)); (try simp only [pz, pn, sz, sc]); refine re ?_
              refine r0 7 ?_; simp only [pz, pn, sz, sc]
              refine r0 8 ?_; simp only [pz, pn, sz, sc]
              refine r0 9 ?_; simp only [pz, pn, sz, sc]
              refine r0 10 ?_; simp only [pz, pn, sz, sc]
              refine r0 11 ?_; simp only [pz, pn, sz, sc]
              refine rd_ ?_
              have hI2 := hIF.out L' hS'
              have hmd := fun w ho => engine_MadeS bs br c' hI2.ok q' L' hS' w ho
              have hcnt := Lib.hid (fun jj h1 h2 w ho => engine_CountS bs br c' q' L' hS' jj h1 h2 w ho)
              have hget' := Lib.hid (fun i h => cntC_get q' i h)
              have hg3 := cntC_get q' 3 (by omega)
              have hg4 := cntC_get q' 4 (by omega)
              have hsz' : (cntC q').size = 5 := rfl
              have hc0 := engine_Count_no bs 0 (by omega)
              have hc5 := engine_Count_no bs 5 (by omega)
              obtain ⟨⟨_, gm, m1⟩, _, _, qb, hmade, _⟩ := hI2
              have gm1 : ¬ madeC c' < 1 := by omega
              have gm2 : ¬ 1 < madeC c' := by omega
              obtain ⟨q31, q32⟩ := qb 3
              obtain ⟨q41, q42⟩ := qb 4
              clear qb gm m1
              generalize madeC c' = m' at *
              generalize hcs0 : cntC q' = cs' at *
              have hcs := Lib.hid hcs0
              clear hcs0
              go_wp2_with ((first | (refine kcw hst tc3 (fun w hst => hst.keeps.cell hcell'.out) rfl ?_) | (refine kf gf9 hst (his) rfl rfl rfl rfl ?_; clear hst; intro w hst) | (refine kg gf6 hst (fun w hst => hmd w (hst.owns (L := L') (.there (.there (.there .here))))) rfl rfl rfl rfl ?_; clear hst; intro w hst) | (refine wl_guard (by rfl) ?_) | (refine kb 4 hst rfl rfl ?_; clear hst; intro b4 w hb4 hst) | (refine kb 5 hst rfl rfl ?_; clear hst; intro b5 w hb5 hst) | (refine ka 8 hst tz30 rfl rfl ?_; clear hst; intro b8 w hb8 hst) | (refine kc hst tc3 rfl ?_) | (refine kl hst ta25 rfl ?_) | (refine klm hst ta25 rfl ?_) | (refine ks hst tc3 rfl rfl ?_; clear hst; intro w hst; (try rw [hset1.out] at hst)) | (refine kn tr25 tc23 rfl ?_)); try simp only [pz, pn, sz, sc])
              go_loopw [12] (fun vj wr => ∃ j' : Nat, 1 ≤ j' ∧ j' ≤ 5 ∧ vj = .int .i64 j' ∧ St w0 [] ((b8, .cells cs' 30) :: (b5, .cells (wc 8 d) 25) :: (b4, .cells (wc 8 n) 25) :: L') wr) (fun vj _ => 5 - (intOf vj).toNat)
              case atStart => exact ⟨1, by omega, by omega, rfl, hst⟩
              case round =>
                clear hst
                obtain ⟨j', j1', j2', rfl, hst⟩ := hrel
                by_cases hlt' : j' < 5
                · have e1 : (j' : Int) ≤ 4 := by omega
                  have e2 : (j' : Int) < 5 := by omega
                  have e3 : (0 : Int) ≤ (j' : Int) := by omega
                  have e4 : j' < 5 := hlt'
                  have hgj := hget'.out j' (by omega)
                  have hcj := hcnt.out j' j1' (by omega)
                  generalize q' j' = qj at *
                  go_wp2_with ((first | (refine wl_guard (by rfl) ?_) | (refine kb 4 hst rfl rfl ?_; clear hst; intro b4 w hb4 hst) | (refine kb 5 hst rfl rfl ?_; clear hst; intro b5 w hb5 hst) | (refine ka 8 hst tz30 rfl rfl ?_; clear hst; intro b8 w hb8 hst) | (refine kc hst tc3 rfl ?_) | (refine kl hst ta25 rfl ?_) | (refine klm hst ta25 rfl ?_) | (refine ks hst tc3 rfl rfl ?_; clear hst; intro w hst) | (refine kn tr25 tc23 rfl ?_)); try simp only [pz, pn, sz, sc])
                  refine wp_region_T 7  hst (by kernel_rfl) ?_; clear hst; intro w hst; (try dsimp only [List.length_cons, List.length_nil]); (try simp only [List.length_cons, List.length_nil, Nat.reduceAdd, Array.replicate_succ, Array.replicate_zero, List.push_toArray, List.nil_append, List.cons_append])
                  refine r0 0 ?_; simp only [pz, pn, sz, sc]
                  refine r0 1 ?_; simp only [pz, pn, sz, sc]
                  refine r0 3 ?_; simp only [pz, pn, sz, sc]
                  refine r0 4 ?_; simp only [pz, pn, sz, sc]
                  refine rl 5 rfl ?_ (ylC tc3); simp only [pz, pn, sz, sc]
                  refine r1 2 ?_; (first | (refine kg gf10 hst (fun w hst => hcj w (hst.owns (L := L') (.there (.there (.there .here))))) rfl rfl rfl rfl ?_; clear hst; intro w hst) | (refine kp ?_)); (try simp only [pz, pn, sz, sc]); refine re ?_
                  refine r0 6 ?_; simp only [pz, pn, sz, sc]
                  refine rd_ ?_
                  go_wp2_with ((first | (refine wl_guard (by rfl) ?_) | (refine kb 4 hst rfl rfl ?_; clear hst; intro b4 w hb4 hst) | (refine kb 5 hst rfl rfl ?_; clear hst; intro b5 w hb5 hst) | (refine ka 8 hst tz30 rfl rfl ?_; clear hst; intro b8 w hb8 hst) | (refine kc hst tc3 rfl ?_) | (refine kl hst ta25 rfl ?_) | (refine klm hst ta25 rfl ?_) | (refine ks hst tc3 rfl rfl ?_; clear hst; intro w hst) | (refine kn tr25 tc23 rfl ?_)); try simp only [pz, pn, sz, sc])
                  refine ⟨⟨j' + 1, by omega, by omega, by go_num, hst⟩, ?_⟩
                  (simp [intOf]; try omega)
                · obtain rfl : j' = 5 := by omega
                  have e1 : ¬ ((5 : Nat) : Int) ≤ 4 := by omega
                  by_cases hs0 : q' 3 + q' 4 = 0
                  · obtain rfl : m' = 0 := hmade hs0
                    go_wp2_with ((first | (refine kf gf10 hst (hc0) rfl rfl rfl rfl ?_; clear hst; intro w hst) | (refine kf gf10 hst (hc5) rfl rfl rfl rfl ?_; clear hst; intro w hst) | (refine kg gf6 hst (fun w hst => hmd w (hst.owns (L := L') (.there (.there (.there .here))))) rfl rfl rfl rfl ?_; clear hst; intro w hst) | (refine wl_guard (by rfl) ?_) | (refine kb 4 hst rfl rfl ?_; clear hst; intro b4 w hb4 hst) | (refine kb 5 hst rfl rfl ?_; clear hst; intro b5 w hb5 hst) | (refine ka 8 hst tz30 rfl rfl ?_; clear hst; intro b8 w hb8 hst) | (refine kc hst tc3 rfl ?_) | (refine kl hst ta25 rfl ?_) | (refine klm hst ta25 rfl ?_) | (refine ks hst tc3 rfl rfl ?_; clear hst; intro w hst) | (refine kn tr25 tc23 rfl ?_)); try simp only [pz, pn, sz, sc])
                    refine ⟨⟨k + 1, 1, c', q', L', by omega, rfl, by go_num, hIF.out L' hS', by rw [hcs.out]; exact hst⟩, ?_⟩
                    (simp [intOf]; try omega)
                  · have hs1 : (q' 3 + q' 4 == 0) = false := by simpa using hs0
                    go_wp2_with ((first | (refine kf gf10 hst (hc0) rfl rfl rfl rfl ?_; clear hst; intro w hst) | (refine kf gf10 hst (hc5) rfl rfl rfl rfl ?_; clear hst; intro w hst) | (refine wl_guard (by rfl) ?_) | (refine kb 4 hst rfl rfl ?_; clear hst; intro b4 w hb4 hst) | (refine kb 5 hst rfl rfl ?_; clear hst; intro b5 w hb5 hst) | (refine ka 8 hst tz30 rfl rfl ?_; clear hst; intro b8 w hb8 hst) | (refine kc hst tc3 rfl ?_) | (refine kl hst ta25 rfl ?_) | (refine klm hst ta25 rfl ?_) | (refine ks hst tc3 rfl rfl ?_; clear hst; intro w hst) | (refine kn tr25 tc23 rfl ?_)); try simp only [pz, pn, sz, sc])
                    refine ⟨⟨k + 1, 1, c', q', L', by omega, rfl, by go_num, hIF.out L' hS', by rw [hcs.out]; exact hst⟩, ?_⟩
                    (simp [intOf]; try omega)
            · by_cases he0 : e = 0
              · subst he0
                by_cases h3 : 3 ≤ j
                · have p3 : (3 : Int) ≤ (j : Int) := by omega
                  have Qn : decide (n = 0) = true := by
                    have : n = 0 := by
                      by_cases h0 : n = 0
                      · exact h0
                      · exact absurd ⟨rfl, h3, h0⟩ hne
                    simpa using this
                  clear hne h3
                  go_wp2_with ((first | (refine wl_guard (by rfl) ?_) | (refine kb 4 hst rfl rfl ?_; clear hst; intro b4 w hb4 hst) | (refine kb 5 hst rfl rfl ?_; clear hst; intro b5 w hb5 hst) | (refine ka 8 hst tz30 rfl rfl ?_; clear hst; intro b8 w hb8 hst) | (refine kc hst tc3 rfl ?_) | (refine kl hst ta25 rfl ?_) | (refine klm hst ta25 rfl ?_) | (refine ks hst tc3 rfl rfl ?_; clear hst; intro w hst) | (refine kn tr25 tc23 rfl ?_)); try simp only [pz, pn, sz, sc])
                  refine wp_region_TV 12 [(b8, .cells cs 30), (b5, .cells (wc 8 d) 25), (b4, .cells (wc 8 n) 25)] hst (by kernel_rfl) ?_; clear hst; intro w hst; (try dsimp only [List.length_cons, List.length_nil]); (try simp only [List.length_cons, List.length_nil, Nat.reduceAdd, Array.replicate_succ, Array.replicate_zero, List.push_toArray, List.nil_append, List.cons_append])
                  refine r0 0 ?_; simp only [pz, pn, sz, sc]
                  refine r0 1 ?_; simp only [pz, pn, sz, sc]
                  refine r0 2 ?_; simp only [pz, pn, sz, sc]
                  refine r0 3 ?_; simp only [pz, pn, sz, sc]
                  refine rl 4 rfl ?_ (by first | exact fun w hw => run_opLoadW hw.keeps tc3 rfl (by rfl) hcell'.out | exact ylC tc3); simp only [pz, pn, sz, sc]
                  refine rl 5 rfl ?_ (by first | exact ylA ta25 | exact ylM ta25); simp only [pz, pn, sz, sc]
                  refine r1 6 ?_; (first | (refine kZ (o := ⟨some 53, _, _, _, _, _⟩) (fun L' => (b8, .cells cs 30) :: (b5, .cells (wc 8 d) 25) :: (b4, .cells (wc 8 n) 25) :: L') gf8 hst (fun w hst => hdv w (hst.owns (L := L) (.there (.there (.there .here))))) rfl rfl rfl rfl ?_; clear hst; intro v42 L' w hR hnew2 hst; obtain ⟨rfl, hS'⟩ := hR) | (refine kp ?_)); (try simp only [pz, pn, sz, sc]); refine re ?_
                  refine r0 7 ?_; simp only [pz, pn, sz, sc]
                  refine r0 8 ?_; simp only [pz, pn, sz, sc]
                  refine r0 9 ?_; simp only [pz, pn, sz, sc]
                  refine r0 10 ?_; simp only [pz, pn, sz, sc]
                  refine r0 11 ?_; simp only [pz, pn, sz, sc]
                  refine rd_ ?_
                  have hI2 := hIF.out L' hS'
                  have hmd := fun w ho => engine_MadeS bs br c' hI2.ok q' L' hS' w ho
                  have hcnt := Lib.hid (fun jj h1 h2 w ho => engine_CountS bs br c' q' L' hS' jj h1 h2 w ho)
                  have hget' := Lib.hid (fun i h => cntC_get q' i h)
                  have hg3 := cntC_get q' 3 (by omega)
                  have hg4 := cntC_get q' 4 (by omega)
                  have hsz' : (cntC q').size = 5 := rfl
                  have hc0 := engine_Count_no bs 0 (by omega)
                  have hc5 := engine_Count_no bs 5 (by omega)
                  obtain ⟨⟨_, gm, m1⟩, _, _, qb, hmade, _⟩ := hI2
                  have gm1 : ¬ madeC c' < g' := by omega
                  have gm2 : ¬ 1 < madeC c' := by omega
                  obtain ⟨q31, q32⟩ := qb 3
                  obtain ⟨q41, q42⟩ := qb 4
                  clear qb gm m1
                  generalize madeC c' = m' at *
                  generalize hcs0 : cntC q' = cs' at *
                  have hcs := Lib.hid hcs0
                  clear hcs0
                  go_wp2_with ((first | (refine kcw hst tc3 (fun w hst => hst.keeps.cell hcell'.out) rfl ?_) | (refine kf gf9 hst (his) rfl rfl rfl rfl ?_; clear hst; intro w hst) | (refine kg gf6 hst (fun w hst => hmd w (hst.owns (L := L') (.there (.there (.there .here))))) rfl rfl rfl rfl ?_; clear hst; intro w hst) | (refine wl_guard (by rfl) ?_) | (refine kb 4 hst rfl rfl ?_; clear hst; intro b4 w hb4 hst) | (refine kb 5 hst rfl rfl ?_; clear hst; intro b5 w hb5 hst) | (refine ka 8 hst tz30 rfl rfl ?_; clear hst; intro b8 w hb8 hst) | (refine kc hst tc3 rfl ?_) | (refine kl hst ta25 rfl ?_) | (refine klm hst ta25 rfl ?_) | (refine ks hst tc3 rfl rfl ?_; clear hst; intro w hst; (try rw [hset1.out] at hst)) | (refine kn tr25 tc23 rfl ?_)); try simp only [pz, pn, sz, sc])
                  go_loopw [12] (fun vj wr => ∃ j' : Nat, 1 ≤ j' ∧ j' ≤ 5 ∧ vj = .int .i64 j' ∧ St w0 [] ((b8, .cells cs' 30) :: (b5, .cells (wc 8 d) 25) :: (b4, .cells (wc 8 n) 25) :: L') wr) (fun vj _ => 5 - (intOf vj).toNat)
                  case atStart => exact ⟨1, by omega, by omega, rfl, hst⟩
                  case round =>
                    clear hst
                    obtain ⟨j', j1', j2', rfl, hst⟩ := hrel
                    by_cases hlt' : j' < 5
                    · have e1 : (j' : Int) ≤ 4 := by omega
                      have e2 : (j' : Int) < 5 := by omega
                      have e3 : (0 : Int) ≤ (j' : Int) := by omega
                      have e4 : j' < 5 := hlt'
                      have hgj := hget'.out j' (by omega)
                      have hcj := hcnt.out j' j1' (by omega)
                      generalize q' j' = qj at *
                      go_wp2_with ((first | (refine wl_guard (by rfl) ?_) | (refine kb 4 hst rfl rfl ?_; clear hst; intro b4 w hb4 hst) | (refine kb 5 hst rfl rfl ?_; clear hst; intro b5 w hb5 hst) | (refine ka 8 hst tz30 rfl rfl ?_; clear hst; intro b8 w hb8 hst) | (refine kc hst tc3 rfl ?_) | (refine kl hst ta25 rfl ?_) | (refine klm hst ta25 rfl ?_) | (refine ks hst tc3 rfl rfl ?_; clear hst; intro w hst) | (refine kn tr25 tc23 rfl ?_)); try simp only [pz, pn, sz, sc])
                      refine wp_region_T 7  hst (by kernel_rfl) ?_; clear hst; intro w hst; (try dsimp only [List.length_cons, List.length_nil]); (try simp only [List.length_cons, List.length_nil, Nat.reduceAdd, Array.replicate_succ, Array.replicate_zero, List.push_toArray, List.nil_append, List.cons_append])
                      refine r0 0 ?_; simp only [pz, pn, sz, sc]
                      refine r0 1 ?_; simp only [pz, pn, sz, sc]
                      refine r0 3 ?_; simp only [pz, pn, sz, sc]
                      refine r0 4 ?_; simp only [pz, pn, sz, sc]
                      refine rl 5 rfl ?_ (ylC tc3); simp only [pz, pn, sz, sc]
                      refine r1 2 ?_; (first | (refine kg gf10 hst (fun w hst => hcj w (hst.owns (L := L') (.there (.there (.there .here))))) rfl rfl rfl rfl ?_; clear hst; intro w hst) | (refine kp ?_)); (try simp only [pz, pn, sz, sc]); refine re ?_
                      refine r0 6 ?_; simp only [pz, pn, sz, sc]
                      refine rd_ ?_
                      go_wp2_with ((first | (refine wl_guard (by rfl) ?_) | (refine kb 4 hst rfl rfl ?_; clear hst; intro b4 w hb4 hst) | (refine kb 5 hst rfl rfl ?_; clear hst; intro b5 w hb5 hst) | (refine ka 8 hst tz30 rfl rfl ?_; clear hst; intro b8 w hb8 hst) | (refine kc hst tc3 rfl ?_) | (refine kl hst ta25 rfl ?_) | (refine klm hst ta25 rfl ?_) | (refine ks hst tc3 rfl rfl ?_; clear hst; intro w hst) | (refine kn tr25 tc23 rfl ?_)); try simp only [pz, pn, sz, sc])
                      refine ⟨⟨j' + 1, by omega, by omega, by go_num, hst⟩, ?_⟩
                      (simp [intOf]; try omega)
                    · obtain rfl : j' = 5 := by omega
                      have e1 : ¬ ((5 : Nat) : Int) ≤ 4 := by omega
                      by_cases hs0 : q' 3 + q' 4 = 0
                      · obtain rfl : m' = 0 := hmade hs0
                        go_wp2_with ((first | (refine kf gf10 hst (hc0) rfl rfl rfl rfl ?_; clear hst; intro w hst) | (refine kf gf10 hst (hc5) rfl rfl rfl rfl ?_; clear hst; intro w hst) | (refine kg gf6 hst (fun w hst => hmd w (hst.owns (L := L') (.there (.there (.there .here))))) rfl rfl rfl rfl ?_; clear hst; intro w hst) | (refine wl_guard (by rfl) ?_) | (refine kb 4 hst rfl rfl ?_; clear hst; intro b4 w hb4 hst) | (refine kb 5 hst rfl rfl ?_; clear hst; intro b5 w hb5 hst) | (refine ka 8 hst tz30 rfl rfl ?_; clear hst; intro b8 w hb8 hst) | (refine kc hst tc3 rfl ?_) | (refine kl hst ta25 rfl ?_) | (refine klm hst ta25 rfl ?_) | (refine ks hst tc3 rfl rfl ?_; clear hst; intro w hst) | (refine kn tr25 tc23 rfl ?_)); try simp only [pz, pn, sz, sc])
                        refine ⟨⟨k + 1, g', c', q', L', by omega, rfl, by go_num, hIF.out L' hS', by rw [hcs.out]; exact hst⟩, ?_⟩
                        (simp [intOf]; try omega)
                      · have hs1 : (q' 3 + q' 4 == 0) = false := by simpa using hs0
                        go_wp2_with ((first | (refine kf gf10 hst (hc0) rfl rfl rfl rfl ?_; clear hst; intro w hst) | (refine kf gf10 hst (hc5) rfl rfl rfl rfl ?_; clear hst; intro w hst) | (refine wl_guard (by rfl) ?_) | (refine kb 4 hst rfl rfl ?_; clear hst; intro b4 w hb4 hst) | (refine kb 5 hst rfl rfl ?_; clear hst; intro b5 w hb5 hst) | (refine ka 8 hst tz30 rfl rfl ?_; clear hst; intro b8 w hb8 hst) | (refine kc hst tc3 rfl ?_) | (refine kl hst ta25 rfl ?_) | (refine klm hst ta25 rfl ?_) | (refine ks hst tc3 rfl rfl ?_; clear hst; intro w hst) | (refine kn tr25 tc23 rfl ?_)); try simp only [pz, pn, sz, sc])
                        refine ⟨⟨k + 1, g', c', q', L', by omega, rfl, by go_num, hIF.out L' hS', by rw [hcs.out]; exact hst⟩, ?_⟩
                        (simp [intOf]; try omega)
                · have p3 : decide ((3 : Int) ≤ (j : Int)) = false := decide_eq_false (by omega)
                  clear hne h3
                  go_wp2_with ((first | (refine wl_guard (by rfl) ?_) | (refine kb 4 hst rfl rfl ?_; clear hst; intro b4 w hb4 hst) | (refine kb 5 hst rfl rfl ?_; clear hst; intro b5 w hb5 hst) | (refine ka 8 hst tz30 rfl rfl ?_; clear hst; intro b8 w hb8 hst) | (refine kc hst tc3 rfl ?_) | (refine kl hst ta25 rfl ?_) | (refine klm hst ta25 rfl ?_) | (refine ks hst tc3 rfl rfl ?_; clear hst; intro w hst) | (refine kn tr25 tc23 rfl ?_)); try simp only [pz, pn, sz, sc])
                  refine wp_region_TV 12 [(b8, .cells cs 30), (b5, .cells (wc 8 d) 25), (b4, .cells (wc 8 n) 25)] hst (by kernel_rfl) ?_; clear hst; intro w hst; (try dsimp only [List.length_cons, List.length_nil]); (try simp only [List.length_cons, List.length_nil, Nat.reduceAdd, Array.replicate_succ, Array.replicate_zero, List.push_toArray, List.nil_append, List.cons_append])
                  refine r0 0 ?_; simp only [pz, pn, sz, sc]
                  refine r0 1 ?_; simp only [pz, pn, sz, sc]
                  refine r0 2 ?_; simp only [pz, pn, sz, sc]
                  refine r0 3 ?_; simp only [pz, pn, sz, sc]
                  refine rl 4 rfl ?_ (by first | exact fun w hw => run_opLoadW hw.keeps tc3 rfl (by rfl) hcell'.out | exact ylC tc3); simp only [pz, pn, sz, sc]
                  refine rl 5 rfl ?_ (by first | exact ylA ta25 | exact ylM ta25); simp only [pz, pn, sz, sc]
                  refine r1 6 ?_; (first | (refine kZ (o := ⟨some 53, _, _, _, _, _⟩) (fun L' => (b8, .cells cs 30) :: (b5, .cells (wc 8 d) 25) :: (b4, .cells (wc 8 n) 25) :: L') gf8 hst (fun w hst => hdv w (hst.owns (L := L) (.there (.there (.there .here))))) rfl rfl rfl rfl ?_; clear hst; intro v42 L' w hR hnew2 hst; obtain ⟨rfl, hS'⟩ := hR) | (refine kp ?_)); (try simp only [pz, pn, sz, sc]); refine re ?_
                  refine r0 7 ?_; simp only [pz, pn, sz, sc]
                  refine r0 8 ?_; simp only [pz, pn, sz, sc]
                  refine r0 9 ?_; simp only [pz, pn, sz, sc]
                  refine r0 10 ?_; simp only [pz, pn, sz, sc]
                  refine r0 11 ?_; simp only [pz, pn, sz, sc]
                  refine rd_ ?_
                  have hI2 := hIF.out L' hS'
                  have hmd := fun w ho => engine_MadeS bs br c' hI2.ok q' L' hS' w ho
                  have hcnt := Lib.hid (fun jj h1 h2 w ho => engine_CountS bs br c' q' L' hS' jj h1 h2 w ho)
                  have hget' := Lib.hid (fun i h => cntC_get q' i h)
                  have hg3 := cntC_get q' 3 (by omega)
                  have hg4 := cntC_get q' 4 (by omega)
                  have hsz' : (cntC q').size = 5 := rfl
                  have hc0 := engine_Count_no bs 0 (by omega)
                  have hc5 := engine_Count_no bs 5 (by omega)
                  obtain ⟨⟨_, gm, m1⟩, _, _, qb, hmade, _⟩ := hI2
                  have gm1 : ¬ madeC c' < g' := by omega
                  have gm2 : ¬ 1 < madeC c' := by omega
                  obtain ⟨q31, q32⟩ := qb 3
                  obtain ⟨q41, q42⟩ := qb 4
                  clear qb gm m1
                  generalize madeC c' = m' at *
                  generalize hcs0 : cntC q' = cs' at *
                  have hcs := Lib.hid hcs0
                  clear hcs0
                  go_wp2_with ((first | (refine kcw hst tc3 (fun w hst => hst.keeps.cell hcell'.out) rfl ?_) | (refine kf gf9 hst (his) rfl rfl rfl rfl ?_; clear hst; intro w hst) | (refine kg gf6 hst (fun w hst => hmd w (hst.owns (L := L') (.there (.there (.there .here))))) rfl rfl rfl rfl ?_; clear hst; intro w hst) | (refine wl_guard (by rfl) ?_) | (refine kb 4 hst rfl rfl ?_; clear hst; intro b4 w hb4 hst) | (refine kb 5 hst rfl rfl ?_; clear hst; intro b5 w hb5 hst) | (refine ka 8 hst tz30 rfl rfl ?_; clear hst; intro b8 w hb8 hst) | (refine kc hst tc3 rfl ?_) | (refine kl hst ta25 rfl ?_) | (refine klm hst ta25 rfl ?_) | (refine ks hst tc3 rfl rfl ?_; clear hst; intro w hst; (try rw [hset1.out] at hst)) | (refine kn tr25 tc23 rfl ?_)); try simp only [pz, pn, sz, sc])
                  go_loopw [12] (fun vj wr => ∃ j' : Nat, 1 ≤ j' ∧ j' ≤ 5 ∧ vj = .int .i64 j' ∧ St w0 [] ((b8, .cells cs' 30) :: (b5, .cells (wc 8 d) 25) :: (b4, .cells (wc 8 n) 25) :: L') wr) (fun vj _ => 5 - (intOf vj).toNat)
                  case atStart => exact ⟨1, by omega, by omega, rfl, hst⟩
                  case round =>
                    clear hst
                    obtain ⟨j', j1', j2', rfl, hst⟩ := hrel
                    by_cases hlt' : j' < 5
                    · have e1 : (j' : Int) ≤ 4 := by omega
                      have e2 : (j' : Int) < 5 := by omega
                      have e3 : (0 : Int) ≤ (j' : Int) := by omega
                      have e4 : j' < 5 := hlt'
                      have hgj := hget'.out j' (by omega)
                      have hcj := hcnt.out j' j1' (by omega)
                      generalize q' j' = qj at *
                      go_wp2_with ((first | (refine wl_guard (by rfl) ?_) | (refine kb 4 hst rfl rfl ?_; clear hst; intro b4 w hb4 hst) | (refine kb 5 hst rfl rfl ?_; clear hst; intro b5 w hb5 hst) | (refine ka 8 hst tz30 rfl rfl ?_; clear hst; intro b8 w hb8 hst) | (refine kc hst tc3 rfl ?_) | (refine kl hst ta25 rfl ?_) | (refine klm hst ta25 rfl ?_) | (refine ks hst tc3 rfl rfl ?_; clear hst; intro w hst) | (refine kn tr25 tc23 rfl ?_)); try simp only [pz, pn, sz, sc])
                      refine wp_region_T 7  hst (by kernel_rfl) ?_; clear hst; intro w hst; (try dsimp only [List.length_cons, List.length_nil]); (try simp only [List.length_cons, List.length_nil, Nat.reduceAdd, Array.replicate_succ, Array.replicate_zero, List.push_toArray, List.nil_append, List.cons_append])
                      refine r0 0 ?_; simp only [pz, pn, sz, sc]
                      refine r0 1 ?_; simp only [pz, pn, sz, sc]
                      refine r0 3 ?_; simp only [pz, pn, sz, sc]
                      refine r0 4 ?_; simp only [pz, pn, sz, sc]
                      refine rl 5 rfl ?_ (ylC tc3); simp only [pz, pn, sz, sc]
                      refine r1 2 ?_; (first | (refine kg gf10 hst (fun w hst => hcj w (hst.owns (L := L') (.there (.there (.there .here))))) rfl rfl rfl rfl ?_; clear hst; intro w hst) | (refine kp ?_)); (try simp only [pz, pn, sz, sc]); refine re ?_
                      refine r0 6 ?_; simp only [pz, pn, sz, sc]
                      refine rd_ ?_
                      go_wp2_with ((first | (refine wl_guard (by rfl) ?_) | (refine kb 4 hst rfl rfl ?_; clear hst; intro b4 w hb4 hst) | (refine kb 5 hst rfl rfl ?_; clear hst; intro b5 w hb5 hst) | (refine ka 8 hst tz30 rfl rfl ?_; clear hst; intro b8 w hb8 hst) | (refine kc hst tc3 rfl ?_) | (refine kl hst ta25 rfl ?_) | (refine klm hst ta25 rfl ?_) | (refine ks hst tc3 rfl rfl ?_; clear hst; intro w hst) | (refine kn tr25 tc23 rfl ?_)); try simp only [pz, pn, sz, sc])
                      refine ⟨⟨j' + 1, by omega, by omega, by go_num, hst⟩, ?_⟩
                      (simp [intOf]; try omega)
                    · obtain rfl : j' = 5 := by omega
                      have e1 : ¬ ((5 : Nat) : Int) ≤ 4 := by omega
                      by_cases hs0 : q' 3 + q' 4 = 0
                      · obtain rfl : m' = 0 := hmade hs0
                        go_wp2_with ((first | (refine kf gf10 hst (hc0) rfl rfl rfl rfl ?_; clear hst; intro w hst) | (refine kf gf10 hst (hc5) rfl rfl rfl rfl ?_; clear hst; intro w hst) | (refine kg gf6 hst (fun w hst => hmd w (hst.owns (L := L') (.there (.there (.there .here))))) rfl rfl rfl rfl ?_; clear hst; intro w hst) | (refine wl_guard (by rfl) ?_) | (refine kb 4 hst rfl rfl ?_; clear hst; intro b4 w hb4 hst) | (refine kb 5 hst rfl rfl ?_; clear hst; intro b5 w hb5 hst) | (refine ka 8 hst tz30 rfl rfl ?_; clear hst; intro b8 w hb8 hst) | (refine kc hst tc3 rfl ?_) | (refine kl hst ta25 rfl ?_) | (refine klm hst ta25 rfl ?_) | (refine ks hst tc3 rfl rfl ?_; clear hst; intro w hst) | (refine kn tr25 tc23 rfl ?_)); try simp only [pz, pn, sz, sc])
                        refine ⟨⟨k + 1, g', c', q', L', by omega, rfl, by go_num, hIF.out L' hS', by rw [hcs.out]; exact hst⟩, ?_⟩
                        (simp [intOf]; try omega)
                      · have hs1 : (q' 3 + q' 4 == 0) = false := by simpa using hs0
                        go_wp2_with ((first | (refine kf gf10 hst (hc0) rfl rfl rfl rfl ?_; clear hst; intro w hst) | (refine kf gf10 hst (hc5) rfl rfl rfl rfl ?_; clear hst; intro w hst) | (refine wl_guard (by rfl) ?_) | (refine kb 4 hst rfl rfl ?_; clear hst; intro b4 w hb4 hst) | (refine kb 5 hst rfl rfl ?_; clear hst; intro b5 w hb5 hst) | (refine ka 8 hst tz30 rfl rfl ?_; clear hst; intro b8 w hb8 hst) | (refine kc hst tc3 rfl ?_) | (refine kl hst ta25 rfl ?_) | (refine klm hst ta25 rfl ?_) | (refine ks hst tc3 rfl rfl ?_; clear hst; intro w hst) | (refine kn tr25 tc23 rfl ?_)); try simp only [pz, pn, sz, sc])
                        refine ⟨⟨k + 1, g', c', q', L', by omega, rfl, by go_num, hIF.out L' hS', by rw [hcs.out]; exact hst⟩, ?_⟩
                        (simp [intOf]; try omega)
              · have Q0 : (e == 0) = false := by simpa using he0
                clear hne he0
                go_wp2_with ((first | (refine wl_guard (by rfl) ?_) | (refine kb 4 hst rfl rfl ?_; clear hst; intro b4 w hb4 hst) | (refine kb 5 hst rfl rfl ?_; clear hst; intro b5 w hb5 hst) | (refine ka 8 hst tz30 rfl rfl ?_; clear hst; intro b8 w hb8 hst) | (refine kc hst tc3 rfl ?_) | (refine kl hst ta25 rfl ?_) | (refine klm hst ta25 rfl ?_) | (refine ks hst tc3 rfl rfl ?_; clear hst; intro w hst) | (refine kn tr25 tc23 rfl ?_)); try simp only [pz, pn, sz, sc])
                refine wp_region_TV 12 [(b8, .cells cs 30), (b5, .cells (wc 8 d) 25), (b4, .cells (wc 8 n) 25)] hst (by kernel_rfl) ?_; clear hst; intro w hst; (try dsimp only [List.length_cons, List.length_nil]); (try simp only [List.length_cons, List.length_nil, Nat.reduceAdd, Array.replicate_succ, Array.replicate_zero, List.push_toArray, List.nil_append, List.cons_append])
                refine r0 0 ?_; simp only [pz, pn, sz, sc]
                refine r0 1 ?_; simp only [pz, pn, sz, sc]
                refine r0 2 ?_; simp only [pz, pn, sz, sc]
                refine r0 3 ?_; simp only [pz, pn, sz, sc]
                refine rl 4 rfl ?_ (by first | exact fun w hw => run_opLoadW hw.keeps tc3 rfl (by rfl) hcell'.out | exact ylC tc3); simp only [pz, pn, sz, sc]
                refine rl 5 rfl ?_ (by first | exact ylA ta25 | exact ylM ta25); simp only [pz, pn, sz, sc]
                refine r1 6 ?_; (first | (refine kZ (o := ⟨some 53, _, _, _, _, _⟩) (fun L' => (b8, .cells cs 30) :: (b5, .cells (wc 8 d) 25) :: (b4, .cells (wc 8 n) 25) :: L') gf8 hst (fun w hst => hdv w (hst.owns (L := L) (.there (.there (.there .here))))) rfl rfl rfl rfl ?_; clear hst; intro v42 L' w hR hnew2 hst; obtain ⟨rfl, hS'⟩ := hR) | (refine kp ?_)); (try simp only [pz, pn, sz, sc]); refine re ?_
                refine r0 7 ?_; simp only [pz, pn, sz, sc]
                refine r0 8 ?_; simp only [pz, pn, sz, sc]
                refine r0 9 ?_; simp only [pz, pn, sz, sc]
                refine r0 10 ?_; simp only [pz, pn, sz, sc]
                refine r0 11 ?_; simp only [pz, pn, sz, sc]
                refine rd_ ?_
                have hI2 := hIF.out L' hS'
                have hmd := fun w ho => engine_MadeS bs br c' hI2.ok q' L' hS' w ho
                have hcnt := Lib.hid (fun jj h1 h2 w ho => engine_CountS bs br c' q' L' hS' jj h1 h2 w ho)
                have hget' := Lib.hid (fun i h => cntC_get q' i h)
                have hg3 := cntC_get q' 3 (by omega)
                have hg4 := cntC_get q' 4 (by omega)
                have hsz' : (cntC q').size = 5 := rfl
                have hc0 := engine_Count_no bs 0 (by omega)
                have hc5 := engine_Count_no bs 5 (by omega)
                obtain ⟨⟨_, gm, m1⟩, _, _, qb, hmade, _⟩ := hI2
                have gm1 : ¬ madeC c' < g' := by omega
                have gm2 : ¬ 1 < madeC c' := by omega
                obtain ⟨q31, q32⟩ := qb 3
                obtain ⟨q41, q42⟩ := qb 4
                clear qb gm m1
                generalize madeC c' = m' at *
                generalize hcs0 : cntC q' = cs' at *
                have hcs := Lib.hid hcs0
                clear hcs0
                go_wp2_with ((first | (refine kcw hst tc3 (fun w hst => hst.keeps.cell hcell'.out) rfl ?_) | (refine kf gf9 hst (his) rfl rfl rfl rfl ?_; clear hst; intro w hst) | (refine kg gf6 hst (fun w hst => hmd w (hst.owns (L := L') (.there (.there (.there .here))))) rfl rfl rfl rfl ?_; clear hst; intro w hst) | (refine wl_guard (by rfl) ?_) | (refine kb 4 hst rfl rfl ?_; clear hst; intro b4 w hb4 hst) | (refine kb 5 hst rfl rfl ?_; clear hst; intro b5 w hb5 hst) | (refine ka 8 hst tz30 rfl rfl ?_; clear hst; intro b8 w hb8 hst) | (refine kc hst tc3 rfl ?_) | (refine kl hst ta25 rfl ?_) | (refine klm hst ta25 rfl ?_) | (refine ks hst tc3 rfl rfl ?_; clear hst; intro w hst; (try rw [hset1.out] at hst)) | (refine kn tr25 tc23 rfl ?_)); try simp only [pz, pn, sz, sc])
                go_loopw [12] (fun vj wr => ∃ j' : Nat, 1 ≤ j' ∧ j' ≤ 5 ∧ vj = .int .i64 j' ∧ St w0 [] ((b8, .cells cs' 30) :: (b5, .cells (wc 8 d) 25) :: (b4, .cells (wc 8 n) 25) :: L') wr) (fun vj _ => 5 - (intOf vj).toNat)
                case atStart => exact ⟨1, by omega, by omega, rfl, hst⟩
                case round =>
                  clear hst
                  obtain ⟨j', j1', j2', rfl, hst⟩ := hrel
                  by_cases hlt' : j' < 5
                  · have e1 : (j' : Int) ≤ 4 := by omega
                    have e2 : (j' : Int) < 5 := by omega
                    have e3 : (0 : Int) ≤ (j' : Int) := by omega
                    have e4 : j' < 5 := hlt'
                    have hgj := hget'.out j' (by omega)
                    have hcj := hcnt.out j' j1' (by omega)
                    generalize q' j' = qj at *
                    go_wp2_with ((first | (refine wl_guard (by rfl) ?_) | (refine kb 4 hst rfl rfl ?_; clear hst; intro b4 w hb4 hst) | (refine kb 5 hst rfl rfl ?_; clear hst; intro b5 w hb5 hst) | (refine ka 8 hst tz30 rfl rfl ?_; clear hst; intro b8 w hb8 hst) | (refine kc hst tc3 rfl ?_) | (refine kl hst ta25 rfl ?_) | (refine klm hst ta25 rfl ?_) | (refine ks hst tc3 rfl rfl ?_; clear hst; intro w hst) | (refine kn tr25 tc23 rfl ?_)); try simp only [pz, pn, sz, sc])
                    refine wp_region_T 7  hst (by kernel_rfl) ?_; clear hst; intro w hst; (try dsimp only [List.length_cons, List.length_nil]); (try simp only [List.length_cons, List.length_nil, Nat.reduceAdd, Array.replicate_succ, Array.replicate_zero, List.push_toArray, List.nil_append, List.cons_append])
                    refine r0 0 ?_; simp only [pz, pn, sz, sc]
                    refine r0 1 ?_; simp only [pz, pn, sz, sc]
                    refine r0 3 ?_; simp only [pz, pn, sz, sc]
                    refine r0 4 ?_; simp only [pz, pn, sz, sc]
                    refine rl 5 rfl ?_ (ylC tc3); simp only [pz, pn, sz, sc]
                    refine r1 2 ?_; (first | (refine kg gf10 hst (fun w hst => hcj w (hst.owns (L := L') (.there (.there (.there .here))))) rfl rfl rfl rfl ?_; clear hst; intro w hst) | (refine kp ?_)); (try simp only [pz, pn, sz, sc]); refine re ?_
                    refine r0 6 ?_; simp only [pz, pn, sz, sc]
                    refine rd_ ?_
                    go_wp2_with ((first | (refine wl_guard (by rfl) ?_) | (refine kb 4 hst rfl rfl ?_; clear hst; intro b4 w hb4 hst) | (refine kb 5 hst rfl rfl ?_; clear hst; intro b5 w hb5 hst) | (refine ka 8 hst tz30 rfl rfl ?_; clear hst; intro b8 w hb8 hst) | (refine kc hst tc3 rfl ?_) | (refine kl hst ta25 rfl ?_) | (refine klm hst ta25 rfl ?_) | (refine ks hst tc3 rfl rfl ?_; clear hst; intro w hst) | (refine kn tr25 tc23 rfl ?_)); try simp only [pz, pn, sz, sc])
                    refine ⟨⟨j' + 1, by omega, by omega, by go_num, hst⟩, ?_⟩
                    (simp [intOf]; try omega)
                  · obtain rfl : j' = 5 := by omega
                    have e1 : ¬ ((5 : Nat) : Int) ≤ 4 := by omega
                    by_cases hs0 : q' 3 + q' 4 = 0
                    · obtain rfl : m' = 0 := hmade hs0
                      go_wp2_with ((first | (refine kf gf10 hst (hc0) rfl rfl rfl rfl ?_; clear hst; intro w hst) | (refine kf gf10 hst (hc5) rfl rfl rfl rfl ?_; clear hst; intro w hst) | (refine kg gf6 hst (fun w hst => hmd w (hst.owns (L := L') (.there (.there (.there .here))))) rfl rfl rfl rfl ?_; clear hst; intro w hst) | (refine wl_guard (by rfl) ?_) | (refine kb 4 hst rfl rfl ?_; clear hst; intro b4 w hb4 hst) | (refine kb 5 hst rfl rfl ?_; clear hst; intro b5 w hb5 hst) | (refine ka 8 hst tz30 rfl rfl ?_; clear hst; intro b8 w hb8 hst) | (refine kc hst tc3 rfl ?_) | (refine kl hst ta25 rfl ?_) | (refine klm hst ta25 rfl ?_) | (refine ks hst tc3 rfl rfl ?_; clear hst; intro w hst) | (refine kn tr25 tc23 rfl ?_)); try simp only [pz, pn, sz, sc])
                      refine ⟨⟨k + 1, g', c', q', L', by omega, rfl, by go_num, hIF.out L' hS', by rw [hcs.out]; exact hst⟩, ?_⟩
                      (simp [intOf]; try omega)
                    · have hs1 : (q' 3 + q' 4 == 0) = false := by simpa using hs0
                      go_wp2_with ((first | (refine kf gf10 hst (hc0) rfl rfl rfl rfl ?_; clear hst; intro w hst) | (refine kf gf10 hst (hc5) rfl rfl rfl rfl ?_; clear hst; intro w hst) | (refine wl_guard (by rfl) ?_) | (refine kb 4 hst rfl rfl ?_; clear hst; intro b4 w hb4 hst) | (refine kb 5 hst rfl rfl ?_; clear hst; intro b5 w hb5 hst) | (refine ka 8 hst tz30 rfl rfl ?_; clear hst; intro b8 w hb8 hst) | (refine kc hst tc3 rfl ?_) | (refine kl hst ta25 rfl ?_) | (refine klm hst ta25 rfl ?_) | (refine ks hst tc3 rfl rfl ?_; clear hst; intro w hst) | (refine kn tr25 tc23 rfl ?_)); try simp only [pz, pn, sz, sc])
                      refine ⟨⟨k + 1, g', c', q', L', by omega, rfl, by go_num, hIF.out L' hS', by rw [hcs.out]; exact hst⟩, ?_⟩
                      (simp [intOf]; try omega)
        · have hv' : z < 1 ∨ 4 < z := by omega
          have his := law_is_no z hv'
          have hc' : True := trivial
          have hIF := Lib.hid (show ∀ L', SetSt bs br c q L' → CntI bs br (k + 1) g c q L' from fun L' hS' => by
            have h := hI'.out.no
            exact ⟨h.gs, h.ok, h.q0, h.qs, h.made, hS'⟩)
          obtain ⟨c', rfl⟩ : ∃ c', c' = c := ⟨_, rfl⟩
          obtain ⟨q', rfl⟩ : ∃ q', q' = q := ⟨_, rfl⟩
          obtain ⟨g', rfl⟩ : ∃ g', g' = g := ⟨_, rfl⟩
          obtain ⟨L', rfl⟩ : ∃ L', L' = L := ⟨_, rfl⟩
          have hS' := hset
          clear hset hcok hI' hqb hc'
          by_cases hpar : (k : Int) % 2 = 0
          · have hno := engine_Divide_no bs z hv' n d

            go_wp2_with ((first | (refine wl_guard (by rfl) ?_) | (refine kb 4 hst rfl rfl ?_; clear hst; intro b4 w hb4 hst) | (refine kb 5 hst rfl rfl ?_; clear hst; intro b5 w hb5 hst) | (refine ka 8 hst tz30 rfl rfl ?_; clear hst; intro b8 w hb8 hst) | (refine kc hst tc3 rfl ?_) | (refine kl hst ta25 rfl ?_) | (refine klm hst ta25 rfl ?_) | (refine ks hst tc3 rfl rfl ?_; clear hst; intro w hst) | (refine kn tr25 tc23 rfl ?_)); try simp only [pz, pn, sz, sc])
            refine wp_region_T 13  hst (by kernel_rfl) ?_; clear hst; intro w hst; (try dsimp only [List.length_cons, List.length_nil]); (try simp only [List.length_cons, List.length_nil, Nat.reduceAdd, Array.replicate_succ, Array.replicate_zero, List.push_toArray, List.nil_append, List.cons_append])
            refine r0 0 ?_; simp only [pz, pn, sz, sc]
            refine r0 1 ?_; simp only [pz, pn, sz, sc]
            refine r0 2 ?_; simp only [pz, pn, sz, sc]
            refine r0 3 ?_; simp only [pz, pn, sz, sc]
            refine rl 4 rfl ?_ (by first | exact fun w hw => run_opLoadW hw.keeps tc3 rfl (by rfl) hcell'.out | exact ylC tc3); simp only [pz, pn, sz, sc]
            refine rl 5 rfl ?_ (by first | exact ylA ta25 | exact ylM ta25); simp only [pz, pn, sz, sc]
            refine rl 6 rfl ?_ (by first | exact ylA ta25 | exact ylM ta25); simp only [pz, pn, sz, sc]
            refine r1 7 ?_; (first | (refine kf gf7 hst (hno) rfl rfl rfl rfl ?_; clear hst; intro w hst) | (refine kp ?_)); (try simp only [pz, pn, sz, sc]); refine re ?_
            refine r0 8 ?_; simp only [pz, pn, sz, sc]
            refine r0 9 ?_; simp only [pz, pn, sz, sc]
            refine r0 10 ?_; simp only [pz, pn, sz, sc]
            refine r0 11 ?_; simp only [pz, pn, sz, sc]
            refine r0 12 ?_; simp only [pz, pn, sz, sc]
            refine rd_ ?_
            have hI2 := hIF.out L' hS'
            have hmd := fun w ho => engine_MadeS bs br c' hI2.ok q' L' hS' w ho
            have hcnt := Lib.hid (fun jj h1 h2 w ho => engine_CountS bs br c' q' L' hS' jj h1 h2 w ho)
            have hget' := Lib.hid (fun i h => cntC_get q' i h)
            have hg3 := cntC_get q' 3 (by omega)
            have hg4 := cntC_get q' 4 (by omega)
            have hsz' : (cntC q').size = 5 := rfl
            have hc0 := engine_Count_no bs 0 (by omega)
            have hc5 := engine_Count_no bs 5 (by omega)
            obtain ⟨⟨_, gm, m1⟩, _, _, qb, hmade, _⟩ := hI2
            have gm1 : ¬ madeC c' < g' := by omega
            have gm2 : ¬ 1 < madeC c' := by omega
            obtain ⟨q31, q32⟩ := qb 3
            obtain ⟨q41, q42⟩ := qb 4
            clear qb gm m1
            generalize madeC c' = m' at *
            generalize hcs0 : cntC q' = cs' at *
            have hcs := Lib.hid hcs0
            clear hcs0
            go_wp2_with ((first | (refine kcw hst tc3 (fun w hst => hst.keeps.cell hcell'.out) rfl ?_) | (refine kf gf9 hst (his) rfl rfl rfl rfl ?_; clear hst; intro w hst) | (refine kg gf6 hst (fun w hst => hmd w (hst.owns (L := L') (.there (.there (.there .here))))) rfl rfl rfl rfl ?_; clear hst; intro w hst) | (refine wl_guard (by rfl) ?_) | (refine kb 4 hst rfl rfl ?_; clear hst; intro b4 w hb4 hst) | (refine kb 5 hst rfl rfl ?_; clear hst; intro b5 w hb5 hst) | (refine ka 8 hst tz30 rfl rfl ?_; clear hst; intro b8 w hb8 hst) | (refine kc hst tc3 rfl ?_) | (refine kl hst ta25 rfl ?_) | (refine klm hst ta25 rfl ?_) | (refine ks hst tc3 rfl rfl ?_; clear hst; intro w hst) | (refine kn tr25 tc23 rfl ?_)); try simp only [pz, pn, sz, sc])
            go_loopw [12] (fun vj wr => ∃ j' : Nat, 1 ≤ j' ∧ j' ≤ 5 ∧ vj = .int .i64 j' ∧ St w0 [] ((b8, .cells cs' 30) :: (b5, .cells (wc 8 d) 25) :: (b4, .cells (wc 8 n) 25) :: L') wr) (fun vj _ => 5 - (intOf vj).toNat)
            case atStart => exact ⟨1, by omega, by omega, rfl, hst⟩
            case round =>
              clear hst
              obtain ⟨j', j1', j2', rfl, hst⟩ := hrel
              by_cases hlt' : j' < 5
              · have e1 : (j' : Int) ≤ 4 := by omega
                have e2 : (j' : Int) < 5 := by omega
                have e3 : (0 : Int) ≤ (j' : Int) := by omega
                have e4 : j' < 5 := hlt'
                have hgj := hget'.out j' (by omega)
                have hcj := hcnt.out j' j1' (by omega)
                generalize q' j' = qj at *
                go_wp2_with ((first | (refine wl_guard (by rfl) ?_) | (refine kb 4 hst rfl rfl ?_; clear hst; intro b4 w hb4 hst) | (refine kb 5 hst rfl rfl ?_; clear hst; intro b5 w hb5 hst) | (refine ka 8 hst tz30 rfl rfl ?_; clear hst; intro b8 w hb8 hst) | (refine kc hst tc3 rfl ?_) | (refine kl hst ta25 rfl ?_) | (refine klm hst ta25 rfl ?_) | (refine ks hst tc3 rfl rfl ?_; clear hst; intro w hst) | (refine kn tr25 tc23 rfl ?_)); try simp only [pz, pn, sz, sc])
                refine wp_region_T 7  hst (by kernel_rfl) ?_; clear hst; intro w hst; (try dsimp only [List.length_cons, List.length_nil]); (try simp only [List.length_cons, List.length_nil, Nat.reduceAdd, Array.replicate_succ, Array.replicate_zero, List.push_toArray, List.nil_append, List.cons_append])
                refine r0 0 ?_; simp only [pz, pn, sz, sc]
                refine r0 1 ?_; simp only [pz, pn, sz, sc]
                refine r0 3 ?_; simp only [pz, pn, sz, sc]
                refine r0 4 ?_; simp only [pz, pn, sz, sc]
                refine rl 5 rfl ?_ (ylC tc3); simp only [pz, pn, sz, sc]
                refine r1 2 ?_; (first | (refine kg gf10 hst (fun w hst => hcj w (hst.owns (L := L') (.there (.there (.there .here))))) rfl rfl rfl rfl ?_; clear hst; intro w hst) | (refine kp ?_)); (try simp only [pz, pn, sz, sc]); refine re ?_
                refine r0 6 ?_; simp only [pz, pn, sz, sc]
                refine rd_ ?_
                go_wp2_with ((first | (refine wl_guard (by rfl) ?_) | (refine kb 4 hst rfl rfl ?_; clear hst; intro b4 w hb4 hst) | (refine kb 5 hst rfl rfl ?_; clear hst; intro b5 w hb5 hst) | (refine ka 8 hst tz30 rfl rfl ?_; clear hst; intro b8 w hb8 hst) | (refine kc hst tc3 rfl ?_) | (refine kl hst ta25 rfl ?_) | (refine klm hst ta25 rfl ?_) | (refine ks hst tc3 rfl rfl ?_; clear hst; intro w hst) | (refine kn tr25 tc23 rfl ?_)); try simp only [pz, pn, sz, sc])
                refine ⟨⟨j' + 1, by omega, by omega, by go_num, hst⟩, ?_⟩
                (simp [intOf]; try omega)
              · obtain rfl : j' = 5 := by omega
                have e1 : ¬ ((5 : Nat) : Int) ≤ 4 := by omega
                by_cases hs0 : q' 3 + q' 4 = 0
                · obtain rfl : m' = 0 := hmade hs0
                  go_wp2_with ((first | (refine kf gf10 hst (hc0) rfl rfl rfl rfl ?_; clear hst; intro w hst) | (refine kf gf10 hst (hc5) rfl rfl rfl rfl ?_; clear hst; intro w hst) | (refine kg gf6 hst (fun w hst => hmd w (hst.owns (L := L') (.there (.there (.there .here))))) rfl rfl rfl rfl ?_; clear hst; intro w hst) | (refine wl_guard (by rfl) ?_) | (refine kb 4 hst rfl rfl ?_; clear hst; intro b4 w hb4 hst) | (refine kb 5 hst rfl rfl ?_; clear hst; intro b5 w hb5 hst) | (refine ka 8 hst tz30 rfl rfl ?_; clear hst; intro b8 w hb8 hst) | (refine kc hst tc3 rfl ?_) | (refine kl hst ta25 rfl ?_) | (refine klm hst ta25 rfl ?_) | (refine ks hst tc3 rfl rfl ?_; clear hst; intro w hst) | (refine kn tr25 tc23 rfl ?_)); try simp only [pz, pn, sz, sc])
                  refine ⟨⟨k + 1, g', c', q', L', by omega, rfl, by go_num, hIF.out L' hS', by rw [hcs.out]; exact hst⟩, ?_⟩
                  (simp [intOf]; try omega)
                · have hs1 : (q' 3 + q' 4 == 0) = false := by simpa using hs0
                  go_wp2_with ((first | (refine kf gf10 hst (hc0) rfl rfl rfl rfl ?_; clear hst; intro w hst) | (refine kf gf10 hst (hc5) rfl rfl rfl rfl ?_; clear hst; intro w hst) | (refine wl_guard (by rfl) ?_) | (refine kb 4 hst rfl rfl ?_; clear hst; intro b4 w hb4 hst) | (refine kb 5 hst rfl rfl ?_; clear hst; intro b5 w hb5 hst) | (refine ka 8 hst tz30 rfl rfl ?_; clear hst; intro b8 w hb8 hst) | (refine kc hst tc3 rfl ?_) | (refine kl hst ta25 rfl ?_) | (refine klm hst ta25 rfl ?_) | (refine ks hst tc3 rfl rfl ?_; clear hst; intro w hst) | (refine kn tr25 tc23 rfl ?_)); try simp only [pz, pn, sz, sc])
                  refine ⟨⟨k + 1, g', c', q', L', by omega, rfl, by go_num, hIF.out L' hS', by rw [hcs.out]; exact hst⟩, ?_⟩
                  (simp [intOf]; try omega)
          · have hpar1 : (k : Int) % 2 = 1 := by omega
            have hno := engine_Root_no bs z hv' n
            clear hpar

            go_wp2_with ((first | (refine wl_guard (by rfl) ?_) | (refine kb 4 hst rfl rfl ?_; clear hst; intro b4 w hb4 hst) | (refine kb 5 hst rfl rfl ?_; clear hst; intro b5 w hb5 hst) | (refine ka 8 hst tz30 rfl rfl ?_; clear hst; intro b8 w hb8 hst) | (refine kc hst tc3 rfl ?_) | (refine kl hst ta25 rfl ?_) | (refine klm hst ta25 rfl ?_) | (refine ks hst tc3 rfl rfl ?_; clear hst; intro w hst) | (refine kn tr25 tc23 rfl ?_)); try simp only [pz, pn, sz, sc])
            refine wp_region_T 12  hst (by kernel_rfl) ?_; clear hst; intro w hst; (try dsimp only [List.length_cons, List.length_nil]); (try simp only [List.length_cons, List.length_nil, Nat.reduceAdd, Array.replicate_succ, Array.replicate_zero, List.push_toArray, List.nil_append, List.cons_append])
            refine r0 0 ?_; simp only [pz, pn, sz, sc]
            refine r0 1 ?_; simp only [pz, pn, sz, sc]
            refine r0 2 ?_; simp only [pz, pn, sz, sc]
            refine r0 3 ?_; simp only [pz, pn, sz, sc]
            refine rl 4 rfl ?_ (by first | exact fun w hw => run_opLoadW hw.keeps tc3 rfl (by rfl) hcell'.out | exact ylC tc3); simp only [pz, pn, sz, sc]
            refine rl 5 rfl ?_ (by first | exact ylA ta25 | exact ylM ta25); simp only [pz, pn, sz, sc]
            refine r1 6 ?_; (first | (refine kf gf8 hst (hno) rfl rfl rfl rfl ?_; clear hst; intro w hst) | (refine kp ?_)); (try simp only [pz, pn, sz, sc]); refine re ?_
            refine r0 7 ?_; simp only [pz, pn, sz, sc]
            refine r0 8 ?_; simp only [pz, pn, sz, sc]
            refine r0 9 ?_; simp only [pz, pn, sz, sc]
            refine r0 10 ?_; simp only [pz, pn, sz, sc]
            refine r0 11 ?_; simp only [pz, pn, sz, sc]
            refine rd_ ?_
            have hI2 := hIF.out L' hS'
            have hmd := fun w ho => engine_MadeS bs br c' hI2.ok q' L' hS' w ho
            have hcnt := Lib.hid (fun jj h1 h2 w ho => engine_CountS bs br c' q' L' hS' jj h1 h2 w ho)
            have hget' := Lib.hid (fun i h => cntC_get q' i h)
            have hg3 := cntC_get q' 3 (by omega)
            have hg4 := cntC_get q' 4 (by omega)
            have hsz' : (cntC q').size = 5 := rfl
            have hc0 := engine_Count_no bs 0 (by omega)
            have hc5 := engine_Count_no bs 5 (by omega)
            obtain ⟨⟨_, gm, m1⟩, _, _, qb, hmade, _⟩ := hI2
            have gm1 : ¬ madeC c' < g' := by omega
            have gm2 : ¬ 1 < madeC c' := by omega
            obtain ⟨q31, q32⟩ := qb 3
            obtain ⟨q41, q42⟩ := qb 4
            clear qb gm m1
            generalize madeC c' = m' at *
            generalize hcs0 : cntC q' = cs' at *
            have hcs := Lib.hid hcs0
            clear hcs0
            go_wp2_with ((first | (refine kcw hst tc3 (fun w hst => hst.keeps.cell hcell'.out) rfl ?_) | (refine kf gf9 hst (his) rfl rfl rfl rfl ?_; clear hst; intro w hst) | (refine kg gf6 hst (fun w hst => hmd w (hst.owns (L := L') (.there (.there (.there .here))))) rfl rfl rfl rfl ?_; clear hst; intro w hst) | (refine wl_guard (by rfl) ?_) | (refine kb 4 hst rfl rfl ?_; clear hst; intro b4 w hb4 hst) | (refine kb 5 hst rfl rfl ?_; clear hst; intro b5 w hb5 hst) | (refine ka 8 hst tz30 rfl rfl ?_; clear hst; intro b8 w hb8 hst) | (refine kc hst tc3 rfl ?_) | (refine kl hst ta25 rfl ?_) | (refine klm hst ta25 rfl ?_) | (refine ks hst tc3 rfl rfl ?_; clear hst; intro w hst) | (refine kn tr25 tc23 rfl ?_)); try simp only [pz, pn, sz, sc])
            go_loopw [12] (fun vj wr => ∃ j' : Nat, 1 ≤ j' ∧ j' ≤ 5 ∧ vj = .int .i64 j' ∧ St w0 [] ((b8, .cells cs' 30) :: (b5, .cells (wc 8 d) 25) :: (b4, .cells (wc 8 n) 25) :: L') wr) (fun vj _ => 5 - (intOf vj).toNat)
            case atStart => exact ⟨1, by omega, by omega, rfl, hst⟩
            case round =>
              clear hst
              obtain ⟨j', j1', j2', rfl, hst⟩ := hrel
              by_cases hlt' : j' < 5
              · have e1 : (j' : Int) ≤ 4 := by omega
                have e2 : (j' : Int) < 5 := by omega
                have e3 : (0 : Int) ≤ (j' : Int) := by omega
                have e4 : j' < 5 := hlt'
                have hgj := hget'.out j' (by omega)
                have hcj := hcnt.out j' j1' (by omega)
                generalize q' j' = qj at *
                go_wp2_with ((first | (refine wl_guard (by rfl) ?_) | (refine kb 4 hst rfl rfl ?_; clear hst; intro b4 w hb4 hst) | (refine kb 5 hst rfl rfl ?_; clear hst; intro b5 w hb5 hst) | (refine ka 8 hst tz30 rfl rfl ?_; clear hst; intro b8 w hb8 hst) | (refine kc hst tc3 rfl ?_) | (refine kl hst ta25 rfl ?_) | (refine klm hst ta25 rfl ?_) | (refine ks hst tc3 rfl rfl ?_; clear hst; intro w hst) | (refine kn tr25 tc23 rfl ?_)); try simp only [pz, pn, sz, sc])
                refine wp_region_T 7  hst (by kernel_rfl) ?_; clear hst; intro w hst; (try dsimp only [List.length_cons, List.length_nil]); (try simp only [List.length_cons, List.length_nil, Nat.reduceAdd, Array.replicate_succ, Array.replicate_zero, List.push_toArray, List.nil_append, List.cons_append])
                refine r0 0 ?_; simp only [pz, pn, sz, sc]
                refine r0 1 ?_; simp only [pz, pn, sz, sc]
                refine r0 3 ?_; simp only [pz, pn, sz, sc]
                refine r0 4 ?_; simp only [pz, pn, sz, sc]
                refine rl 5 rfl ?_ (ylC tc3); simp only [pz, pn, sz, sc]
                refine r1 2 ?_; (first | (refine kg gf10 hst (fun w hst => hcj w (hst.owns (L := L') (.there (.there (.there .here))))) rfl rfl rfl rfl ?_; clear hst; intro w hst) | (refine kp ?_)); (try simp only [pz, pn, sz, sc]); refine re ?_
                refine r0 6 ?_; simp only [pz, pn, sz, sc]
                refine rd_ ?_
                go_wp2_with ((first | (refine wl_guard (by rfl) ?_) | (refine kb 4 hst rfl rfl ?_; clear hst; intro b4 w hb4 hst) | (refine kb 5 hst rfl rfl ?_; clear hst; intro b5 w hb5 hst) | (refine ka 8 hst tz30 rfl rfl ?_; clear hst; intro b8 w hb8 hst) | (refine kc hst tc3 rfl ?_) | (refine kl hst ta25 rfl ?_) | (refine klm hst ta25 rfl ?_) | (refine ks hst tc3 rfl rfl ?_; clear hst; intro w hst) | (refine kn tr25 tc23 rfl ?_)); try simp only [pz, pn, sz, sc])
                refine ⟨⟨j' + 1, by omega, by omega, by go_num, hst⟩, ?_⟩
                (simp [intOf]; try omega)
              · obtain rfl : j' = 5 := by omega
                have e1 : ¬ ((5 : Nat) : Int) ≤ 4 := by omega
                by_cases hs0 : q' 3 + q' 4 = 0
                · obtain rfl : m' = 0 := hmade hs0
                  go_wp2_with ((first | (refine kf gf10 hst (hc0) rfl rfl rfl rfl ?_; clear hst; intro w hst) | (refine kf gf10 hst (hc5) rfl rfl rfl rfl ?_; clear hst; intro w hst) | (refine kg gf6 hst (fun w hst => hmd w (hst.owns (L := L') (.there (.there (.there .here))))) rfl rfl rfl rfl ?_; clear hst; intro w hst) | (refine wl_guard (by rfl) ?_) | (refine kb 4 hst rfl rfl ?_; clear hst; intro b4 w hb4 hst) | (refine kb 5 hst rfl rfl ?_; clear hst; intro b5 w hb5 hst) | (refine ka 8 hst tz30 rfl rfl ?_; clear hst; intro b8 w hb8 hst) | (refine kc hst tc3 rfl ?_) | (refine kl hst ta25 rfl ?_) | (refine klm hst ta25 rfl ?_) | (refine ks hst tc3 rfl rfl ?_; clear hst; intro w hst) | (refine kn tr25 tc23 rfl ?_)); try simp only [pz, pn, sz, sc])
                  refine ⟨⟨k + 1, g', c', q', L', by omega, rfl, by go_num, hIF.out L' hS', by rw [hcs.out]; exact hst⟩, ?_⟩
                  (simp [intOf]; try omega)
                · have hs1 : (q' 3 + q' 4 == 0) = false := by simpa using hs0
                  go_wp2_with ((first | (refine kf gf10 hst (hc0) rfl rfl rfl rfl ?_; clear hst; intro w hst) | (refine kf gf10 hst (hc5) rfl rfl rfl rfl ?_; clear hst; intro w hst) | (refine wl_guard (by rfl) ?_) | (refine kb 4 hst rfl rfl ?_; clear hst; intro b4 w hb4 hst) | (refine kb 5 hst rfl rfl ?_; clear hst; intro b5 w hb5 hst) | (refine ka 8 hst tz30 rfl rfl ?_; clear hst; intro b8 w hb8 hst) | (refine kc hst tc3 rfl ?_) | (refine kl hst ta25 rfl ?_) | (refine klm hst ta25 rfl ?_) | (refine ks hst tc3 rfl rfl ?_; clear hst; intro w hst) | (refine kn tr25 tc23 rfl ?_)); try simp only [pz, pn, sz, sc])
                  refine ⟨⟨k + 1, g', c', q', L', by omega, rfl, by go_num, hIF.out L' hS', by rw [hcs.out]; exact hst⟩, ?_⟩
                  (simp [intOf]; try omega)
      · obtain rfl : k = len := by omega
        have i1 : ¬ (k : Int) < (k : Int) := by omega
        go_wp2_with ((first | (refine kf gf4 hst (haw) rfl rfl rfl rfl ?_; clear hst; intro w hst) | (refine wl_guard (by rfl) ?_) | (refine kb 4 hst rfl rfl ?_; clear hst; intro b4 w hb4 hst) | (refine kb 5 hst rfl rfl ?_; clear hst; intro b5 w hb5 hst) | (refine ka 8 hst tz30 rfl rfl ?_; clear hst; intro b8 w hb8 hst) | (refine kc hst tc3 rfl ?_) | (refine kl hst ta25 rfl ?_) | (refine klm hst ta25 rfl ?_) | (refine ks hst tc3 rfl rfl ?_; clear hst; intro w hst) | (refine kn tr25 tc23 rfl ?_)); try simp only [pz, pn, sz, sc])
        refine bp_t rfl rfl (by rfl) ⟨?_, hst.keeps⟩
        rfl

end Go.Proofs.YtggchelniblipaaGreat.Rd
