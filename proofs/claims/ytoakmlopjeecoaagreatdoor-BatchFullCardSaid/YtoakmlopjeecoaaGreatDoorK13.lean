/- What plain rows have in common: arguments that are arrays of words, opened and shut. -/
import Derived.Test.YtoakmlopjeecoaaGreatDoorK09
import Derived.Test.YtoakmlopjeecoaaGreatDoorK03
import Derived.Test.YtoakmlopjeecoaaGreatDoorK12
import Derived.Test.YtoakmlopjeecoaaGreatDoorK04
import Derived.Test.YtoakmlopjeecoaaGreatDoorRows
import Derived.Test.YtoakmlopjeecoaaGreatDoorChecked
import Derived.ProofKit
import Derived.OpenShut
import Derived.LaidMore
import Derived.Lay
import Derived.Lib.LaidTab
import Derived.Stop.Joined
import Derived.JoinedOf
namespace Go.Proofs.YtoakmlopjeecoaaGreatDoor.Rd
open Go Go.RowKit
set_option linter.unusedVariables false
set_option linter.unusedSimpArgs false
set_option maxRecDepth 100000

theorem z_strs : ((⟨#[122, 101, 114, 111]⟩ : ByteArray).toList == [110, 97, 110]) = false ∧ ((⟨#[122, 101, 114, 111]⟩ : ByteArray).toList == [105, 110, 118, 97, 108, 105, 100]) = false ∧
    ((⟨#[122, 101, 114, 111]⟩ : ByteArray).toList == [105, 110, 102, 105, 110, 105, 116, 101]) = false ∧ ((⟨#[122, 101, 114, 111]⟩ : ByteArray).toList == [122, 101, 114, 111]) = true := by
  refine ⟨?_, ?_, ?_, ?_⟩ <;> decide +kernel

set_option maxHeartbeats 4000000 in
theorem special_Div_zero (f : Nat) (f1 : 1 ≤ f) (f4 : f ≤ 4) (a b : Nat) (ga : a < 2 ^ fB f) (gb : b < 2 ^ fB f) (ca : clsN f a = 4 ∨ clsN f a = 5) (cb : clsN f b = 6) (w0 : World) (hF : FmtIn w0) :
    GivesAt Tryz.prog 44 #[.int .i64 f, Wd a, Wd b] (.tuple #[Wd (infW f (wNeg f a != wNeg f b)), .int .i64 2, .bool true]) w0 := by
  have hst := St.start [] w0
  have hk := Lib.hid (fun w (k : Keeps [] w0 w) => hF.keep k (by simp))
  have hrule := Lib.hid (fun w (k : Keeps [] w0 w) => special_Rule_div f a b (clsN f a) (clsN f b) (by omega) (by omega) _ (by
    have e1 : spK (clsN f a) = 4 := by rcases ca with h | h <;> rw [h] <;> rfl
    have e2 : spK (clsN f b) = 3 := by rw [cb]; rfl
    rw [e1, e2]; exact special_rule_zero) w (fun w' k' => class_Of f f1 f4 a ga w' ((hF.keep k (by simp)).keep k' (by simp))) (fun w' k' => class_Of f f1 f4 b gb w' ((hF.keep k (by simp)).keep k' (by simp))))
  obtain ⟨s1, s2, s3, s4⟩ := z_strs
  have hcl := Lib.hid (fun (b3 b4 b5 : Nat) (h34 : b3 ≠ b4) (h35 : b3 ≠ b5) (h45 : b4 ≠ b5) (w : World) (k : Keeps [] w0 w) q3 q4 q5 => special_Div_1 f a b (wNeg f a) (wNeg f b) (infW f (wNeg f a != wNeg f b)) 59 gf59 b3 b4 b5 h34 h35 h45 3 24 24 w q3 q4 q5
    (fun w' k' => class_Neg f f1 f4 a ga w' ((hF.keep k (by simp)).keep k' (by simp))) (fun w' k' => class_Neg f f1 f4 b gb w' ((hF.keep k (by simp)).keep k' (by simp))) (fun w' k' => format_Inf f f1 f4 _ w' ((hF.keep k (by simp)).keep k' (by simp))))
  generalize (⟨#[122, 101, 114, 111]⟩ : ByteArray) = zs at s1 s2 s3 s4 hrule
  clear hF ca cb ga gb f1 f4
  generalize infW f (wNeg f a != wNeg f b) = x at *
  go_enter Tryz.func44, Tryz.ntmps44
  go_wp2_with ((first | (refine kg gf56 hst (fun w hst => hrule.out w hst.keeps) rfl rfl rfl rfl ?_; clear hst; intro w hst) | (refine kg gf54 hst (fun w hst => hcl.out b3 b4 b5 (by have q := hst.nodup; simp only [List.map_cons, List.map_nil, List.nodup_cons, List.mem_cons, List.not_mem_nil, or_false, not_or] at q; omega) (by have q := hst.nodup; simp only [List.map_cons, List.map_nil, List.nodup_cons, List.mem_cons, List.not_mem_nil, or_false, not_or] at q; omega) (by have q := hst.nodup; simp only [List.map_cons, List.map_nil, List.nodup_cons, List.mem_cons, List.not_mem_nil, or_false, not_or] at q; omega) w hst.keeps (hst.own _ _ (by repeat (first | exact List.Mem.head _ | refine List.Mem.tail _ ?_))) (hst.own _ _ (by repeat (first | exact List.Mem.head _ | refine List.Mem.tail _ ?_))) (hst.own _ _ (by repeat (first | exact List.Mem.head _ | refine List.Mem.tail _ ?_)))) rfl rfl rfl rfl ?_; clear hst; intro w hst) | (refine kb 3 hst rfl rfl ?_; clear hst; intro b3 w hb3 hst) | (refine kb 4 hst rfl rfl ?_; clear hst; intro b4 w hb4 hst) | (refine kb 5 hst rfl rfl ?_; clear hst; intro b5 w hb5 hst) | (refine ka 6 hst tz24 rfl rfl ?_; clear hst; intro b6 w hb6 hst) | (refine kc hst tc3 rfl ?_) | (refine kl hst ta24 rfl ?_) | (refine wl_slice2 (o := ⟨some 22, _, _, _, _, _⟩) hst ts169 te24 rfl rfl (by (simp only [eval_lit, eval_k, eval_f, eval_g, List.getD_cons_succ, List.getD_cons_zero]) <;> rfl) (by (simp only [eval_lit, eval_k, eval_f, eval_g, List.getD_cons_succ, List.getD_cons_zero]) <;> rfl) (by rfl) (by rfl) ?_; clear hst; intro b22 w hb22 hst) | (refine kt hst ta24 rfl rfl ?_; clear hst; intro w hst) | (refine ka 10 hst tz24 rfl rfl ?_; clear hst; intro b10 w hb10 hst)); try simp only [pz, pn, sz, sc])
  refine bp_ctt rfl rfl (la hst ta24) (by rfl) (by rfl) ⟨?_, hst.keeps⟩
  rfl

/-- A division that special tells. -/
theorem fpu_div_sp (u : Nat) (op k f m : Int) (a b x : Nat) (g : Int) (w0 : World) (hsp : ∀ w, Keeps [] w0 w → GivesAt Tryz.prog 44 #[.int .i64 f, Wd a, Wd b] (.tuple #[Wd x, .int .i64 g, .bool true]) w) :
    GivesAt Tryz.prog 33 #[.pointer (some ⟨u, 0, none⟩), .agg (recC op k f m a b)] (.tuple #[Wd x, .int .i64 g]) w0 := by
  have hst := St.start [] w0
  obtain ⟨g0, g1, g2, g3⟩ := recC_at op k f m a b
  have y1 := recC_size op k f m a b
  have y2 := recC_one op k f m a b
  have pa := recC_a op k f m a b
  have pb := recC_b op k f m a b
  have hs := Lib.hid hsp
  clear hsp
  generalize recC op k f m a b = cs at *
  go_enter Tryz.func33, Tryz.ntmps33
  go_wp2_with ((first | (refine klm hst ta24 rfl ?_ (hc := pa)) | (refine klm hst ta24 rfl ?_ (hc := pb)) | (refine kg gf44 hst (fun w hst => hs.out w hst.keeps) rfl rfl rfl rfl ?_; clear hst; intro w hst) | (refine kb 3 hst rfl rfl ?_; clear hst; intro b3 w hb3 hst) | (refine ka 4 hst tz24 rfl rfl ?_; clear hst; intro b4 w hb4 hst) | (refine kc hst tc3 rfl ?_) | (refine kl hst ta24 rfl ?_) | (refine klm hst ta24 rfl ?_) | (refine ka 6 hst tz24 rfl rfl ?_; clear hst; intro b6 w hb6 hst) | (refine kt hst ta24 rfl rfl ?_; clear hst; intro w hst) | (refine kc hst tc82 rfl ?_) | (refine ka 9 hst tz24 rfl rfl ?_; clear hst; intro b9 w hb9 hst)); try simp only [pz, pn, sz, sc])
  refine bp_ct rfl rfl (la hst ta24) (by rfl) ⟨?_, hst.keeps⟩
  rfl

theorem fpu_Do_div (u : Nat) (k f m : Int) (a b x : Nat) (g : Int) (w0 : World) (hmay : ∀ w, Keeps [] w0 w → GivesAt Tryz.prog 23 #[.agg (recC 1 k f m a b)] (.bool true) w)
    (hdv : ∀ w, Keeps [] w0 w → GivesAt Tryz.prog 33 #[.pointer (some ⟨u, 0, none⟩), .agg (recC 1 k f m a b)] (.tuple #[Wd x, .int .i64 g]) w) :
    GivesAt Tryz.prog 15 #[.pointer (some ⟨u, 0, none⟩), .agg (recC 1 k f m a b)] (.agg (resC x g 0)) w0 := by
  have hst := St.start [] w0
  obtain ⟨g0, g1, g2, g3⟩ := recC_at 1 k f m a b
  have y1 := recC_size 1 k f m a b
  have y2 := recC_one 1 k f m a b
  have hm := Lib.hid hmay
  have hd := Lib.hid hdv
  have hde := fun w => fpu_deeds w
  clear hmay hdv g1 g2 g3
  generalize recC 1 k f m a b = cs at *
  go_enter Tryz.func15, Tryz.ntmps15
  go_wp2_with ((first | (go_big_skip) | (refine kg gf23 hst (fun w hst => hm.out w hst.keeps) rfl rfl rfl rfl ?_; clear hst; intro w hst) | (refine wl_guard (by rfl) ?_) | (refine kb 3 hst rfl rfl ?_; clear hst; intro b3 w hb3 hst) | (refine ka 4 hst tz41 rfl rfl ?_; clear hst; intro b4 w hb4 hst) | (refine kl hst ta26 rfl ?_) | (refine kB (tb41_2 _) rfl ?_) | (refine kt hst ta41 rfl rfl ?_; clear hst; intro w hst) | (refine kc hst tc3 rfl ?_) | (refine ka 5 hst tz24 rfl rfl ?_; clear hst; intro b5 w hb5 hst) | (refine kt hst ta24 rfl rfl ?_; clear hst; intro w hst) | (refine kl hst ta24 rfl ?_) | (refine kB (tb41_012 _ _ _) rfl ?_)); try simp only [pz, pn, sz, sc])
  refine wp_region_T 11  hst (by kernel_rfl) ?_; clear hst; intro w hst; (try simp only [List.length_cons, List.length_nil, Nat.reduceAdd, Array.replicate_succ, Array.replicate_zero, List.push_toArray, List.nil_append, List.cons_append])
  refine r0 1 ?_; simp only [pz, pn, sz, sc]
  refine r0 4 ?_; simp only [pz, pn, sz, sc]
  refine rl 2 rfl ?_ (ylC tc3); simp only [pz, pn, sz, sc]
  refine rl 5 rfl ?_ (by first | exact ylA ta26 | exact ylM ta26); simp only [pz, pn, sz, sc]
  refine r2 0 10 ?_ ?_
  (first | (refine kN (o := ⟨some 16, _, _, _, _, _⟩) gf24 hst (fun w hst => hde w) rfl rfl rfl rfl ?_; clear hst; intro v16 Lg16 w hn16 hR16 hst; obtain ⟨bm, rfl, rfl⟩ := hR16; (try simp only [List.cons_append, List.nil_append, List.append_nil, List.append_assoc] at hst)) | (refine kLu hst tm77 rfl ?_) | (refine kg gf33 hst (fun w hst => hd.out w hst.keeps) rfl rfl rfl rfl ?_; clear hst; intro w hst) | (refine kp ?_)); (try simp only [pz, pn, sz, sc]); refine re ?_
  refine r2 3 10 ?_ ?_
  (first | (refine kN (o := ⟨some 16, _, _, _, _, _⟩) gf24 hst (fun w hst => hde w) rfl rfl rfl rfl ?_; clear hst; intro v16 Lg16 w hn16 hR16 hst; obtain ⟨bm, rfl, rfl⟩ := hR16; (try simp only [List.cons_append, List.nil_append, List.append_nil, List.append_assoc] at hst)) | (refine kLu hst tm77 rfl ?_) | (refine kg gf33 hst (fun w hst => hd.out w hst.keeps) rfl rfl rfl rfl ?_; clear hst; intro w hst) | (refine kp ?_)); (try simp only [pz, pn, sz, sc]); refine re ?_
  refine r2 6 10 ?_ ?_
  (first | (refine kN (o := ⟨some 16, _, _, _, _, _⟩) gf24 hst (fun w hst => hde w) rfl rfl rfl rfl ?_; clear hst; intro v16 Lg16 w hn16 hR16 hst; obtain ⟨bm, rfl, rfl⟩ := hR16; (try simp only [List.cons_append, List.nil_append, List.append_nil, List.append_assoc] at hst)) | (refine kLu hst tm77 rfl ?_) | (refine kg gf33 hst (fun w hst => hd.out w hst.keeps) rfl rfl rfl rfl ?_; clear hst; intro w hst) | (refine kp ?_)); (try simp only [pz, pn, sz, sc]); refine re ?_
  refine r0 7 ?_; simp only [pz, pn, sz, sc]
  refine r0 8 ?_; simp only [pz, pn, sz, sc]
  refine r0 9 ?_; simp only [pz, pn, sz, sc]
  refine r1 10 ?_; (refine ka 5 hst tz24 rfl rfl ?_; clear hst; intro b5 w hb5 hst); (try simp only [pz, pn, sz, sc]); refine re ?_
  refine r1 11 ?_; (refine kt hst ta24 rfl rfl ?_; clear hst; intro w hst); (try simp only [pz, pn, sz, sc]); refine re ?_
  refine r0 12 ?_; simp only [pz, pn, sz, sc]
  refine rd_ ?_
  rotate_left 1
  (refine ka 5 hst tz24 rfl rfl ?_; clear hst; intro b5 w hb5 hst); (try simp only [pz, pn, sz, sc]); refine re ?_
  refine r1 6 ?_; (first | (refine kN (o := ⟨some 16, _, _, _, _, _⟩) gf24 hst (fun w hst => hde w) rfl rfl rfl rfl ?_; clear hst; intro v16 Lg16 w hn16 hR16 hst; obtain ⟨bm, rfl, rfl⟩ := hR16; (try simp only [List.cons_append, List.nil_append, List.append_nil, List.append_assoc] at hst)) | (refine kLu hst tm77 rfl ?_) | (refine kg gf33 hst (fun w hst => hd.out w hst.keeps) rfl rfl rfl rfl ?_; clear hst; intro w hst) | (refine kp ?_)); (try simp only [pz, pn, sz, sc]); refine re ?_
  refine r0 7 ?_; simp only [pz, pn, sz, sc]
  refine r0 8 ?_; simp only [pz, pn, sz, sc]
  refine r0 9 ?_; simp only [pz, pn, sz, sc]
  refine r1 11 ?_; (refine kt hst ta24 rfl rfl ?_; clear hst; intro w hst); (try simp only [pz, pn, sz, sc]); refine re ?_
  refine r0 12 ?_; simp only [pz, pn, sz, sc]
  refine rd_ ?_
  rotate_right 1
  rotate_left 2
  (refine ka 5 hst tz24 rfl rfl ?_; clear hst; intro b5 w hb5 hst); (try simp only [pz, pn, sz, sc]); refine re ?_
  refine r1 3 ?_; (first | (refine kN (o := ⟨some 16, _, _, _, _, _⟩) gf24 hst (fun w hst => hde w) rfl rfl rfl rfl ?_; clear hst; intro v16 Lg16 w hn16 hR16 hst; obtain ⟨bm, rfl, rfl⟩ := hR16; (try simp only [List.cons_append, List.nil_append, List.append_nil, List.append_assoc] at hst)) | (refine kLu hst tm77 rfl ?_) | (refine kg gf33 hst (fun w hst => hd.out w hst.keeps) rfl rfl rfl rfl ?_; clear hst; intro w hst) | (refine kp ?_)); (try simp only [pz, pn, sz, sc]); refine re ?_
  refine r1 6 ?_; (first | (refine kN (o := ⟨some 16, _, _, _, _, _⟩) gf24 hst (fun w hst => hde w) rfl rfl rfl rfl ?_; clear hst; intro v16 Lg16 w hn16 hR16 hst; obtain ⟨bm, rfl, rfl⟩ := hR16; (try simp only [List.cons_append, List.nil_append, List.append_nil, List.append_assoc] at hst)) | (refine kLu hst tm77 rfl ?_) | (refine kg gf33 hst (fun w hst => hd.out w hst.keeps) rfl rfl rfl rfl ?_; clear hst; intro w hst) | (refine kp ?_)); (try simp only [pz, pn, sz, sc]); refine re ?_
  refine r0 7 ?_; simp only [pz, pn, sz, sc]
  refine r0 8 ?_; simp only [pz, pn, sz, sc]
  refine r0 9 ?_; simp only [pz, pn, sz, sc]
  refine r1 11 ?_; (refine kt hst ta24 rfl rfl ?_; clear hst; intro w hst); (try simp only [pz, pn, sz, sc]); refine re ?_
  refine r0 12 ?_; simp only [pz, pn, sz, sc]
  refine rd_ ?_
  rotate_right 2
  rotate_left 3
  (refine ka 5 hst tz24 rfl rfl ?_; clear hst; intro b5 w hb5 hst); (try simp only [pz, pn, sz, sc]); refine re ?_
  refine r1 0 ?_; (first | (refine kN (o := ⟨some 16, _, _, _, _, _⟩) gf24 hst (fun w hst => hde w) rfl rfl rfl rfl ?_; clear hst; intro v16 Lg16 w hn16 hR16 hst; obtain ⟨bm, rfl, rfl⟩ := hR16; (try simp only [List.cons_append, List.nil_append, List.append_nil, List.append_assoc] at hst)) | (refine kLu hst tm77 rfl ?_) | (refine kg gf33 hst (fun w hst => hd.out w hst.keeps) rfl rfl rfl rfl ?_; clear hst; intro w hst) | (refine kp ?_)); (try simp only [pz, pn, sz, sc]); refine re ?_
  refine r1 3 ?_; (first | (refine kN (o := ⟨some 16, _, _, _, _, _⟩) gf24 hst (fun w hst => hde w) rfl rfl rfl rfl ?_; clear hst; intro v16 Lg16 w hn16 hR16 hst; obtain ⟨bm, rfl, rfl⟩ := hR16; (try simp only [List.cons_append, List.nil_append, List.append_nil, List.append_assoc] at hst)) | (refine kLu hst tm77 rfl ?_) | (refine kg gf33 hst (fun w hst => hd.out w hst.keeps) rfl rfl rfl rfl ?_; clear hst; intro w hst) | (refine kp ?_)); (try simp only [pz, pn, sz, sc]); refine re ?_
  refine r1 6 ?_; (first | (refine kN (o := ⟨some 16, _, _, _, _, _⟩) gf24 hst (fun w hst => hde w) rfl rfl rfl rfl ?_; clear hst; intro v16 Lg16 w hn16 hR16 hst; obtain ⟨bm, rfl, rfl⟩ := hR16; (try simp only [List.cons_append, List.nil_append, List.append_nil, List.append_assoc] at hst)) | (refine kLu hst tm77 rfl ?_) | (refine kg gf33 hst (fun w hst => hd.out w hst.keeps) rfl rfl rfl rfl ?_; clear hst; intro w hst) | (refine kp ?_)); (try simp only [pz, pn, sz, sc]); refine re ?_
  refine r0 7 ?_; simp only [pz, pn, sz, sc]
  refine r0 8 ?_; simp only [pz, pn, sz, sc]
  refine r0 9 ?_; simp only [pz, pn, sz, sc]
  refine r1 11 ?_; (refine kt hst ta24 rfl rfl ?_; clear hst; intro w hst); (try simp only [pz, pn, sz, sc]); refine re ?_
  refine r0 12 ?_; simp only [pz, pn, sz, sc]
  refine rd_ ?_
  rotate_right 3
  all_goals
    go_wp2_with ((first | (refine wl_guard (by rfl) ?_) | (refine kb 3 hst rfl rfl ?_; clear hst; intro b3 w hb3 hst) | (refine ka 4 hst tz41 rfl rfl ?_; clear hst; intro b4 w hb4 hst) | (refine kl hst ta26 rfl ?_) | (refine kB (tb41_2 _) rfl ?_) | (refine kt hst ta41 rfl rfl ?_; clear hst; intro w hst) | (refine kc hst tc3 rfl ?_) | (refine ka 5 hst tz24 rfl rfl ?_; clear hst; intro b5 w hb5 hst) | (refine kt hst ta24 rfl rfl ?_; clear hst; intro w hst) | (refine kl hst ta24 rfl ?_) | (refine kB (tb41_012 _ _ _) rfl ?_)); try simp only [pz, pn, sz, sc])
    refine bp_c rfl rfl (la hst ta41) ⟨?_, hst.keeps⟩
    rfl

end Go.Proofs.YtoakmlopjeecoaaGreatDoor.Rd

namespace Go.Proofs.YtoakmlopjeecoaaGreatDoor.Rd
open Go Go.RowKit
set_option linter.unusedVariables false
set_option linter.unusedSimpArgs false
set_option maxRecDepth 100000

end Go.Proofs.YtoakmlopjeecoaaGreatDoor.Rd

namespace Go.Proofs.YtoakmlopjeecoaaGreatDoor.Rd
open Go Go.RowKit
set_option linter.unusedVariables false
set_option linter.unusedSimpArgs false
set_option maxRecDepth 100000

theorem cell_lt {w : World} {g i : Nat} {v : Value} (h : w.cell? ⟨g, i, none⟩ = some v) : g < w.heap.size := by
  rcases Nat.lt_or_ge g w.heap.size with h' | h'
  · exact h'
  · simp [World.cell?, Array.getElem?_eq_none h'] at h
/-- What the examples of chapter 34 ask of the world. -/
structure BatIn (w : World) : Prop where
  fmt : FmtIn w
  names : NamesIn w
  flags : FlIn w
theorem BatIn.lts {w : World} (h : BatIn w) : 2 < w.heap.size ∧ 1 < w.heap.size ∧ 0 < w.heap.size :=
  ⟨cell_lt (h.fmt 1 (.int .i64 0) rfl), cell_lt (h.names 0 (by omega)), cell_lt (h.flags 0 (.int .i64 1) rfl)⟩
theorem BatIn.keep {w w' : World} {S : List Nat} (h : BatIn w) (k : Keeps S w w') (h1 : 2 ∉ S) (h2 : 1 ∉ S) (h3 : 0 ∉ S) : BatIn w' :=
  ⟨h.fmt.keep k h1, fun i hi => k.cellX h2 (h.names i hi), h.flags.keep k h3⟩
theorem BatIn.keep0 {w w' : World} (h : BatIn w) (k : Keeps [] w w') : BatIn w' := h.keep k (by simp) (by simp) (by simp)

theorem ex34_a : clsN 1 15360 = 4 ∧ clsN 1 0 = 6 ∧ infW 1 (wNeg 1 15360 != wNeg 1 0) = 31744 ∧ 15360 < 2 ^ fB 1 ∧ 0 < 2 ^ fB 1 := by decide +kernel
/-- An fpu's answer to the first record of the example. -/
theorem ex34_do (u : Nat) (w0 : World) (h : BatIn w0) : GivesAt Tryz.prog 15 #[.pointer (some ⟨u, 0, none⟩), .agg (recC 1 2 1 1 15360 0)] (.agg (resC 31744 2 0)) w0 := by
  obtain ⟨a1, a2, a3, a4, a5⟩ := ex34_a
  refine fpu_Do_div u 2 1 1 15360 0 31744 2 w0 (fun w k => fpu_May_div 2 1 1 (by omega) (by omega) (by omega) (by omega) (by omega) (by omega) 15360 0 (by decide) (by decide) a4 a5 w (h.keep0 k).fmt (h.keep0 k).names)
    (fun w k => fpu_div_sp u 1 2 1 1 15360 0 31744 2 w (fun w' k' => ?_))
  have := special_Div_zero 1 (by omega) (by omega) 15360 0 a4 a5 (.inl a1) a2 w' ((h.keep0 k).keep0 k').fmt
  rw [a3] at this
  exact this
theorem ex34_bad (u : Nat) : Gives Tryz.prog 15 #[.pointer (some ⟨u, 0, none⟩), .agg (recC 0 0 0 0 0 0)] (.agg (resC 0 0 1)) := by
  have := fpu_Do_bad u (recC 0 0 0 0 0 0) (recC_size _ _ _ _ _ _) (recC_one _ _ _ _ _ _) (fpu_May_op 0 0 0 0 0 0 (by omega) (by omega))
  rw [badR_eq] at this
  exact this

def exRc (k : Nat) : Array Value := if k = 0 then recC 1 2 1 1 15360 0 else recC 0 0 0 0 0 0
def exRl : Array Value := recC 1 2 1 1 15360 0 ++ recC 0 0 0 0 0 0
theorem exRl_part (k : Nat) (h : k < 2) : Part exRl (exRc k) exRl (exRc k) (k * 8) := by
  obtain rfl | rfl : k = 0 ∨ k = 1 := by omega
  · exact ⟨#[], recC 0 0 0 0 0 0, by simp [exRl, exRc], by simp [exRl, exRc], rfl, rfl⟩
  · exact ⟨recC 1 2 1 1 15360 0, #[], by simp [exRl, exRc], by simp [exRl, exRc], rfl, rfl⟩
def exCt : Array Value := #[.int .i64 2, .int .i64 1, .int .i64 0, .int .i64 1, .int .i64 0, .int .i64 0, .int .i64 0]
theorem exCt_eq : ctC ((2 : Nat) : Int) (sumI (fun k => bd (if k = 0 then 0 else 1)) 2) (fun i => sumI (fun k => ft (if k = 0 then 2 else 0) i) 2) = exCt := by kernel_rfl
theorem ex_build1 (w : World) : (Instr.build 26 (List.toArray [(0, .int .i64 1), (1, .int .i64 2), (2, .int .i64 1), (3, .int .i64 1), (4, .agg #[.int .u64 0, .int .u64 15360])])).run Tryz.prog w = .ok (.agg (recC 1 2 1 1 15360 0)) w := by kernel_rfl
theorem ex_build2 (w : World) : (Instr.build 26 (List.toArray [])).run Tryz.prog w = .ok (.agg (recC 0 0 0 0 0 0)) w := by kernel_rfl
theorem ex_slice : Tryz.prog.builtSlice 26 2 [(0, .agg (recC 1 2 1 1 15360 0)), (1, .agg (recC 0 0 0 0 0 0))] = some exRl := by kernel_rfl
theorem ex_ct (w : World) : (Op.equalIn 10000 36 (.agg exCt) (.agg exCt)).run Tryz.prog w = .ok true w := by rw [← exCt_eq]; exact ct_same _ _ _ w
theorem ex_buildC (w : World) : (Instr.build 36 (List.toArray [(0, .int .i64 2), (1, .int .i64 1), (2, .agg #[.int .i64 0, .int .i64 1, .int .i64 0, .int .i64 0, .int .i64 0])])).run Tryz.prog w = .ok (.agg exCt) w := by kernel_rfl

set_option maxHeartbeats 4000000 in
theorem law34_awake (w0 : World) (h : BatIn w0) : GivesAt Tryz.prog 8 #[] (.bool true) w0 := by
  have hst := St.start [] w0
  have hnew := fun w => batch_New w
  have hlt := h.lts
  have hea := Lib.hid (fun (bb b10 : Nat) (hb1 : w0.heap.size ≤ bb) (hne : bb ≠ b10) (w : World) (k : Keeps [] w0 w) (q1 : w.heap[bb]? = some (.cells (batC 0 0 none 0 0 (fun _ => 0)) 62)) (q2 : w.heap[b10]? = some (.cells exRl 26)) =>
    batch_Each bb 0 none (.inl ⟨rfl, rfl⟩) 2 2 (by omega) b10 26 exRl exRc (fun k => by unfold exRc; split <;> exact recC_size _ _ _ _ _ _) (fun k => by unfold exRc; split <;> exact recC_one _ _ _ _ _ _) exRl_part
      (fun k => if k = 0 then 31744 else 0) (fun k => if k = 0 then 2 else 0) (fun k => if k = 0 then 0 else 1) (fun k => by by_cases e : k = 0 <;> simp [e, ResOk]) w (h.keep0 k).flags (by have := hlt.2.2; omega) hne q1 q2
      (fun j hj bu w' k' => by
        have hB := (h.keep0 k).keep k' (by have := hlt.1; simp; omega) (by have := hlt.2.1; simp; omega) (by have := hlt.2.2; simp; omega)
        obtain rfl | rfl : j = 0 ∨ j = 1 := by omega
        · exact ex34_do bu w' hB
        · exact ex34_bad bu w'))
  have hct := Lib.hid (fun (bb : Nat) (d : Int) (p : Option Addr) (w : World) (q : w.heap[bb]? = some (.cells (batC d 0 p ((2 : Nat) : Int) (sumI (fun k => bd (if k = 0 then 0 else 1)) 2) (fun i => sumI (fun k => ft (if k = 0 then 2 else 0) i) 2)) 62)) => exCt_eq ▸ batch_Counts bb d p _ _ _ w q)
  have hb1 := ex_build1
  have hb2 := ex_build2
  have hsl := ex_slice
  have hce := ex_ct
  have hbc := ex_buildC
  generalize recC 1 2 1 1 15360 0 = r0 at hb1 hsl
  generalize recC 0 0 0 0 0 0 = r1' at hb2 hsl
  generalize exRl = rl' at hsl hea
  clear h hlt
  generalize exCt = cC at *
  go_enter Tryz.func8, Tryz.ntmps8
  go_wp2_with ((first | (go_big_skip) | (refine kN (o := ⟨some 4, _, _, _, _, _⟩) gf5 hst (fun w hst => hnew w) rfl rfl rfl rfl ?_; clear hst; intro v4 Lg4 w hn4 hR4 hst; obtain ⟨bb, rfl, rfl⟩ := hR4; (try simp only [List.cons_append, List.nil_append, List.append_nil, List.append_assoc] at hst); have hbb0 : w0.heap.size ≤ bb := hn4.1 _ (List.mem_singleton.2 rfl)) | (refine kB hb1 rfl ?_) | (refine kB hb2 rfl ?_) | (refine kB hbc rfl ?_) | (refine kS 10 hst ts27 hsl rfl rfl ?_; clear hst; intro b10 w hb10 hst) | (refine kE (o := ⟨some 11, _, _, _, _, _⟩) (fun ob => [(b10, .cells rl' 26), (bb, ob)]) gf6 hst (fun w hst => hea.out bb b10 hbb0 (by have q := hst.nodup; simp only [List.map_cons, List.map_nil, List.nodup_cons, List.mem_cons, List.not_mem_nil, or_false, not_or] at q; omega) w hst.keeps (hst.own _ _ (by repeat (first | exact List.Mem.head _ | refine List.Mem.tail _ ?_))) (hst.own _ _ (by repeat (first | exact List.Mem.head _ | refine List.Mem.tail _ ?_)))) rfl rfl rfl rfl ?_; clear hst; intro v11 ob w hR hst; obtain ⟨⟨out, c, rfl⟩, d, p, hp, rfl⟩ := hR) | (refine kg gf7 hst (fun w hst => hct.out bb d p w (hst.own _ _ (by repeat (first | exact List.Mem.head _ | refine List.Mem.tail _ ?_)))) rfl rfl rfl rfl ?_; clear hst; intro w hst) | (refine keV hce rfl ?_) | (refine wl_guard (by rfl) ?_) | (refine kB (tb26_01234 _ _ _ _ _) rfl ?_) | (refine wl_slice2 (o := ⟨some 10, _, _, _, _, _⟩) hst ts27 te26 rfl rfl (by (simp only [eval_lit, eval_k, eval_f, eval_g, List.getD_cons_succ, List.getD_cons_zero]) <;> rfl) (by (simp only [eval_lit, eval_k, eval_f, eval_g, List.getD_cons_succ, List.getD_cons_zero]) <;> rfl) (by rfl) (by rfl) ?_; clear hst; intro b10 w hb10 hst)); try simp only [pz, pn, sz, sc])
  refine bp_t rfl rfl (by rfl) ⟨?_, hst.keeps⟩
  rfl

end Go.Proofs.YtoakmlopjeecoaaGreatDoor.Rd

namespace Go.Proofs.YtoakmlopjeecoaaGreatDoor.Rd
open Go Go.RowKit
set_option linter.unusedVariables false
set_option linter.unusedSimpArgs false
set_option maxRecDepth 100000

end Go.Proofs.YtoakmlopjeecoaaGreatDoor.Rd

namespace Go.Proofs.YtoakmlopjeecoaaGreatDoor.Rd
open Go Go.RowKit
set_option linter.unusedVariables false
set_option linter.unusedSimpArgs false
set_option maxRecDepth 100000

section
variable {P : Program} {ops : Array Oper} {rest : List Oper} {Q : Exit → Act → World → Prop} {a : Act} {w w0 : World} {S : List Nat} {L : List (Nat × Obj)}
/-- make of elements of some cells. -/
theorem wl_makeN {o : Oper} {T e : TypeId} {x y : Operand} {z : Value} {n bytes sz : Nat} (hst : St w0 S L w) (hT : SliceT P T e) (he : ElemT P e sz z) (hby : BytesT P e bytes) (hg : o.guard = none) (ho : o.op = .makeSlice T x y)
    (hx : a.eval x = .int .i64 (n : Int)) (hy : a.eval y = .int .i64 (n : Int)) (hroom : bytes * n ≤ 281474976710656) (hn : n ≤ 9223372036854775807)
    (h : ∀ b w', w0.heap.size ≤ b → St w0 S ((b, .cells (madeCells z.cells (n * sz)) e) :: L) w' → wpList P ops Q rest (a.put o.dst (.slice (some ⟨b, 0, none⟩) n n)) w') : wpList P ops Q (o :: rest) a w := by
  obtain ⟨i, hi, hisz, hz⟩ := he
  have hby' : i.bytes = bytes := by simpa [BytesT, hi] using hby
  have hr := run_make (P := P) w T e i z hT hi hz .i64 .i64 n n (by omega) (by omega) (by rw [hby']; have : ((bytes * n : Nat) : Int) ≤ 281474976710656 := by omega
                                                                                          rwa [Int.natCast_mul] at this) (by omega)
  simp only [Int.toNat_natCast, hisz] at hr
  refine wpList_plain hg fun K hK => ?_
  unfold Oper.wp execOp
  simp only [ho, hx, hy, Sem.run_bind, hr, Sem.run_pure, Result.andThen_ok]
  exact hK _ _ (h _ _ hst.keeps.size (hst.alloc _))
end

/-- A part of some cells, in their middle, turned. -/
def turned (cl sub : Array Value) (o : Nat) : Array Value := cl.extract 0 o ++ sub ++ cl.extract (o + sub.size) cl.size
theorem part_of (cl sub : Array Value) (o : Nat) (h : o + sub.size ≤ cl.size) : Part cl (cl.extract o (o + sub.size)) (turned cl sub o) sub o := by
  refine ⟨cl.extract 0 o, cl.extract (o + sub.size) cl.size, ?_, rfl, ?_, ?_⟩
  · apply Array.ext_getElem?
    intro i
    simp only [Array.getElem?_append, Array.size_append, Array.size_extract, Array.getElem?_extract]
    rcases Nat.lt_or_ge i cl.size with hi | hi
    · repeat' split
      all_goals first | omega | (congr 1; omega) | rfl
    · rw [Array.getElem?_eq_none hi]
      repeat' split
      all_goals first | omega | rfl | (symm; apply Array.getElem?_eq_none; omega) | (simp; omega)
  · simp; omega
  · simp; omega
theorem turned_size (cl sub : Array Value) (o : Nat) (h : o + sub.size ≤ cl.size) : (turned cl sub o).size = cl.size := by
  simp [turned]; omega
theorem turned_in (cl sub : Array Value) (o : Nat) (h : o + sub.size ≤ cl.size) (i : Nat) (hi : i < sub.size) : (turned cl sub o)[o + i]? = sub[i]? := by
  have h1 : (cl.extract 0 o).size = o := by simp; omega
  unfold turned
  rw [Array.append_assoc, Array.getElem?_append_right (by omega), h1, Nat.add_sub_cancel_left, Array.getElem?_append_left hi]
theorem turned_out (cl sub : Array Value) (o : Nat) (h : o + sub.size ≤ cl.size) (i : Nat) (hi : i < o) : (turned cl sub o)[i]? = cl[i]? := by
  have h1 : (cl.extract 0 o).size = o := by simp; omega
  unfold turned
  rw [Array.append_assoc, Array.getElem?_append_left (by omega), Array.getElem?_extract]
  have : i < min o cl.size - 0 := by omega
  simp only [this, if_true, Nat.zero_add]
/-- The first k records of some cells are cs. -/
def RecsIn (cl cs : Array Value) (n k : Nat) : Prop := cl.size = n * 8 ∧ ∀ j, j < k → ∀ i, i < 8 → cl[j * 8 + i]? = cs[i]?
theorem RecsIn.start (cs z : Array Value) (n : Nat) : RecsIn (madeCells z (n * 8)) cs n 0 := ⟨size_madeCells _ _, fun j hj => by omega⟩
theorem RecsIn.step {cl cs : Array Value} {n k : Nat} (h : RecsIn cl cs n k) (hs : cs.size = 8) (hk : k < n) : RecsIn (turned cl cs (k * 8)) cs n (k + 1) := by
  obtain ⟨h1, h2⟩ := h
  have hle : k * 8 + cs.size ≤ cl.size := by omega
  refine ⟨by rw [turned_size _ _ _ hle]; exact h1, fun j hj i hi => ?_⟩
  rcases Nat.lt_or_ge j k with hlt | hge
  · rw [turned_out _ _ _ hle _ (by omega)]; exact h2 j hlt i hi
  · obtain rfl : j = k := by omega
    exact turned_in _ _ _ hle i (by omega)
theorem RecsIn.part {cl cs : Array Value} {n : Nat} (h : RecsIn cl cs n n) (hs : cs.size = 8) (k : Nat) (hk : k < n) : Part cl cs cl cs (k * 8) := by
  obtain ⟨h1, h2⟩ := h
  have hp := part_of cl cs (k * 8) (by omega)
  have e : cl.extract (k * 8) (k * 8 + cs.size) = cs := by
    apply Array.ext_getElem?
    intro i
    rw [Array.getElem?_extract]
    rcases Nat.lt_or_ge i 8 with hi | hi
    · rw [if_pos (by omega)]; exact h2 k hk i hi
    · rw [if_neg (by omega), Array.getElem?_eq_none (by omega)]
  rw [e] at hp
  obtain ⟨pre, post, h3, h4, h5, h6⟩ := hp
  exact ⟨pre, post, h3, h3, h5, rfl⟩

theorem sumI_one (f : Nat → Int) (h : ∀ k, f k = 1) : ∀ n, sumI f n = n
  | 0 => rfl
  | n + 1 => by unfold sumI; rw [sumI_one f h n, h]; push_cast; rfl
theorem sumI_none (f : Nat → Int) (h : ∀ k, f k = 0) : ∀ n, sumI f n = 0
  | 0 => rfl
  | n + 1 => by unfold sumI; rw [sumI_none f h n, h]; rfl
theorem full_counts (N : Nat) : ctC (N : Int) (sumI (fun _ => bd 1) N) (fun i => sumI (fun _ => ft 0 i) N) = #[.int .i64 (N : Nat), .int .i64 (N : Nat), .int .i64 0, .int .i64 0, .int .i64 0, .int .i64 0, .int .i64 0] := by
  have e1 : sumI (fun _ => bd 1) N = N := sumI_one _ (fun _ => rfl) N
  have e2 : ∀ i, sumI (fun _ => ft 0 i) N = 0 := fun i => sumI_none _ (fun _ => by unfold ft; rw [if_neg (by omega)]) N
  unfold ctC
  rw [e1]
  simp only [e2]

theorem recC_9 (op k f m : Int) (a b : Nat) : (recC op k f m a b).setIfInBounds 0 (.int .i64 9) = recC 9 k f m a b := rfl

set_option maxHeartbeats 8000000 in
theorem law_BatchFull (more : Nat) (hm : more < 256) (op k f m : Int) (a b : Nat) (w0 : World) (h : BatIn w0) (haw : ∀ w, Keeps [] w0 w → GivesAt Tryz.prog 8 #[] (.bool true) w) :
    GivesAt Tryz.prog 3 #[.int .u8 more, .agg (recC op k f m a b)] (.bool true) w0 := by
  have hst := St.start [] w0
  have ha := Lib.hid haw
  clear haw
  have hlt := h.lts
  have y1 := recC_size op k f m a b
  have y2 := recC_one op k f m a b
  have x1 := recC_size 9 k f m a b
  have x2 := recC_one 9 k f m a b
  have hset := Lib.hid (recC_9 op k f m a b)
  have hbad := Lib.hid (fun u => (by
    have := fpu_Do_bad u (recC 9 k f m a b) (recC_size _ _ _ _ _ _) (recC_one _ _ _ _ _ _) (fpu_May_op 9 k f m a b (by omega) (by omega))
    rw [badR_eq] at this
    exact this : Gives Tryz.prog 15 #[.pointer (some ⟨u, 0, none⟩), .agg (recC 9 k f m a b)] (.agg (resC 0 0 1))))
  generalize recC op k f m a b = cs0 at *
  generalize recC 9 k f m a b = cs at *
  obtain ⟨n, hn⟩ : ∃ n : Nat, (250 : Int) + (more : Int) % 12 = (n : Int) := ⟨250 + more % 12, by omega⟩
  have n1 : 250 ≤ n := by omega
  have n2 : n ≤ 261 := by omega
  have hnew := fun w => batch_New w
  have hr1 : (0 : Int) ≤ (more : Int) % 12 := by omega
  have hr2 : (more : Int) % 12 ≤ 11 := by omega
  go_enter Tryz.func3, Tryz.ntmps3
  go_wp2_with ((first | (go_big_skip) | (refine wl_makeN (bytes := 64) (n := n) (o := ⟨some 16, _, _, _, _, _⟩) hst ts27 te26 (show BytesT _ _ _ by unfold BytesT; kernel_rfl) rfl rfl (by rfl) (by rfl) (by omega) (by omega) ?_; clear hst; intro b16 w hb16 hst; (try simp only [pz, pn, sz, sc])) | (refine wl_guard (by rfl) ?_) | (refine kb 3 hst rfl rfl ?_; clear hst; intro b3 w hb3 hst) | (refine ks hst tc3 rfl rfl ?_; clear hst; intro w hst; (try rw [hset.out] at hst)) | (refine kl hst ta26 rfl ?_) | (refine kt hst ta26 rfl rfl ?_; clear hst; intro w hst; (try rw [hset.out] at hst)) | (refine ktm hst ta26 rfl rfl ?_; clear hst; intro w hst; (try rw [hset.out] at hst))); try simp only [pz, pn, sz, sc])
  go_loopw [7] (fun i wr => ∃ (k : Nat) (cl : Array Value), k ≤ n ∧ i = .int .i64 k ∧ RecsIn cl cs n k ∧ St w0 [] [(b16, .cells cl 26), (b3, .cells cs 26)] wr) (fun i _ => n - (intOf i).toNat)
  case atStart => exact ⟨0, _, by omega, rfl, RecsIn.start _ _ _, hst⟩
  case round =>
    clear hst
    obtain ⟨k, cl, hk, rfl, hrec, hst⟩ := hrel
    by_cases hlk : k < n
    · have q : decide ((k : Int) < (n : Int)) = true := decide_eq_true (by omega)
      have i1 : (0 : Int) ≤ (k : Int) := by omega
      have i2 : (k : Int) < (n : Int) := by omega
      have hpk := part_of cl cs (k * 8) (by have := hrec.1; omega)
      have hs := Lib.hid (hrec.step x1 hlk)
      have hrec' := Lib.hid hrec
      clear hrec hbad h hnew hlt ha
      go_wp2_with ((first | (refine ktm hst ta26 rfl rfl ?_ (hc := hpk) (hn := x1) (h1 := x2.h); clear hst; intro w hst) | (refine wl_guard (by rfl) ?_) | (refine kb 3 hst rfl rfl ?_; clear hst; intro b3 w hb3 hst) | (refine ks hst tc3 rfl rfl ?_; clear hst; intro w hst) | (refine kl hst ta26 rfl ?_) | (refine kt hst ta26 rfl rfl ?_; clear hst; intro w hst) | (refine ktm hst ta26 rfl rfl ?_; clear hst; intro w hst)); try simp only [pz, pn, sz, sc])
      go_roundw
      case rel => exact ⟨k + 1, _, by omega, by go_num, hs.out, hst⟩
      case measure => simp [intOf]; omega
    · have : k = n := by omega
      subst this
      have q : decide ((k : Int) < (k : Int)) = false := by simp
      clear hset hr1 hr2 hn
      by_cases hf : 256 < k
      · have q2 : decide ((256 : Int) < (k : Int)) = true := decide_eq_true (by omega)
        have hea := Lib.hid (fun bb b => batch_Each_full bb b k k hf (by omega))
        have hct := Lib.hid (fun bb w q => batch_Counts bb 0 none 0 0 (fun _ => 0) w q)
        have hct' := Lib.hid (show ctC 0 0 (fun _ => 0) = #[.int .i64 0, .int .i64 0, .int .i64 0, .int .i64 0, .int .i64 0, .int .i64 0, .int .i64 0] from rfl)
        rw [hct'.out] at hct
        have he2 : ∀ w, (Op.equalIn 10000 36 (.agg #[.int .i64 0, .int .i64 0, .int .i64 0, .int .i64 0, .int .i64 0, .int .i64 0, .int .i64 0]) (.agg #[.int .i64 0, .int .i64 0, .int .i64 0, .int .i64 0, .int .i64 0, .int .i64 0, .int .i64 0])).run Tryz.prog w = .ok true w := fun w => ct_same 0 0 (fun _ => 0) w
        have hb2 : ∀ w, (Instr.build 36 (List.toArray [])).run Tryz.prog w = .ok (.agg #[.int .i64 0, .int .i64 0, .int .i64 0, .int .i64 0, .int .i64 0, .int .i64 0, .int .i64 0]) w := fun w => by kernel_rfl
        generalize #[Value.int .i64 0, .int .i64 0, .int .i64 0, .int .i64 0, .int .i64 0, .int .i64 0, .int .i64 0] = cz at *
        clear hct' hf hbad h hlt hrec
        go_wp2_with ((first | (go_big_skip) | (refine kN (o := ⟨some 27, _, _, _, _, _⟩) gf5 hst (fun w hst => hnew w) rfl rfl rfl rfl ?_; clear hst; intro v27 Lg27 w hn27 hR27 hst; obtain ⟨bb, rfl, rfl⟩ := hR27; (try simp only [List.cons_append, List.nil_append, List.append_nil, List.append_assoc] at hst)) | (refine kf gf6 hst (hea.out bb _) rfl rfl rfl rfl ?_; clear hst; intro w hst) | (refine kg gf7 hst (fun w hst => hct.out bb w (hst.own _ _ (by repeat (first | exact List.Mem.head _ | refine List.Mem.tail _ ?_)))) rfl rfl rfl rfl ?_; clear hst; intro w hst) | (refine kB hb2 rfl ?_) | (refine keV he2 rfl ?_) | (refine kg gf8 hst (fun w hst => ha.out w hst.keeps) rfl rfl rfl rfl ?_; clear hst; intro w hst) | (refine wl_guard (by rfl) ?_) | (refine kb 3 hst rfl rfl ?_; clear hst; intro b3 w hb3 hst) | (refine ks hst tc3 rfl rfl ?_; clear hst; intro w hst) | (refine kl hst ta26 rfl ?_) | (refine kt hst ta26 rfl rfl ?_; clear hst; intro w hst) | (refine ktm hst ta26 rfl rfl ?_; clear hst; intro w hst)); try simp only [pz, pn, sz, sc])
        refine bp_t rfl rfl (by rfl) ⟨?_, hst.keeps⟩
        rfl
      · have q2 : decide ((256 : Int) < (k : Int)) = false := decide_eq_false (by omega)
        have hfe := Lib.hid (full_counts k)
        have hea := Lib.hid (fun (bb b10 : Nat) (hb1 : w0.heap.size ≤ bb) (hne : bb ≠ b10) (w : World) (kp : Keeps [] w0 w) (q1 : w.heap[bb]? = some (.cells (batC 0 0 none 0 0 (fun _ => 0)) 62)) (q2 : w.heap[b10]? = some (.cells cl 26)) =>
          batch_Each bb 0 none (.inl ⟨rfl, rfl⟩) k k (by omega) b10 26 cl (fun _ => cs) (fun _ => x1) (fun _ => x2) (fun j hj => hrec.part x1 j hj) (fun _ => 0) (fun _ => 0) (fun _ => 1) (fun _ => .inl ⟨rfl, rfl⟩) w (h.keep0 kp).flags (by have := hlt.2.2; omega) hne q1 q2 (fun _ _ bu w' _ => hbad.out bu w'))
        have hct := Lib.hid (fun (bb : Nat) (d : Int) (p : Option Addr) (w : World) (q : w.heap[bb]? = some (.cells (batC d 0 p (k : Int) (sumI (fun _ => bd 1) k) (fun i => sumI (fun _ => ft 0 i) k)) 62)) => hfe.out ▸ batch_Counts bb d p _ _ _ w q)
        have he2 : ∀ w, (Op.equalIn 10000 36 (.agg #[.int .i64 (k : Nat), .int .i64 (k : Nat), .int .i64 0, .int .i64 0, .int .i64 0, .int .i64 0, .int .i64 0]) (.agg #[.int .i64 (k : Nat), .int .i64 (k : Nat), .int .i64 0, .int .i64 0, .int .i64 0, .int .i64 0, .int .i64 0])).run Tryz.prog w = .ok true w := fun w => ct_same k k (fun _ => 0) w
        have hb2 : ∀ w, (Instr.build 36 (List.toArray [(0, .int .i64 (k : Nat)), (1, .int .i64 (k : Nat))])).run Tryz.prog w = .ok (.agg #[.int .i64 (k : Nat), .int .i64 (k : Nat), .int .i64 0, .int .i64 0, .int .i64 0, .int .i64 0, .int .i64 0]) w := fun w => by kernel_rfl
        generalize #[Value.int .i64 (k : Nat), .int .i64 (k : Nat), .int .i64 0, .int .i64 0, .int .i64 0, .int .i64 0, .int .i64 0] = cz at *
        clear hf hbad h hlt hrec hfe
        go_wp2_with ((first | (go_big_skip) | (refine kN (o := ⟨some 27, _, _, _, _, _⟩) gf5 hst (fun w hst => hnew w) rfl rfl rfl rfl ?_; clear hst; intro v27 Lg27 w hn27 hR27 hst; obtain ⟨bb, rfl, rfl⟩ := hR27; (try simp only [List.cons_append, List.nil_append, List.append_nil, List.append_assoc] at hst); have hbb0 : w0.heap.size ≤ bb := hn27.1 _ (List.mem_singleton.2 rfl)) | (refine kE (o := ⟨some 31, _, _, _, _, _⟩) (fun ob => [(b16, .cells cl 26), (b3, .cells cs 26), (bb, ob)]) gf6 hst (fun w hst => hea.out bb b16 hbb0 (by have q := hst.nodup; simp only [List.map_cons, List.map_nil, List.nodup_cons, List.mem_cons, List.not_mem_nil, or_false, not_or] at q; omega) w hst.keeps (hst.own _ _ (by repeat (first | exact List.Mem.head _ | refine List.Mem.tail _ ?_))) (hst.own _ _ (by repeat (first | exact List.Mem.head _ | refine List.Mem.tail _ ?_)))) rfl rfl rfl rfl ?_; clear hst; intro v31 ob w hR hst; obtain ⟨⟨out, c, rfl⟩, d, p, hp, rfl⟩ := hR) | (refine kg gf7 hst (fun w hst => hct.out bb d p w (hst.own _ _ (by repeat (first | exact List.Mem.head _ | refine List.Mem.tail _ ?_)))) rfl rfl rfl rfl ?_; clear hst; intro w hst) | (refine kB hb2 rfl ?_) | (refine keV he2 rfl ?_) | (refine kg gf8 hst (fun w hst => ha.out w hst.keeps) rfl rfl rfl rfl ?_; clear hst; intro w hst) | (refine wl_guard (by rfl) ?_) | (refine kb 3 hst rfl rfl ?_; clear hst; intro b3 w hb3 hst) | (refine ks hst tc3 rfl rfl ?_; clear hst; intro w hst) | (refine kl hst ta26 rfl ?_) | (refine kt hst ta26 rfl rfl ?_; clear hst; intro w hst) | (refine ktm hst ta26 rfl rfl ?_; clear hst; intro w hst)); try simp only [pz, pn, sz, sc])
        refine bp_t rfl rfl (by rfl) ⟨?_, hst.keeps⟩
        rfl

end Go.Proofs.YtoakmlopjeecoaaGreatDoor.Rd

namespace Go.Proofs.YtoakmlopjeecoaaGreatDoor.Rd
open Go Go.RowKit Go.ChangeShapes
set_option linter.unusedVariables false
set_option linter.unusedSimpArgs false
set_option maxRecDepth 100000

section
variable {H : Type} {enc : TypeId × Value → H} {P : Program} {w : World} {base : Nat} {sp : Nat → Bool} {held : Bool}
end

end Go.Proofs.YtoakmlopjeecoaaGreatDoor.Rd

namespace Go.Proofs.YtoakmlopjeecoaaGreatDoor.Rw
open Go Go.ChangeShapes Go.WideShapes Go.ChangeAt Go.RowKit Go.Proofs.YtoakmlopjeecoaaGreatDoor.Rd

theorem own : ownKnob Tryz.prog.godebug = none := by kernel_rfl

section
variable {H : Type} {enc : TypeId × Value → H} {P : Program}
theorem post_of_keeps {f : Func} {s : ChangeSpec} {apart fresh handsOn again : Bool} {W W' : World} {args : Array Value} {v : Value} {ds gs : List (DataW H)} {before pa pv : List MemPlace}
    (hW : DataW.Whole enc P f.params.toList s.vars apart W args.toList ds gs before)
    (hres : ∀ (b : Nat) (sp : Nat → Bool) (hd : Bool), DataW.TrodAll enc P W' b sp hd f.resultTypes.toList (v.resultList f.resultTypes.size) (s.fn H (ds ++ gs)).results [])
    (hargs : ∀ sp : Nat → Bool, (∀ p ∈ before, sp p.block = true) → DataW.TrodAll enc P W' 0 sp true f.params.toList args.toList (s.fn H (ds ++ gs)).args pa)
    (hvars : ∀ sp : Nat → Bool, (∀ p ∈ before, sp p.block = true) → DataW.TrodVars enc P W' sp s.vars (s.fn H (ds ++ gs)).vars pv)
    (hps : before = pa ++ pv) (hk : Keeps [] W W')
    (hok : ∀ (j : Nat) (t : TypeId) (r : Value), f.resultTypes[j]? = some t → (v.resultList f.resultTypes.size)[j]? = some r → Value.okWide P W' .any 0 t r) :
    s.post enc P f apart fresh handsOn again W args v W' := by
  have hold : ∀ p ∈ before, (fun b => decide (b < W.heap.size)) p.block = true := fun p hp => by simpa using hW.lt p hp
  have hlt : ∀ p ∈ before, p.block < W.heap.size := hW.lt
  refine ⟨ds, gs, before, [], pa, pv, hW, hres _ _ _, hargs _ hold, hvars _ hold, World.keptBut_mono (fun p hp => ⟨hp, ?_⟩) (hk.below.frame (· ∈ before)), fun _ => ?_⟩
  · rw [hps, List.mem_append] at hp
    exact Or.inr hp
  · obtain ⟨_, _, _, _, _, hz, hn⟩ := hW
    refine ⟨hok, _, _, ([] ++ pa) ++ pv, ⟨[] ++ pa, pv, trodAll_append (hargs _ (fun _ _ => rfl)) (hres _ _ _), hvars _ (fun _ _ => rfl), rfl, ?_, ?_⟩, ?_⟩
    · intro b off hp
      have hp' : MemPlace.cell b off ∈ before := by rw [hps]; simpa using hp
      rw [hk.below.frozen (hlt _ hp')]
      exact hz b off hp'
    · intro ha
      have := hn ha
      rw [hps] at this
      simpa using this
    · intro p hp _
      rw [hps]
      simpa using hp
end

end Go.Proofs.YtoakmlopjeecoaaGreatDoor.Rw
