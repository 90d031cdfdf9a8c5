/- Arguments that are words: opened as a number, and shut. -/
import Derived.Test.YtoakmlopjeecoaaGreatDoorJ09
import Derived.Test.YtoakmlopjeecoaaGreatDoorJ03
import Derived.Test.YtoakmlopjeecoaaGreatDoorJ12
import Derived.Test.YtoakmlopjeecoaaGreatDoorJ04
import Derived.Test.YtoakmlopjeecoaaGreatDoorRows
import Derived.Test.YtoakmlopjeecoaaGreatDoorChecked
import Derived.ProofKit
import Derived.OpenShut
import Derived.LaidMore
import Derived.Lay
import Derived.Lib.LaidTab
import Derived.Stop.Joined
import Derived.JoinedOf
import Derived.Test.YtoakmlopjeecoaaGreatDoorJ05
import Derived.Lib.SmallJoins
import Derived.ChangeArms
namespace Go.Proofs.YtoakmlopjeecoaaGreatDoor.Rd
open Go Go.RowKit
set_option linter.unusedVariables false
set_option linter.unusedSimpArgs false
set_option maxRecDepth 100000

theorem z_strs : ((⟨#[122, 101, 114, 111]⟩ : ByteArray).toList == [110, 97, 110]) = false ∧ ((⟨#[122, 101, 114, 111]⟩ : ByteArray).toList == [105, 110, 118, 97, 108, 105, 100]) = false ∧
    ((⟨#[122, 101, 114, 111]⟩ : ByteArray).toList == [105, 110, 102, 105, 110, 105, 116, 101]) = false ∧ ((⟨#[122, 101, 114, 111]⟩ : ByteArray).toList == [122, 101, 114, 111]) = true := by
  refine ⟨?_, ?_, ?_, ?_⟩ <;> decide +kernel

set_option maxHeartbeats 4000000 in
theorem special_Div_zero (f : Nat) (f1 : 1 ≤ f) (f4 : f ≤ 4) (a b : Nat) (ga : a < 2 ^ fB f) (gb : b < 2 ^ fB f) (ca : clsN f a = 4 ∨ clsN f a = 5) (cb : clsN f b = 6) (w0 : World) (hF : FmtIn w0) :
    GivesAt Tryz.prog 44 #[.int .i64 f, Wd a, Wd b] (.tuple #[Wd (infW f (wNeg f a != wNeg f b)), .int .i64 2, .bool true]) w0 := by
  have hst := St.start [] w0
  have hk := Lib.hid (fun w (k : Keeps [] w0 w) => hF.keep k (by simp))
  have hrule := Lib.hid (fun w (k : Keeps [] w0 w) => special_Rule_div f a b (clsN f a) (clsN f b) (by omega) (by omega) _ (by
    have e1 : spK (clsN f a) = 4 := by rcases ca with h | h <;> rw [h] <;> rfl
    have e2 : spK (clsN f b) = 3 := by rw [cb]; rfl
    rw [e1, e2]; exact special_rule_zero) w (fun w' k' => class_Of f f1 f4 a ga w' ((hF.keep k (by simp)).keep k' (by simp))) (fun w' k' => class_Of f f1 f4 b gb w' ((hF.keep k (by simp)).keep k' (by simp))))
  obtain ⟨s1, s2, s3, s4⟩ := z_strs
  have hcl := Lib.hid (fun (b3 b4 b5 : Nat) (h34 : b3 ≠ b4) (h35 : b3 ≠ b5) (h45 : b4 ≠ b5) (w : World) (k : Keeps [] w0 w) q3 q4 q5 => special_Div_1 f a b (wNeg f a) (wNeg f b) (infW f (wNeg f a != wNeg f b)) 59 gf59 b3 b4 b5 h34 h35 h45 3 24 24 w q3 q4 q5
    (fun w' k' => class_Neg f f1 f4 a ga w' ((hF.keep k (by simp)).keep k' (by simp))) (fun w' k' => class_Neg f f1 f4 b gb w' ((hF.keep k (by simp)).keep k' (by simp))) (fun w' k' => format_Inf f f1 f4 _ w' ((hF.keep k (by simp)).keep k' (by simp))))
  generalize (⟨#[122, 101, 114, 111]⟩ : ByteArray) = zs at s1 s2 s3 s4 hrule
  clear hF ca cb ga gb f1 f4
  generalize infW f (wNeg f a != wNeg f b) = x at *
  go_enter Tryz.func44, Tryz.ntmps44
  go_wp2_with ((first | (refine kg gf56 hst (fun w hst => hrule.out w hst.keeps) rfl rfl rfl rfl ?_; clear hst; intro w hst) | (refine kg gf54 hst (fun w hst => hcl.out b3 b4 b5 (by have q := hst.nodup; simp only [List.map_cons, List.map_nil, List.nodup_cons, List.mem_cons, List.not_mem_nil, or_false, not_or] at q; omega) (by have q := hst.nodup; simp only [List.map_cons, List.map_nil, List.nodup_cons, List.mem_cons, List.not_mem_nil, or_false, not_or] at q; omega) (by have q := hst.nodup; simp only [List.map_cons, List.map_nil, List.nodup_cons, List.mem_cons, List.not_mem_nil, or_false, not_or] at q; omega) w hst.keeps (hst.own _ _ (by repeat (first | exact List.Mem.head _ | refine List.Mem.tail _ ?_))) (hst.own _ _ (by repeat (first | exact List.Mem.head _ | refine List.Mem.tail _ ?_))) (hst.own _ _ (by repeat (first | exact List.Mem.head _ | refine List.Mem.tail _ ?_)))) rfl rfl rfl rfl ?_; clear hst; intro w hst) | (refine kb 3 hst rfl rfl ?_; clear hst; intro b3 w hb3 hst) | (refine kb 4 hst rfl rfl ?_; clear hst; intro b4 w hb4 hst) | (refine kb 5 hst rfl rfl ?_; clear hst; intro b5 w hb5 hst) | (refine ka 6 hst tz24 rfl rfl ?_; clear hst; intro b6 w hb6 hst) | (refine kc hst tc3 rfl ?_) | (refine kl hst ta24 rfl ?_) | (refine wl_slice2 (o := ⟨some 22, _, _, _, _, _⟩) hst ts169 te24 rfl rfl (by (simp only [eval_lit, eval_k, eval_f, eval_g, List.getD_cons_succ, List.getD_cons_zero]) <;> rfl) (by (simp only [eval_lit, eval_k, eval_f, eval_g, List.getD_cons_succ, List.getD_cons_zero]) <;> rfl) (by rfl) (by rfl) ?_; clear hst; intro b22 w hb22 hst) | (refine kt hst ta24 rfl rfl ?_; clear hst; intro w hst) | (refine ka 10 hst tz24 rfl rfl ?_; clear hst; intro b10 w hb10 hst)); try simp only [pz, pn, sz, sc])
  refine bp_ctt rfl rfl (la hst ta24) (by rfl) (by rfl) ⟨?_, hst.keeps⟩
  rfl

/-- A division that special tells. -/
theorem fpu_div_sp (u : Nat) (op k f m : Int) (a b x : Nat) (g : Int) (w0 : World) (hsp : ∀ w, Keeps [] w0 w → GivesAt Tryz.prog 44 #[.int .i64 f, Wd a, Wd b] (.tuple #[Wd x, .int .i64 g, .bool true]) w) :
    GivesAt Tryz.prog 33 #[.pointer (some ⟨u, 0, none⟩), .agg (recC op k f m a b)] (.tuple #[Wd x, .int .i64 g]) w0 := by
  have hst := St.start [] w0
  obtain ⟨g0, g1, g2, g3⟩ := recC_at op k f m a b
  have y1 := recC_size op k f m a b
  have y2 := recC_one op k f m a b
  have pa := recC_a op k f m a b
  have pb := recC_b op k f m a b
  have hs := Lib.hid hsp
  clear hsp
  generalize recC op k f m a b = cs at *
  go_enter Tryz.func33, Tryz.ntmps33
  go_wp2_with ((first | (refine klm hst ta24 rfl ?_ (hc := pa)) | (refine klm hst ta24 rfl ?_ (hc := pb)) | (refine kg gf44 hst (fun w hst => hs.out w hst.keeps) rfl rfl rfl rfl ?_; clear hst; intro w hst) | (refine kb 3 hst rfl rfl ?_; clear hst; intro b3 w hb3 hst) | (refine ka 4 hst tz24 rfl rfl ?_; clear hst; intro b4 w hb4 hst) | (refine kc hst tc3 rfl ?_) | (refine kl hst ta24 rfl ?_) | (refine klm hst ta24 rfl ?_) | (refine ka 6 hst tz24 rfl rfl ?_; clear hst; intro b6 w hb6 hst) | (refine kt hst ta24 rfl rfl ?_; clear hst; intro w hst) | (refine kc hst tc82 rfl ?_) | (refine ka 9 hst tz24 rfl rfl ?_; clear hst; intro b9 w hb9 hst)); try simp only [pz, pn, sz, sc])
  refine bp_ct rfl rfl (la hst ta24) (by rfl) ⟨?_, hst.keeps⟩
  rfl

theorem fpu_Do_div (u : Nat) (k f m : Int) (a b x : Nat) (g : Int) (w0 : World) (hmay : ∀ w, Keeps [] w0 w → GivesAt Tryz.prog 23 #[.agg (recC 1 k f m a b)] (.bool true) w)
    (hdv : ∀ w, Keeps [] w0 w → GivesAt Tryz.prog 33 #[.pointer (some ⟨u, 0, none⟩), .agg (recC 1 k f m a b)] (.tuple #[Wd x, .int .i64 g]) w) :
    GivesAt Tryz.prog 15 #[.pointer (some ⟨u, 0, none⟩), .agg (recC 1 k f m a b)] (.agg (resC x g 0)) w0 := by
  have hst := St.start [] w0
  obtain ⟨g0, g1, g2, g3⟩ := recC_at 1 k f m a b
  have y1 := recC_size 1 k f m a b
  have y2 := recC_one 1 k f m a b
  have hm := Lib.hid hmay
  have hd := Lib.hid hdv
  have hde := fun w => fpu_deeds w
  clear hmay hdv g1 g2 g3
  generalize recC 1 k f m a b = cs at *
  go_enter Tryz.func15, Tryz.ntmps15
  go_wp2_with ((first | (go_big_skip) | (refine kg gf23 hst (fun w hst => hm.out w hst.keeps) rfl rfl rfl rfl ?_; clear hst; intro w hst) | (refine wl_guard (by rfl) ?_) | (refine kb 3 hst rfl rfl ?_; clear hst; intro b3 w hb3 hst) | (refine ka 4 hst tz41 rfl rfl ?_; clear hst; intro b4 w hb4 hst) | (refine kl hst ta26 rfl ?_) | (refine kB (tb41_2 _) rfl ?_) | (refine kt hst ta41 rfl rfl ?_; clear hst; intro w hst) | (refine kc hst tc3 rfl ?_) | (refine ka 5 hst tz24 rfl rfl ?_; clear hst; intro b5 w hb5 hst) | (refine kt hst ta24 rfl rfl ?_; clear hst; intro w hst) | (refine kl hst ta24 rfl ?_) | (refine kB (tb41_012 _ _ _) rfl ?_)); try simp only [pz, pn, sz, sc])
  refine wp_region_T 11  hst (by kernel_rfl) ?_; clear hst; intro w hst; (try simp only [List.length_cons, List.length_nil, Nat.reduceAdd, Array.replicate_succ, Array.replicate_zero, List.push_toArray, List.nil_append, List.cons_append])
  refine r0 1 ?_; simp only [pz, pn, sz, sc]
  refine r0 4 ?_; simp only [pz, pn, sz, sc]
  refine rl 2 rfl ?_ (ylC tc3); simp only [pz, pn, sz, sc]
  refine rl 5 rfl ?_ (by first | exact ylA ta26 | exact ylM ta26); simp only [pz, pn, sz, sc]
  refine r2 0 10 ?_ ?_
  (first | (refine kN (o := ⟨some 16, _, _, _, _, _⟩) gf24 hst (fun w hst => hde w) rfl rfl rfl rfl ?_; clear hst; intro v16 Lg16 w hn16 hR16 hst; obtain ⟨bm, rfl, rfl⟩ := hR16; (try simp only [List.cons_append, List.nil_append, List.append_nil, List.append_assoc] at hst)) | (refine kLu hst tm77 rfl ?_) | (refine kg gf33 hst (fun w hst => hd.out w hst.keeps) rfl rfl rfl rfl ?_; clear hst; intro w hst) | (refine kp ?_)); (try simp only [pz, pn, sz, sc]); refine re ?_
  refine r2 3 10 ?_ ?_
  (first | (refine kN (o := ⟨some 16, _, _, _, _, _⟩) gf24 hst (fun w hst => hde w) rfl rfl rfl rfl ?_; clear hst; intro v16 Lg16 w hn16 hR16 hst; obtain ⟨bm, rfl, rfl⟩ := hR16; (try simp only [List.cons_append, List.nil_append, List.append_nil, List.append_assoc] at hst)) | (refine kLu hst tm77 rfl ?_) | (refine kg gf33 hst (fun w hst => hd.out w hst.keeps) rfl rfl rfl rfl ?_; clear hst; intro w hst) | (refine kp ?_)); (try simp only [pz, pn, sz, sc]); refine re ?_
  refine r2 6 10 ?_ ?_
  (first | (refine kN (o := ⟨some 16, _, _, _, _, _⟩) gf24 hst (fun w hst => hde w) rfl rfl rfl rfl ?_; clear hst; intro v16 Lg16 w hn16 hR16 hst; obtain ⟨bm, rfl, rfl⟩ := hR16; (try simp only [List.cons_append, List.nil_append, List.append_nil, List.append_assoc] at hst)) | (refine kLu hst tm77 rfl ?_) | (refine kg gf33 hst (fun w hst => hd.out w hst.keeps) rfl rfl rfl rfl ?_; clear hst; intro w hst) | (refine kp ?_)); (try simp only [pz, pn, sz, sc]); refine re ?_
  refine r0 7 ?_; simp only [pz, pn, sz, sc]
  refine r0 8 ?_; simp only [pz, pn, sz, sc]
  refine r0 9 ?_; simp only [pz, pn, sz, sc]
  refine r1 10 ?_; (refine ka 5 hst tz24 rfl rfl ?_; clear hst; intro b5 w hb5 hst); (try simp only [pz, pn, sz, sc]); refine re ?_
  refine r1 11 ?_; (refine kt hst ta24 rfl rfl ?_; clear hst; intro w hst); (try simp only [pz, pn, sz, sc]); refine re ?_
  refine r0 12 ?_; simp only [pz, pn, sz, sc]
  refine rd_ ?_
  rotate_left 1
  (refine ka 5 hst tz24 rfl rfl ?_; clear hst; intro b5 w hb5 hst); (try simp only [pz, pn, sz, sc]); refine re ?_
  refine r1 6 ?_; (first | (refine kN (o := ⟨some 16, _, _, _, _, _⟩) gf24 hst (fun w hst => hde w) rfl rfl rfl rfl ?_; clear hst; intro v16 Lg16 w hn16 hR16 hst; obtain ⟨bm, rfl, rfl⟩ := hR16; (try simp only [List.cons_append, List.nil_append, List.append_nil, List.append_assoc] at hst)) | (refine kLu hst tm77 rfl ?_) | (refine kg gf33 hst (fun w hst => hd.out w hst.keeps) rfl rfl rfl rfl ?_; clear hst; intro w hst) | (refine kp ?_)); (try simp only [pz, pn, sz, sc]); refine re ?_
  refine r0 7 ?_; simp only [pz, pn, sz, sc]
  refine r0 8 ?_; simp only [pz, pn, sz, sc]
  refine r0 9 ?_; simp only [pz, pn, sz, sc]
  refine r1 11 ?_; (refine kt hst ta24 rfl rfl ?_; clear hst; intro w hst); (try simp only [pz, pn, sz, sc]); refine re ?_
  refine r0 12 ?_; simp only [pz, pn, sz, sc]
  refine rd_ ?_
  rotate_right 1
  rotate_left 2
  (refine ka 5 hst tz24 rfl rfl ?_; clear hst; intro b5 w hb5 hst); (try simp only [pz, pn, sz, sc]); refine re ?_
  refine r1 3 ?_; (first | (refine kN (o := ⟨some 16, _, _, _, _, _⟩) gf24 hst (fun w hst => hde w) rfl rfl rfl rfl ?_; clear hst; intro v16 Lg16 w hn16 hR16 hst; obtain ⟨bm, rfl, rfl⟩ := hR16; (try simp only [List.cons_append, List.nil_append, List.append_nil, List.append_assoc] at hst)) | (refine kLu hst tm77 rfl ?_) | (refine kg gf33 hst (fun w hst => hd.out w hst.keeps) rfl rfl rfl rfl ?_; clear hst; intro w hst) | (refine kp ?_)); (try simp only [pz, pn, sz, sc]); refine re ?_
  refine r1 6 ?_; (first | (refine kN (o := ⟨some 16, _, _, _, _, _⟩) gf24 hst (fun w hst => hde w) rfl rfl rfl rfl ?_; clear hst; intro v16 Lg16 w hn16 hR16 hst; obtain ⟨bm, rfl, rfl⟩ := hR16; (try simp only [List.cons_append, List.nil_append, List.append_nil, List.append_assoc] at hst)) | (refine kLu hst tm77 rfl ?_) | (refine kg gf33 hst (fun w hst => hd.out w hst.keeps) rfl rfl rfl rfl ?_; clear hst; intro w hst) | (refine kp ?_)); (try simp only [pz, pn, sz, sc]); refine re ?_
  refine r0 7 ?_; simp only [pz, pn, sz, sc]
  refine r0 8 ?_; simp only [pz, pn, sz, sc]
  refine r0 9 ?_; simp only [pz, pn, sz, sc]
  refine r1 11 ?_; (refine kt hst ta24 rfl rfl ?_; clear hst; intro w hst); (try simp only [pz, pn, sz, sc]); refine re ?_
  refine r0 12 ?_; simp only [pz, pn, sz, sc]
  refine rd_ ?_
  rotate_right 2
  rotate_left 3
  (refine ka 5 hst tz24 rfl rfl ?_; clear hst; intro b5 w hb5 hst); (try simp only [pz, pn, sz, sc]); refine re ?_
  refine r1 0 ?_; (first | (refine kN (o := ⟨some 16, _, _, _, _, _⟩) gf24 hst (fun w hst => hde w) rfl rfl rfl rfl ?_; clear hst; intro v16 Lg16 w hn16 hR16 hst; obtain ⟨bm, rfl, rfl⟩ := hR16; (try simp only [List.cons_append, List.nil_append, List.append_nil, List.append_assoc] at hst)) | (refine kLu hst tm77 rfl ?_) | (refine kg gf33 hst (fun w hst => hd.out w hst.keeps) rfl rfl rfl rfl ?_; clear hst; intro w hst) | (refine kp ?_)); (try simp only [pz, pn, sz, sc]); refine re ?_
  refine r1 3 ?_; (first | (refine kN (o := ⟨some 16, _, _, _, _, _⟩) gf24 hst (fun w hst => hde w) rfl rfl rfl rfl ?_; clear hst; intro v16 Lg16 w hn16 hR16 hst; obtain ⟨bm, rfl, rfl⟩ := hR16; (try simp only [List.cons_append, List.nil_append, List.append_nil, List.append_assoc] at hst)) | (refine kLu hst tm77 rfl ?_) | (refine kg gf33 hst (fun w hst => hd.out w hst.keeps) rfl rfl rfl rfl ?_; clear hst; intro w hst) | (refine kp ?_)); (try simp only [pz, pn, sz, sc]); refine re ?_
  refine r1 6 ?_; (first | (refine kN (o := ⟨some 16, _, _, _, _, _⟩) gf24 hst (fun w hst => hde w) rfl rfl rfl rfl ?_; clear hst; intro v16 Lg16 w hn16 hR16 hst; obtain ⟨bm, rfl, rfl⟩ := hR16; (try simp only [List.cons_append, List.nil_append, List.append_nil, List.append_assoc] at hst)) | (refine kLu hst tm77 rfl ?_) | (refine kg gf33 hst (fun w hst => hd.out w hst.keeps) rfl rfl rfl rfl ?_; clear hst; intro w hst) | (refine kp ?_)); (try simp only [pz, pn, sz, sc]); refine re ?_
  refine r0 7 ?_; simp only [pz, pn, sz, sc]
  refine r0 8 ?_; simp only [pz, pn, sz, sc]
  refine r0 9 ?_; simp only [pz, pn, sz, sc]
  refine r1 11 ?_; (refine kt hst ta24 rfl rfl ?_; clear hst; intro w hst); (try simp only [pz, pn, sz, sc]); refine re ?_
  refine r0 12 ?_; simp only [pz, pn, sz, sc]
  refine rd_ ?_
  rotate_right 3
  all_goals
    go_wp2_with ((first | (refine wl_guard (by rfl) ?_) | (refine kb 3 hst rfl rfl ?_; clear hst; intro b3 w hb3 hst) | (refine ka 4 hst tz41 rfl rfl ?_; clear hst; intro b4 w hb4 hst) | (refine kl hst ta26 rfl ?_) | (refine kB (tb41_2 _) rfl ?_) | (refine kt hst ta41 rfl rfl ?_; clear hst; intro w hst) | (refine kc hst tc3 rfl ?_) | (refine ka 5 hst tz24 rfl rfl ?_; clear hst; intro b5 w hb5 hst) | (refine kt hst ta24 rfl rfl ?_; clear hst; intro w hst) | (refine kl hst ta24 rfl ?_) | (refine kB (tb41_012 _ _ _) rfl ?_)); try simp only [pz, pn, sz, sc])
    refine bp_c rfl rfl (la hst ta41) ⟨?_, hst.keeps⟩
    rfl

end Go.Proofs.YtoakmlopjeecoaaGreatDoor.Rd

namespace Go.Proofs.YtoakmlopjeecoaaGreatDoor.Rd
open Go Go.RowKit
set_option linter.unusedVariables false
set_option linter.unusedSimpArgs false
set_option maxRecDepth 100000

theorem batch_Each_nil (b : Option Addr) (n c : Nat) (hn : n ≤ 1000000) : Gives Tryz.prog 6 #[.pointer none, .slice b n c] (.tuple #[.slice none 0 0, .int .i64 6]) := by
  intro w0
  have hst := St.start [] w0
  have hm := batch_may_nil (n : Int)
  have h6 : ((6 : Int) != 0) = true := rfl
  go_enter Tryz.func6, Tryz.ntmps6
  go_wp2_with ((first | (go_big_skip) | (refine kf gf11 hst (hm) rfl rfl rfl rfl ?_; clear hst; intro w hst) | (refine kl hst ta26 rfl ?_) | (refine klm hst ta26 rfl ?_) | (refine ka 9 hst tz26 rfl rfl ?_; clear hst; intro b9 w hb9 hst) | (refine kt hst ta26 rfl rfl ?_; clear hst; intro w hst) | (refine wl_slice1 (o := ⟨some 27, _, _, _, _, _⟩) hst ts30 te41 rfl rfl (by (simp only [eval_lit, eval_k, eval_f, eval_g, List.getD_cons_succ, List.getD_cons_zero]) <;> rfl) (by rfl) ?_; clear hst; intro b27 w hb27 hst)); try simp only [pz, pn, sz, sc])
  refine bp_tt rfl rfl (by rfl) (by rfl) ⟨?_, hst.keeps⟩
  rfl

theorem batch_Counts_nil : Gives Tryz.prog 7 #[.pointer none] (.agg #[.int .i64 0, .int .i64 0, .int .i64 0, .int .i64 0, .int .i64 0, .int .i64 0, .int .i64 0]) := by
  intro w0
  have hst := St.start [] w0
  go_enter Tryz.func7, Tryz.ntmps7
  go_wp2_with ((first | (go_big_skip) | (refine ka 2 hst tz36 rfl rfl ?_; clear hst; intro b2 w hb2 hst) | (refine ka 3 hst tz36 rfl rfl ?_; clear hst; intro b3 w hb3 hst) | (refine kl hst ta36 rfl ?_) | (refine kt hst ta36 rfl rfl ?_; clear hst; intro w hst) | (refine ks hst tc3 rfl rfl ?_; clear hst; intro w hst)); try simp only [pz, pn, sz, sc])
  refine bp_c rfl rfl (la hst ta36) ⟨?_, hst.keeps⟩
  rfl

end Go.Proofs.YtoakmlopjeecoaaGreatDoor.Rd

namespace Go.Proofs.YtoakmlopjeecoaaGreatDoor.Rd
open Go Go.RowKit
set_option linter.unusedVariables false
set_option linter.unusedSimpArgs false
set_option maxRecDepth 100000

theorem cell_lt {w : World} {g i : Nat} {v : Value} (h : w.cell? ⟨g, i, none⟩ = some v) : g < w.heap.size := by
  rcases Nat.lt_or_ge g w.heap.size with h' | h'
  · exact h'
  · simp [World.cell?, Array.getElem?_eq_none h'] at h
/-- What the examples of chapter 34 ask of the world. -/
structure BatIn (w : World) : Prop where
  fmt : FmtIn w
  names : NamesIn w
  flags : FlIn w
theorem BatIn.lts {w : World} (h : BatIn w) : 2 < w.heap.size ∧ 1 < w.heap.size ∧ 0 < w.heap.size :=
  ⟨cell_lt (h.fmt 1 (.int .i64 0) rfl), cell_lt (h.names 0 (by omega)), cell_lt (h.flags 0 (.int .i64 1) rfl)⟩
theorem BatIn.keep {w w' : World} {S : List Nat} (h : BatIn w) (k : Keeps S w w') (h1 : 2 ∉ S) (h2 : 1 ∉ S) (h3 : 0 ∉ S) : BatIn w' :=
  ⟨h.fmt.keep k h1, fun i hi => k.cellX h2 (h.names i hi), h.flags.keep k h3⟩
theorem BatIn.keep0 {w w' : World} (h : BatIn w) (k : Keeps [] w w') : BatIn w' := h.keep k (by simp) (by simp) (by simp)

theorem ex34_a : clsN 1 15360 = 4 ∧ clsN 1 0 = 6 ∧ infW 1 (wNeg 1 15360 != wNeg 1 0) = 31744 ∧ 15360 < 2 ^ fB 1 ∧ 0 < 2 ^ fB 1 := by decide +kernel
/-- An fpu's answer to the first record of the example. -/
theorem ex34_do (u : Nat) (w0 : World) (h : BatIn w0) : GivesAt Tryz.prog 15 #[.pointer (some ⟨u, 0, none⟩), .agg (recC 1 2 1 1 15360 0)] (.agg (resC 31744 2 0)) w0 := by
  obtain ⟨a1, a2, a3, a4, a5⟩ := ex34_a
  refine fpu_Do_div u 2 1 1 15360 0 31744 2 w0 (fun w k => fpu_May_div 2 1 1 (by omega) (by omega) (by omega) (by omega) (by omega) (by omega) 15360 0 (by decide) (by decide) a4 a5 w (h.keep0 k).fmt (h.keep0 k).names)
    (fun w k => fpu_div_sp u 1 2 1 1 15360 0 31744 2 w (fun w' k' => ?_))
  have := special_Div_zero 1 (by omega) (by omega) 15360 0 a4 a5 (.inl a1) a2 w' ((h.keep0 k).keep0 k').fmt
  rw [a3] at this
  exact this
theorem ex34_bad (u : Nat) : Gives Tryz.prog 15 #[.pointer (some ⟨u, 0, none⟩), .agg (recC 0 0 0 0 0 0)] (.agg (resC 0 0 1)) := by
  have := fpu_Do_bad u (recC 0 0 0 0 0 0) (recC_size _ _ _ _ _ _) (recC_one _ _ _ _ _ _) (fpu_May_op 0 0 0 0 0 0 (by omega) (by omega))
  rw [badR_eq] at this
  exact this

def exRc (k : Nat) : Array Value := if k = 0 then recC 1 2 1 1 15360 0 else recC 0 0 0 0 0 0
def exRl : Array Value := recC 1 2 1 1 15360 0 ++ recC 0 0 0 0 0 0
theorem exRl_part (k : Nat) (h : k < 2) : Part exRl (exRc k) exRl (exRc k) (k * 8) := by
  obtain rfl | rfl : k = 0 ∨ k = 1 := by omega
  · exact ⟨#[], recC 0 0 0 0 0 0, by simp [exRl, exRc], by simp [exRl, exRc], rfl, rfl⟩
  · exact ⟨recC 1 2 1 1 15360 0, #[], by simp [exRl, exRc], by simp [exRl, exRc], rfl, rfl⟩
def exCt : Array Value := #[.int .i64 2, .int .i64 1, .int .i64 0, .int .i64 1, .int .i64 0, .int .i64 0, .int .i64 0]
theorem exCt_eq : ctC ((2 : Nat) : Int) (sumI (fun k => bd (if k = 0 then 0 else 1)) 2) (fun i => sumI (fun k => ft (if k = 0 then 2 else 0) i) 2) = exCt := by kernel_rfl
theorem ex_build1 (w : World) : (Instr.build 26 (List.toArray [(0, .int .i64 1), (1, .int .i64 2), (2, .int .i64 1), (3, .int .i64 1), (4, .agg #[.int .u64 0, .int .u64 15360])])).run Tryz.prog w = .ok (.agg (recC 1 2 1 1 15360 0)) w := by kernel_rfl
theorem ex_build2 (w : World) : (Instr.build 26 (List.toArray [])).run Tryz.prog w = .ok (.agg (recC 0 0 0 0 0 0)) w := by kernel_rfl
theorem ex_slice : Tryz.prog.builtSlice 26 2 [(0, .agg (recC 1 2 1 1 15360 0)), (1, .agg (recC 0 0 0 0 0 0))] = some exRl := by kernel_rfl
theorem ex_ct (w : World) : (Op.equalIn 10000 36 (.agg exCt) (.agg exCt)).run Tryz.prog w = .ok true w := by rw [← exCt_eq]; exact ct_same _ _ _ w
theorem ex_buildC (w : World) : (Instr.build 36 (List.toArray [(0, .int .i64 2), (1, .int .i64 1), (2, .agg #[.int .i64 0, .int .i64 1, .int .i64 0, .int .i64 0, .int .i64 0])])).run Tryz.prog w = .ok (.agg exCt) w := by kernel_rfl

set_option maxHeartbeats 4000000 in
theorem law34_awake (w0 : World) (h : BatIn w0) : GivesAt Tryz.prog 8 #[] (.bool true) w0 := by
  have hst := St.start [] w0
  have hnew := fun w => batch_New w
  have hlt := h.lts
  have hea := Lib.hid (fun (bb b10 : Nat) (hb1 : w0.heap.size ≤ bb) (hne : bb ≠ b10) (w : World) (k : Keeps [] w0 w) (q1 : w.heap[bb]? = some (.cells (batC 0 0 none 0 0 (fun _ => 0)) 62)) (q2 : w.heap[b10]? = some (.cells exRl 26)) =>
    batch_Each bb 0 none (.inl ⟨rfl, rfl⟩) 2 2 (by omega) b10 26 exRl exRc (fun k => by unfold exRc; split <;> exact recC_size _ _ _ _ _ _) (fun k => by unfold exRc; split <;> exact recC_one _ _ _ _ _ _) exRl_part
      (fun k => if k = 0 then 31744 else 0) (fun k => if k = 0 then 2 else 0) (fun k => if k = 0 then 0 else 1) (fun k => by by_cases e : k = 0 <;> simp [e, ResOk]) w (h.keep0 k).flags (by have := hlt.2.2; omega) hne q1 q2
      (fun j hj bu w' k' => by
        have hB := (h.keep0 k).keep k' (by have := hlt.1; simp; omega) (by have := hlt.2.1; simp; omega) (by have := hlt.2.2; simp; omega)
        obtain rfl | rfl : j = 0 ∨ j = 1 := by omega
        · exact ex34_do bu w' hB
        · exact ex34_bad bu w'))
  have hct := Lib.hid (fun (bb : Nat) (d : Int) (p : Option Addr) (w : World) (q : w.heap[bb]? = some (.cells (batC d 0 p ((2 : Nat) : Int) (sumI (fun k => bd (if k = 0 then 0 else 1)) 2) (fun i => sumI (fun k => ft (if k = 0 then 2 else 0) i) 2)) 62)) => exCt_eq ▸ batch_Counts bb d p _ _ _ w q)
  have hb1 := ex_build1
  have hb2 := ex_build2
  have hsl := ex_slice
  have hce := ex_ct
  have hbc := ex_buildC
  generalize recC 1 2 1 1 15360 0 = r0 at hb1 hsl
  generalize recC 0 0 0 0 0 0 = r1' at hb2 hsl
  generalize exRl = rl' at hsl hea
  clear h hlt
  generalize exCt = cC at *
  go_enter Tryz.func8, Tryz.ntmps8
  go_wp2_with ((first | (go_big_skip) | (refine kN (o := ⟨some 4, _, _, _, _, _⟩) gf5 hst (fun w hst => hnew w) rfl rfl rfl rfl ?_; clear hst; intro v4 Lg4 w hn4 hR4 hst; obtain ⟨bb, rfl, rfl⟩ := hR4; (try simp only [List.cons_append, List.nil_append, List.append_nil, List.append_assoc] at hst); have hbb0 : w0.heap.size ≤ bb := hn4.1 _ (List.mem_singleton.2 rfl)) | (refine kB hb1 rfl ?_) | (refine kB hb2 rfl ?_) | (refine kB hbc rfl ?_) | (refine kS 10 hst ts27 hsl rfl rfl ?_; clear hst; intro b10 w hb10 hst) | (refine kE (o := ⟨some 11, _, _, _, _, _⟩) (fun ob => [(b10, .cells rl' 26), (bb, ob)]) gf6 hst (fun w hst => hea.out bb b10 hbb0 (by have q := hst.nodup; simp only [List.map_cons, List.map_nil, List.nodup_cons, List.mem_cons, List.not_mem_nil, or_false, not_or] at q; omega) w hst.keeps (hst.own _ _ (by repeat (first | exact List.Mem.head _ | refine List.Mem.tail _ ?_))) (hst.own _ _ (by repeat (first | exact List.Mem.head _ | refine List.Mem.tail _ ?_)))) rfl rfl rfl rfl ?_; clear hst; intro v11 ob w hR hst; obtain ⟨⟨out, c, rfl⟩, d, p, hp, rfl⟩ := hR) | (refine kg gf7 hst (fun w hst => hct.out bb d p w (hst.own _ _ (by repeat (first | exact List.Mem.head _ | refine List.Mem.tail _ ?_)))) rfl rfl rfl rfl ?_; clear hst; intro w hst) | (refine keV hce rfl ?_) | (refine wl_guard (by rfl) ?_) | (refine kB (tb26_01234 _ _ _ _ _) rfl ?_) | (refine wl_slice2 (o := ⟨some 10, _, _, _, _, _⟩) hst ts27 te26 rfl rfl (by (simp only [eval_lit, eval_k, eval_f, eval_g, List.getD_cons_succ, List.getD_cons_zero]) <;> rfl) (by (simp only [eval_lit, eval_k, eval_f, eval_g, List.getD_cons_succ, List.getD_cons_zero]) <;> rfl) (by rfl) (by rfl) ?_; clear hst; intro b10 w hb10 hst)); try simp only [pz, pn, sz, sc])
  refine bp_t rfl rfl (by rfl) ⟨?_, hst.keeps⟩
  rfl

end Go.Proofs.YtoakmlopjeecoaaGreatDoor.Rd

namespace Go.Proofs.YtoakmlopjeecoaaGreatDoor.Rd
open Go Go.RowKit
set_option linter.unusedVariables false
set_option linter.unusedSimpArgs false
set_option maxRecDepth 100000

set_option maxHeartbeats 2000000 in
theorem law_BatchNone (cs : Array Value) (y1 : cs.size = 8) (y2 : OneC cs) (b : Option Addr) (n c : Nat) (hn : n ≤ 9223372036854775807) (w0 : World) (haw : ∀ w, Keeps [] w0 w → GivesAt Tryz.prog 8 #[] (.bool true) w) :
    GivesAt Tryz.prog 4 #[.agg cs, .slice b n c] (.bool true) w0 := by
  have hst := St.start [] w0
  have ha := Lib.hid haw
  clear haw
  have hct := batch_Counts_nil
  have hdo := batch_Do_nil cs y1 y2
  have hre := batch_Reset_nil
  by_cases hl : 20 < n
  · have q : decide ((20 : Int) < (n : Int)) = true := decide_eq_true (by omega)
    clear hl
    go_enter Tryz.func4, Tryz.ntmps4
    go_wp2_with ((first | (go_big_skip) | (refine kg gf8 hst (fun w hst => ha.out w hst.keeps) rfl rfl rfl rfl ?_; clear hst; intro w hst) | (refine wl_guard (by rfl) ?_) | (refine kb 2 hst rfl rfl ?_; clear hst; intro b2 w hb2 hst) | (refine kl hst ta26 rfl ?_) | (refine kB (tb41_2 _) rfl ?_)); try simp only [pz, pn, sz, sc])
    refine bp_t rfl rfl (by rfl) ⟨?_, hst.keeps⟩
    rfl
  · have q : decide ((20 : Int) < (n : Int)) = false := decide_eq_false (by omega)
    have hea := batch_Each_nil b n c (by omega)
    rw [badR_eq] at hdo
    have he1 := res_same 0 (by decide) 0 1
    have he2 : ∀ w, (Op.equalIn 10000 36 (.agg #[.int .i64 0, .int .i64 0, .int .i64 0, .int .i64 0, .int .i64 0, .int .i64 0, .int .i64 0]) (.agg #[.int .i64 0, .int .i64 0, .int .i64 0, .int .i64 0, .int .i64 0, .int .i64 0, .int .i64 0])).run Tryz.prog w = .ok true w := fun w => ct_same 0 0 (fun _ => 0) w
    have hb1 : ∀ w, (Instr.build 41 (List.toArray [(2, .int .i64 1)])).run Tryz.prog w = .ok (.agg (resC 0 0 1)) w := fun w => by kernel_rfl
    have hb2 : ∀ w, (Instr.build 36 (List.toArray [])).run Tryz.prog w = .ok (.agg #[.int .i64 0, .int .i64 0, .int .i64 0, .int .i64 0, .int .i64 0, .int .i64 0, .int .i64 0]) w := fun w => by kernel_rfl
    generalize resC 0 0 1 = r1' at *
    clear hl
    go_enter Tryz.func4, Tryz.ntmps4
    go_wp2_with ((first | (go_big_skip) | (refine kg gf8 hst (fun w hst => ha.out w hst.keeps) rfl rfl rfl rfl ?_; clear hst; intro w hst) | (refine kf gf6 hst (hea) rfl rfl rfl rfl ?_; clear hst; intro w hst) | (refine kf gf9 hst (hre) rfl rfl rfl rfl ?_; clear hst; intro w hst) | (refine kf gf10 hst (hdo) rfl rfl rfl rfl ?_; clear hst; intro w hst) | (refine kf gf7 hst (hct) rfl rfl rfl rfl ?_; clear hst; intro w hst) | (refine kB hb1 rfl ?_) | (refine kB hb2 rfl ?_) | (refine keV he1 rfl ?_) | (refine keV he2 rfl ?_) | (refine wl_guard (by rfl) ?_) | (refine kb 2 hst rfl rfl ?_; clear hst; intro b2 w hb2 hst) | (refine kl hst ta26 rfl ?_) | (refine kB (tb41_2 _) rfl ?_)); try simp only [pz, pn, sz, sc])
    refine bp_t rfl rfl (by rfl) ⟨?_, hst.keeps⟩
    rfl

end Go.Proofs.YtoakmlopjeecoaaGreatDoor.Rd

namespace Go.Proofs.YtoakmlopjeecoaaGreatDoor.Rd
open Go Go.RowKit Go.ChangeShapes
set_option linter.unusedVariables false
set_option linter.unusedSimpArgs false
set_option maxRecDepth 100000

section
variable {H : Type} {enc : TypeId × Value → H} {P : Program} {w : World} {base : Nat} {sp : Nat → Bool} {held : Bool}
end

end Go.Proofs.YtoakmlopjeecoaaGreatDoor.Rd

namespace Go.Proofs.YtoakmlopjeecoaaGreatDoor.Rw
open Go Go.ChangeShapes Go.WideShapes Go.ChangeAt Go.RowKit Go.Proofs.YtoakmlopjeecoaaGreatDoor.Rd

theorem own : ownKnob Tryz.prog.godebug = none := by kernel_rfl

section
variable {H : Type} {enc : TypeId × Value → H} {P : Program}
theorem post_of_keeps {f : Func} {s : ChangeSpec} {apart fresh handsOn again : Bool} {W W' : World} {args : Array Value} {v : Value} {ds gs : List (DataW H)} {before pa pv : List MemPlace}
    (hW : DataW.Whole enc P f.params.toList s.vars apart W args.toList ds gs before)
    (hres : ∀ (b : Nat) (sp : Nat → Bool) (hd : Bool), DataW.TrodAll enc P W' b sp hd f.resultTypes.toList (v.resultList f.resultTypes.size) (s.fn H (ds ++ gs)).results [])
    (hargs : ∀ sp : Nat → Bool, (∀ p ∈ before, sp p.block = true) → DataW.TrodAll enc P W' 0 sp true f.params.toList args.toList (s.fn H (ds ++ gs)).args pa)
    (hvars : ∀ sp : Nat → Bool, (∀ p ∈ before, sp p.block = true) → DataW.TrodVars enc P W' sp s.vars (s.fn H (ds ++ gs)).vars pv)
    (hps : before = pa ++ pv) (hk : Keeps [] W W')
    (hok : ∀ (j : Nat) (t : TypeId) (r : Value), f.resultTypes[j]? = some t → (v.resultList f.resultTypes.size)[j]? = some r → Value.okWide P W' .any 0 t r) :
    s.post enc P f apart fresh handsOn again W args v W' := by
  have hold : ∀ p ∈ before, (fun b => decide (b < W.heap.size)) p.block = true := fun p hp => by simpa using hW.lt p hp
  have hlt : ∀ p ∈ before, p.block < W.heap.size := hW.lt
  refine ⟨ds, gs, before, [], pa, pv, hW, hres _ _ _, hargs _ hold, hvars _ hold, World.keptBut_mono (fun p hp => ⟨hp, ?_⟩) (hk.below.frame (· ∈ before)), fun _ => ?_⟩
  · rw [hps, List.mem_append] at hp
    exact Or.inr hp
  · obtain ⟨_, _, _, _, _, hz, hn⟩ := hW
    refine ⟨hok, _, _, ([] ++ pa) ++ pv, ⟨[] ++ pa, pv, trodAll_append (hargs _ (fun _ _ => rfl)) (hres _ _ _), hvars _ (fun _ _ => rfl), rfl, ?_, ?_⟩, ?_⟩
    · intro b off hp
      have hp' : MemPlace.cell b off ∈ before := by rw [hps]; simpa using hp
      rw [hk.below.frozen (hlt _ hp')]
      exact hz b off hp'
    · intro ha
      have := hn ha
      rw [hps] at this
      simpa using this
    · intro p hp _
      rw [hps]
      simpa using hp
end

end Go.Proofs.YtoakmlopjeecoaaGreatDoor.Rw

namespace Go.Proofs.YtoakmlopjeecoaaGreatDoor.Rw
open Go Go.ChangeShapes Go.WideShapes Go.ChangeAt Go.RowKit Go.Joins Go.Deep Go.Proofs.YtoakmlopjeecoaaGreatDoor.Rd

section
variable {H : Type} {enc : TypeId × Value → H} {P : Program} {w : World} {base : Nat} {sp : Nat → Bool} {held : Bool}
/-- A row of a table: a text, three numbers. -/
theorem row4_of {fuel : Nat} {e : TypeId} {f0 f1 f2 f3 : Field} {cs : List Value} {s : ByteArray} {a b c : Int} {x : DataW H × List MemPlace} (he : P.underlying e = some (.struct #[f0, f1, f2, f3]))
    (o0 : f0.offset = 0 ∧ P.cellsOf f0.type = 1 ∧ P.underlying f0.type = some .string) (o1 : f1.offset = 1 ∧ P.cellsOf f1.type = 1 ∧ P.underlying f1.type = some (.int .i64)) (o2 : f2.offset = 2 ∧ P.cellsOf f2.type = 1 ∧ P.underlying f2.type = some (.int .i64)) (o3 : f3.offset = 3 ∧ P.cellsOf f3.type = 1 ∧ P.underlying f3.type = some (.int .i64))
    (h : DataW.trod enc P w base sp held fuel e cs = some x) (hx : x.1 = .agg [.lit (.string s.data.toList), .lit (.int .i64 a), .lit (.int .i64 b), .lit (.int .i64 c)]) :
    cs[0]? = some (.string s) ∧ cs[1]? = some (.int .i64 a) ∧ cs[2]? = some (.int .i64 b) ∧ cs[3]? = some (.int .i64 c) := by
  obtain ⟨y0, y1, y2, y3, n, rfl, hl, h0, h1, h2, h3⟩ := trod_struct4 he h
  rw [o0.1, o0.2.1] at h0
  rw [o1.1, o1.2.1] at h1
  rw [o2.1, o2.2.1] at h2
  rw [o3.1, o3.2.1] at h3
  obtain ⟨s', e0, rfl, _⟩ := DataW.trod_string o0.2.2 h0
  obtain ⟨a', e1, rfl, _⟩ := DataW.trod_int o1.2.2 h1
  obtain ⟨b', e2, rfl, _⟩ := DataW.trod_int o2.2.2 h2
  obtain ⟨c', e3, rfl, _⟩ := DataW.trod_int o3.2.2 h3
  simp only [DataW.agg.injEq, List.cons.injEq, DataW.lit.injEq, Lit.string.injEq, Lit.int.injEq, true_and, and_true] at hx
  obtain ⟨hs, rfl, rfl, rfl⟩ := hx
  obtain rfl : s' = s := bytes_inj hs
  have key : ∀ (k : Nat) (v : Value), (cs.drop k).take 1 = [v] → cs[k]? = some v := fun k v hk => by
    have := congrArg (·[0]?) hk
    simpa [List.getElem?_take, List.getElem?_drop] using this
  exact ⟨key 0 _ e0, key 1 _ e1, key 2 _ e2, key 3 _ e3⟩
end

set_option maxRecDepth 100000 in
theorem fmt_of {W : World} (h : laidMetH Tryz.prog [("radicand/format.known", Rows.laid_radicand_format_known)] W) : FmtIn W := by
  rw [MakeChecks.laidMetH_plain _ _ _ (by kernel_rfl)] at h
  obtain ⟨ps, ⟨g', t', cs, fuel, p, q, hg', ht', hvar, hd, _, _⟩, _⟩ := h
  have hg : Tryz.prog.globalNamed "radicand/format.known" = some 2 := by kernel_rfl
  have hty : (Tryz.prog.globals[2]?).map (·.type) = some 126 := by kernel_rfl
  obtain rfl := Option.some.inj (hg.symm.trans hg')
  obtain rfl := Option.some.inj (hty.symm.trans ht')
  obtain ⟨xs, m, _, hx, hcl, hxl, hel⟩ := DataW.trod_array (n := 5) (e := 125) Tryz.underlying126 hd
  have hce : Tryz.prog.cellsOf 125 = 4 := by kernel_rfl
  have hx1 := (Prod.mk.inj hx).1
  have row : ∀ (i : Nat) (s : ByteArray) (a b c : Int) (x : DataW Unit × List MemPlace), i < 5 → xs[i]? = some x → x.1 = .agg [.lit (.string s.data.toList), .lit (.int .i64 a), .lit (.int .i64 b), .lit (.int .i64 c)] →
      cs[i * 4]? = some (.string s) ∧ cs[i * 4 + 1]? = some (.int .i64 a) ∧ cs[i * 4 + 2]? = some (.int .i64 b) ∧ cs[i * 4 + 3]? = some (.int .i64 c) := fun i s a b c x hi hxi hxe => by
    have h1 := hel i hi
    rw [hce, hxi] at h1
    obtain ⟨r0, r1, r2, r3⟩ := row4_of (s := s) (a := a) (b := b) (c := c) Tryz.underlying125 (by refine ⟨rfl, ?_, ?_⟩ <;> kernel_rfl) (by refine ⟨rfl, ?_, ?_⟩ <;> kernel_rfl) (by refine ⟨rfl, ?_, ?_⟩ <;> kernel_rfl) (by refine ⟨rfl, ?_, ?_⟩ <;> kernel_rfl) h1 hxe
    simp only [List.getElem?_take, List.getElem?_drop, Array.getElem?_toList] at r0 r1 r2 r3
    exact ⟨by simpa using r0, by simpa using r1, by simpa using r2, by simpa using r3⟩
  match xs, hxl with
  | [x0, x1, x2, x3, x4], _ =>
    simp only [Rows.laid_radicand_format_known, List.map_cons, List.map_nil, DataW.agg.injEq, List.cons.injEq, and_true] at hx1
    obtain ⟨e0, e1, e2, e3, e4⟩ := hx1
    obtain ⟨a0, a1, a2, a3⟩ := row 0 ⟨#[]⟩ 0 0 0 x0 (by omega) rfl e0.symm
    obtain ⟨b0, b1, b2, b3⟩ := row 1 ⟨#[98, 105, 110, 97, 114, 121, 49, 54]⟩ 16 11 5 x1 (by omega) rfl e1.symm
    obtain ⟨c0, c1, c2, c3⟩ := row 2 ⟨#[98, 105, 110, 97, 114, 121, 51, 50]⟩ 32 24 8 x2 (by omega) rfl e2.symm
    obtain ⟨d0, d1, d2, d3⟩ := row 3 ⟨#[98, 105, 110, 97, 114, 121, 54, 52]⟩ 64 53 11 x3 (by omega) rfl e3.symm
    obtain ⟨g0, g1, g2, g3⟩ := row 4 ⟨#[98, 105, 110, 97, 114, 121, 49, 50, 56]⟩ 128 113 15 x4 (by omega) rfl e4.symm
    intro i v hi
    rw [World.var?_cell hg hvar i]
    have hi20 : i < 20 := by
      have := (Array.getElem?_eq_some_iff.1 hi).1
      exact this
    rw [← hi]
    have hall : ∀ j, j < 20 → cs[j]? = knC[j]? := by
      intro j hj
      obtain rfl | rfl | rfl | rfl | rfl | rfl | rfl | rfl | rfl | rfl | rfl | rfl | rfl | rfl | rfl | rfl | rfl | rfl | rfl | rfl : j = 0 ∨ j = 1 ∨ j = 2 ∨ j = 3 ∨ j = 4 ∨ j = 5 ∨ j = 6 ∨ j = 7 ∨ j = 8 ∨ j = 9 ∨ j = 10 ∨ j = 11 ∨ j = 12 ∨ j = 13 ∨ j = 14 ∨ j = 15 ∨ j = 16 ∨ j = 17 ∨ j = 18 ∨ j = 19 := by omega
      · exact a0
      · exact a1
      · exact a2
      · exact a3
      · exact b0
      · exact b1
      · exact b2
      · exact b3
      · exact c0
      · exact c1
      · exact c2
      · exact c3
      · exact d0
      · exact d1
      · exact d2
      · exact d3
      · exact g0
      · exact g1
      · exact g2
      · exact g3
    exact hall i hi20

end Go.Proofs.YtoakmlopjeecoaaGreatDoor.Rw

namespace Go.Proofs.YtoakmlopjeecoaaGreatDoor.Rw
open Go Go.ChangeShapes Go.WideShapes Go.ChangeAt Go.RowKit Go.Joins Go.Deep Go.Proofs.YtoakmlopjeecoaaGreatDoor.Rd

section
variable {H : Type} {enc : TypeId × Value → H} {P : Program} {w : World} {base : Nat} {sp : Nat → Bool} {held : Bool}
theorem word_of (x y : Nat) (hx : x < B) (hy : y < B) : ∃ m, m < M2 ∧ lb m 1 = x ∧ lb m 0 = y := by
  refine ⟨y + x * B ^ 1, ?_, ?_, ?_⟩
  · have : (x + 1) * B ≤ B * B := Nat.mul_le_mul_right _ hx
    rw [Nat.add_mul, Nat.one_mul] at this
    rw [Nat.pow_one]
    show _ < B ^ 2
    rw [Nat.pow_two]; omega
  · rw [lb_add_at y x 1 1 (by rw [Nat.pow_one]; exact hy) hx, if_pos rfl]
  · rw [lb_add_at y x 1 0 (by rw [Nat.pow_one]; exact hy) hx, if_neg (by omega), lb_zero, Nat.mod_eq_of_lt hy]

end
end Go.Proofs.YtoakmlopjeecoaaGreatDoor.Rw
