/- Texts of a claim, merged: words, plain facts and walks that the last of its texts uses. -/
import Derived.Test.YtlofhnmpbpjigaaGreatZA2
import Derived.Test.YtlofhnmpbpjigaaGreatZA5
import Derived.Test.YtlofhnmpbpjigaaGreatZA8
import Derived.Test.YtlofhnmpbpjigaaGreatZA9
import Derived.Test.YtlofhnmpbpjigaaGreatZA14
import Derived.Test.YtlofhnmpbpjigaaGreatZA15
import Derived.Test.YtlofhnmpbpjigaaGreatZA16
import Derived.Shelf.Abstract
import Derived.Shelf.RegionOpen
import Derived.WalkKit
import Derived.OwnWalkIn
import Derived.TacticsInMore
set_option linter.unusedSimpArgs false
set_option linter.unusedVariables false

namespace Go.Proofs.YtlofhnmpbpjigaaGreat
open Go.RowKit
set_option maxRecDepth 100000
set_option maxHeartbeats 32000000 in
theorem walk_none {w : World} {Kp : Nat → Prop} {cb : Nat} {P M n : Int} {mv gv : Value} {Mod : List Int} {gen : List (List Int)} (hC : CDat w Kp cb P M mv n gv Mod gen) (hc : codeE P M Mod n gen ≠ 0) :
  SeqZ Fence.wide 3 Tryz.prog 55 #[.pointer (some ⟨cb, 0, none⟩)] [] Kp w := by
 intro l J Jx X W hbW rJ rJx _ hY h0
 refine callsIn_wide.2 ?_
 show Calls Tryz.prog _ #[.func (.yield l) #[] #[], .pointer (some ⟨cb, 0, none⟩)] W _
 obtain ⟨GA, gc, rfl, _⟩ := (hC.at_ w (Nat.le_refl _) fun _ _ => rfl).2.2
 have HWW := Lib.hid hbW
 have HAT : Hid (∀ W', Below W.heap.size W W' → Blk W' cb 27 [.int .i64 P, .int .i64 M, mv, .int .i64 n, .slice GA gen.length gc] ∧ SI W' mv Mod ∧ SS W' (.slice GA gen.length gc) gen) := hid' fun W' hb => hC.at_ W' (Nat.le_trans hbW.size hb.size) fun i hi => by
  have h1 := hC.lt i hi
  rw [hb.block i (Nat.lt_of_lt_of_le h1 hbW.size), hbW.block i h1]
 have HCK := Lib.hid (fun (w' : World) (h1 : SI w' mv Mod) (h2 : SS w' (.slice GA gen.length gc) gen) => cCheck_any w' P M n mv _ Mod gen h1 h2)
 have e2 : (codeE P M Mod n gen != 0) = true := by rw [bne_iff_ne]; exact hc
 generalize codeE P M Mod n gen = er at *
 obtain ⟨w0, b0, e1, e2', hbx0, hb0⟩ := mk_box W 82 [.func (.yield l) #[] #[]]
 have HE1 := Lib.hid e1; have HBX0 := Lib.hid hbx0; have HB0 := Lib.hid hb0; have HE2 := Lib.hid e2'
 have HH0 := Lib.hid h0; have HRJ := Lib.hid rJ
 clear e1 e2' hbx0 hb0 hC hbW rJ rJx hY h0 hc
 go_enter Tryz.func55, Tryz.ntmps55
 go_upto_region 1 with fail
 rw [HE1.out, HE2.out]
 clear HE1
 obtain ⟨t0, h1, h2⟩ := HAT.out w0 HB0.out
 have HM0 := Lib.hid h1; have HG0 := Lib.hid h2
 obtain ⟨c0, c1, c2, c3, c4, _⟩ := t0.five
 clear h1 h2 t0
 go_wp2_with fail
 refine (HCK.out w0 HM0.out HG0.out).mono ?_
 rintro e w1 ⟨rfl, hb1⟩
 have HB1 := Lib.hid (bl_trans HB0.out hb1)
 clear hb1 c0 c1 c2 c3 c4
 go_wp2_with fail
 refine bodyPost_ret (results_none rfl _ _ _) rfl ?_
 exact ⟨⟨_, rfl⟩, .inl ⟨X, HRJ.out.on _ _ _ _ HH0.out ⟨HB1.out.os, HB1.out.tape, HB1.out.output, HB1.out.size, fun i hi => HB1.out.block i (HRJ.out.lt _ _ _ HH0.out i hi)⟩⟩⟩
set_option maxHeartbeats 8000000 in
theorem cWalk_any (w : World) (P M n : Int) (mv gv : Value) :
  Calls Tryz.prog 23 #[.agg #[.int .i64 P, .int .i64 M, mv, .int .i64 n, gv]] w (fun e w' => e = .returned (.func (.func 55) #[] #[.pointer (some ⟨w.heap.size, 0, none⟩)]) ∧ Below w.heap.size w w' ∧ Blk w' w.heap.size 27 [.int .i64 P, .int .i64 M, mv, .int .i64 n, gv]) := by
 have HF := Lib.hid (CBox.mk' w P M mv n gv)
 go_enter Tryz.func23, Tryz.ntmps23
 go_upto_region 1 with fail
 generalize w.alloc (.cells #[.int .i64 P, .int .i64 M, mv, .int .i64 n, gv] 27) = w0 at *
 go_wp2_with fail
 go_ret
 exact ⟨rfl, HF.out.bel, HF.out.blk⟩
noncomputable def walkL (P M : Int) (Mod : List Int) (n : Int) (gen : List (List Int)) : List (List Int) := if codeE P M Mod n gen = 0 then wordsL (refOps P M Mod) (orderF P M).toNat n.toNat gen else []
attribute [local go_sem] Oper.semAt_some
theorem run_mkW0 (n : Nat) (h : n ≤ 1000000) (w : World) : (Instr.makeSlice 25 (.int .i64 0) (.int .i64 (n : Int))).run Tryz.prog w =
  .ok (.slice (some ⟨w.heap.size, 0, none⟩) 0 n) (w.alloc (.cells (madeCells #[.slice none 0 0] n) 22)) := by
 obtain ⟨i0, hi, hz0, hz1, hz2⟩ := info_parts Tryz.infoInts
 have := run_make (P := Tryz.prog) w 25 22 i0 (.slice none 0 0) Tryz.underlying25 hi hz0 .i64 .i64 0 n (Int.le_refl _) (by omega) (by rw [hz2]; omega) (by omega)
 simp only [Int.toNat_natCast, Int.toNat_zero, hz1, Nat.mul_one] at this
 exact this
theorem OS.made0W {B : Nat} {X : Nat → Prop} (w : World) (n : Nat) (hB : B ≤ w.heap.size) (h : n ≤ 1000000) : OS B X (w.alloc (.cells (madeCells #[.slice none 0 0] n) 22)) (.slice (some ⟨w.heap.size, 0, none⟩) 0 n) [] :=
 ⟨[], World.ownsRow_made w _ n hB (by unfold maxLen; omega) (by simp [size_madeCells]), fun i hi => absurd hi (by simp)⟩
theorem mk_wds (w : World) (c : Nat) (hc : c ≤ 1000000) : ∃ w' b1 b2, w.heap.size = b1 ∧ w.heap.size + 1 = b2 ∧ (w.alloc (.cells (madeCells #[.slice none 0 0] c) 22)).alloc (.cells #[.slice (some ⟨w.heap.size, 0, none⟩) 0 c] 25) = w' ∧ Blk w' b2 25 [.slice (some ⟨b1, 0, none⟩) 0 c] ∧ (∀ B Y, B ≤ w.heap.size → OS B Y w' (.slice (some ⟨b1, 0, none⟩) 0 c) []) ∧ Below w.heap.size w w' := by
 refine ⟨_, _, _, rfl, rfl, rfl, ?_, fun B Y hB => (OS.made0W w c hB hc).alloc _, bl_trans (bl_alloc w _) (bl_alloc _ _)⟩
 have := Blk.new (w.alloc (.cells (madeCells #[.slice none 0 0] c) 22)) 25 [.slice (some ⟨w.heap.size, 0, none⟩) 0 c]
 rwa [World.size_alloc] at this
set_option maxHeartbeats 8000000 in
theorem cWords_ok (w : World) (P M : Int) (N q : Nat) (mv gv : Value) (Mod : List Int) (gen : List (List Int)) (hm : SI w mv Mod) (hg : SS w gv gen) (hE : codeE P M Mod N gen = 0) (hq : orderF P M = (q : Int)) (hb : q ^ gen.length ≤ 65536) :
  Calls Tryz.prog 20 #[.agg #[.int .i64 P, .int .i64 M, mv, .int .i64 (N : Int), gv]] w (fun e w' => ∃ v, e = .returned (.tuple #[v, .int .i64 0]) ∧ OS w.heap.size (fun _ => False) w' v (walkL P M Mod N gen) ∧ Below w.heap.size w w') := by
 obtain ⟨c, hc⟩ : ∃ c, c = q ^ gen.length := ⟨_, rfl⟩
 have HSZ := Lib.hid (fun (w' : World) (hb : Below w.heap.size w w') => cSize_any w' P M N mv gv Mod gen (hm.below hb (Nat.le_refl _)) (hg.below hb (Nat.le_refl _)))
 have hsa : sizeA P M Mod N gen = (c : Int) := by unfold sizeA expA; rw [if_pos hE, hq, Int.toNat_natCast, if_pos hb, hc]
 have hse : sizeE P M Mod N gen = 0 := by unfold sizeE expE; rw [if_pos hE, hq, Int.toNat_natCast, if_pos hb]
 rw [hsa, hse] at HSZ
 rw [← hc] at hb
 have HM := Lib.hid hm; have HG := Lib.hid hg
 have HEE := Lib.hid hE; have HQ := Lib.hid hq; have HCC := Lib.hid hc
 clear hsa hse hm hg hE hq hc
 have HF := Lib.hid (CBox.mk' w P M mv N gv)
 have hmk := fun (w : World) => run_mkW0 c (by omega) w
 refine (callsIn_wide (n := 4)).1 ?_
 refine callsIn_of_wp_marks Tryz.func20 rfl trivial ?_ rfl
 simp only [Tryz.ntmps20, List.size_toArray, List.length_cons, List.length_nil, Nat.reduceAdd, Nat.reduceSub, Array.replicate_succ, Array.replicate_zero, List.push_toArray, List.append_toArray, List.nil_append, List.cons_append]
 refine wpIn_wide.2 ?_
 go_upto_region 1 with fail
 generalize w.alloc (.cells #[.int .i64 P, .int .i64 M, mv, .int .i64 (N : Int), gv] 27) = w0 at *
 have c0 := HF.out.c0; have c1 := HF.out.c1; have c2 := HF.out.c2; have c3 := HF.out.c3; have c4 := HF.out.c4
 go_wp2_with fail
 refine (HSZ.out w0 HF.out.bel).mono ?_
 rintro e w1 ⟨rfl, hb1⟩
 have HF1 := Lib.hid (HF.out.on hb1)
 clear hb1 c0 c1 c2 c3 c4
 have c0 := HF1.out.c0; have c1 := HF1.out.c1; have c2 := HF1.out.c2; have c3 := HF1.out.c3; have c4 := HF1.out.c4
 go_upto_region 5 with fail
 obtain ⟨w3, b1, bo, eb1, ebo, ew3, hbx3, hos3, hb3⟩ := mk_wds w1 c (by omega)
 rw [ew3, ebo, eb1]
 have HBO := Lib.hid ebo; have HB1 := Lib.hid eb1
 clear ew3 ebo eb1 hmk c0 c1 c2 c3 c4
 have HF3 := Lib.hid (HF1.out.on hb3); have HBX3 := Lib.hid hbx3; have HOS3 := Lib.hid hos3; have HSZ3 := Lib.hid hb3.size
 clear hbx3 hos3 hb3
 have c0 := HF3.out.c0; have c1 := HF3.out.c1; have c2 := HF3.out.c2; have c3 := HF3.out.c3; have c4 := HF3.out.c4
 go_wp2_with fail
 refine (cWalk_any w3 P M N mv gv).mono ?_
 rintro e w5 ⟨rfl, hb5, hcb⟩
 have HF5 := Lib.hid (HF3.out.on hb5); have HBX5 := Lib.hid (HBX3.out.belowS hb5); have HCB := Lib.hid hcb; have HB5 := Lib.hid hb5
 clear hb5 hcb c0 c1 c2 c3 c4
 go_wp2_with fail
 rename_i K hKk
 obtain ⟨cb, hcb⟩ : ∃ cb, cb = w3.heap.size := ⟨_, rfl⟩
 have HCB5 := HCB.out
 rw [← hcb] at HCB5 ⊢
 have hs1 := HF1.out.bel.size
 have hs3 := HSZ3.out
 have hs5 := HB5.out.size
 have hbo := HBO.out
 have hb1 := HB1.out
 have hcb5 := HCB5.lt
 have hbo5 := HBX5.out.lt
 have hbo3 := HBX3.out.lt
 have hOS5 := (HOS3.out w.heap.size (fun g => ¬ (g < w.heap.size ∨ g = cb ∨ g = bo ∨ g = b1) ∨ g = bo) hs1).below (HB5.out)
 obtain ⟨L, hL⟩ : ∃ L, L = walkL P M Mod N gen := ⟨_, rfl⟩
 have hLw : L = wordsL (refOps P M Mod) q N gen := by rw [hL]; unfold walkL; rw [if_pos HEE.out, HQ.out, Int.toNat_natCast, Int.toNat_natCast]
 have hLl : L.length = c := by rw [hLw, wordsL_len, HCC.out]
 have hCD : CDat w5 (fun i => i < w.heap.size ∨ i = cb) cb P M mv N gv Mod gen := {
  at_ := fun W h1 h2 => by
   have hk : ∀ p : Addr, p.block < w.heap.size → W.cell? p = w.cell? p := fun p hp => World.cell?_of_block ((h2 _ (.inl hp)).trans (HF5.out.bel.block _ hp))
   exact ⟨(h2 cb (.inr rfl)).trans HCB5, HM.out.keep hk, by obtain ⟨A, cc, e, h⟩ := HG.out; exact ⟨A, cc, e, h.keep hk⟩⟩
  lt := fun i hi => by
   have := HF5.out.bel.size
   rcases hi with hi | hi <;> omega }
 have hseq := walk_seq hCD HEE.out HQ.out
 rw [← hLw] at hseq
 have hst : WW w.heap.size bo cb w L 0 (fun i => i < w.heap.size ∨ i = cb ∨ i = bo ∨ i = b1) w5 := {
  st := ⟨_, HBX5.out, hOS5, fun g hg => by
   have e : b1 = g := by simpa [Value.ownBlock] using hg
   exact ⟨.inr (.inr (.inr e.symm)), by omega, by omega⟩⟩
  bx := .inr (.inr (.inl rfl))
  lt := fun i hi => by
   have := HF5.out.bel.size
   rcases hi with hi | hi | hi | hi <;> omega
  low := fun i hi => hi.elim .inl fun e => .inr (.inl e)
  bel := HF5.out.bel }
 have HBD : Hid (w.heap.size ≤ bo ∧ cb ≠ bo ∧ L.length ≤ 65536) := hid' ⟨by omega, by omega, by omega⟩
 have HLL := Lib.hid hL
 clear HF HF1 HF3 HBX3 HOS3 HSZ3 HBX5 HCB HB5 hs1 hs3 hs5 hbo hb1 hcb5 hbo5 hbo3 hOS5 hLw hLl hL hCD HCB5 HBO HB1 hcb
 refine (wpIn_wide (n := 4)).1 ?_
 refine wpIn_rangeZ (F := Fence.wide) rfl (by decide) (gf := 55) (lb := #[.pointer (some ⟨cb, 0, none⟩)]) rfl trivial (enters_of Tryz.func55 (by kernel_rfl) rfl)
  (Kp := fun i => i < w.heap.size ∨ i = cb) (fun i hi => hst.lt i (hst.low i hi)) hseq (Below.refl _ _) rfl (WW w.heap.size bo cb w L) (fun _ _ _ _ => False) (WW.rests _ _ _ _ _) (fun _ => ⟨fun _ _ _ _ h _ => h, fun _ _ _ h => h.elim⟩) (.inl (by have := HBD.out; omega)) hst
  (fun k u => { tmps := #[.agg #[.int .i64 P, .int .i64 M, mv, .int .i64 (N : Int), gv], .pointer (some ⟨w.heap.size, 0, none⟩), .slice none 0 0, .int .i64 0, .int .i64 (c : Int), .int .i64 0, .pointer (some ⟨bo, 0, none⟩), undef, u, .tuple #[.int .i64 (c : Int), .int .i64 0], .agg #[.int .i64 P, .int .i64 M, mv, .int .i64 (N : Int), gv], .tuple #[.int .i64 (c : Int), .int .i64 0], .int .i64 (c : Int), .int .i64 0, .int .i64 0, .bool false, undef, .int .i64 (c : Int), .slice (some ⟨b1, 0, none⟩) 0 c, .agg #[.int .i64 P, .int .i64 M, mv, .int .i64 (N : Int), gv], .func (.func 55) #[] #[.pointer (some ⟨cb, 0, none⟩)], .int .i64 (k : Int), u, undef, undef, undef, undef, undef], defers := [] }) ?assign ?body ?done ?stop
 case assign =>
  intro l k u W K' hK'
  gi_wp2
  exact hK'
 case body =>
  intro l k X u W hl hXl hI hk hu hux
  obtain ⟨v, hB1, hO1, hux1, hnext⟩ := hI.push HBD.out.1 HBD.out.2.1 hk hu hux
  have d0 : W.cell? ⟨bo, 0, none⟩ = some v := hB1.cell 0
  have f0 := hB1.frozen 0
  have HU1 : Hid (SI (W.alloc (.cells #[u] 22)) u (L.getD k [])) := hid' (hu.below (bl_alloc W _) (Nat.le_refl _))
  have HO1 := Lib.hid hO1; have HN := Lib.hid hnext; have HUX := Lib.hid hux1
  have HII := Lib.hid hI
  have HKL : Hid ((L.take k).length + 1 ≤ 4398046511104) := hid' (by have := HBD.out.2.2; have := List.length_take_le k L; omega)
  have HC1 : Hid ((W.alloc (.cells #[u] 22)).cell? ⟨W.heap.size, 0, none⟩ = some u) := hid' ((Blk.new W 22 [u]).cell 0)
  have hf := hu
  obtain ⟨UA, uc, eu, _⟩ := hf
  generalize (L.getD k []).length = un at eu
  subst eu
  clear hB1 hO1 hux1 hnext hu hux hI
  obtain ⟨VA, vc, ev⟩ := HO1.out.form
  rw [List.length_take, Nat.min_eq_left (Nat.le_of_lt hk)] at ev
  subst ev
  gi_wp2_with (gi_at_builtin; refine wpListIn_pushS rfl (.tmp 23) (.tmp 25) rfl w.heap.size _ _ (L.take k) rfl HO1.out W.heap.size _ (.slice UA un uc) (L.getD k []) rfl HC1.out HU1.out (fun _ => HUX.out) HKL.out (by rw [World.size_alloc]; have := HII.out.bel.size; omega) ?_; intro v2 w2 ho2 hg2 hv2; obtain ⟨A2, c2, ev2⟩ := ho2.form; rw [List.length_append, List.length_take, Nat.min_eq_left (Nat.le_of_lt hk), List.length_singleton] at ev2; subst ev2; have HZ := Lib.hid (HN.out _ w2 ho2 hg2 hv2); have d2 : w2.cell? ⟨bo, 0, none⟩ = some _ := HZ.out.1.cell 0; have f2 := HZ.out.1.frozen 0; clear ho2 hg2 hv2)
  exact ⟨HZ.out.2.1, HZ.out.2.2.1, HZ.out.2.2.2⟩
 case done =>
  intro D X W h1 h2 hI hD
  show K _ _
  refine hKk _ _ ?_
  obtain ⟨v, hB1, hO1, h3⟩ := hI.st
  have HI := Lib.hid hI; have HO := Lib.hid hO1; have H3 := Lib.hid h3
  have d0 : W.cell? ⟨bo, 0, none⟩ = some v := hB1.cell 0
  clear hI hO1 h3 hB1
  go_wp2_with fail
  refine ⟨by simp, .inl ⟨_, _, rfl, run_takeDeferred hD, ?_⟩⟩
  have hp : ∀ i, X i → (W.putObj D (.deferred none)).heap[i]? = W.heap[i]? := fun i hi => World.putObj_heap_other fun e => h2 (by subst e; exact hi)
  refine ⟨_, results_tmp2 rfl _ _ _, v, rfl, ?_, ?_⟩
  ·have hO1 := HO.out
   rw [List.take_of_length_le (Nat.le_refl _)] at hO1
   rw [← HLL.out]
   exact (hO1.onb (fun g hg => hp g (H3.out g hg).1) (fun g _ hn => hp g (Classical.byContradiction fun hx => hn (.inl hx)))).names fun g _ h => h.elim
  ·exact HI.out.bel.trans ⟨rfl, rfl, rfl, by simp, fun i hi => hp i (HI.out.low i (.inl hi))⟩
 case stop =>
  intro D c k X W _ _ _ h
  exact h.elim
end Go.Proofs.YtlofhnmpbpjigaaGreat
namespace Go.Proofs.YtlofhnmpbpjigaaGreat
open Go.RowKit
set_option maxRecDepth 100000
set_option maxHeartbeats 8000000 in
theorem cWords_no (w : World) (P M n : Int) (mv gv : Value) (Mod : List Int) (gen : List (List Int)) (hm : SI w mv Mod) (hg : SS w gv gen) (hE : sizeE P M Mod n gen ≠ 0) :
  Calls Tryz.prog 20 #[.agg #[.int .i64 P, .int .i64 M, mv, .int .i64 n, gv]] w (fun e w' => e = .returned (.tuple #[.slice none 0 0, .int .i64 (sizeE P M Mod n gen)]) ∧ Below w.heap.size w w') := by
 have HSZ := Lib.hid (fun (w' : World) (hb : Below w.heap.size w w') => cSize_any w' P M n mv gv Mod gen (hm.below hb (Nat.le_refl _)) (hg.below hb (Nat.le_refl _)))
 have e2 : (sizeE P M Mod n gen != 0) = true := by rw [bne_iff_ne]; exact hE
 clear hE hm hg
 generalize sizeE P M Mod n gen = er at *
 generalize sizeA P M Mod n gen = sa at *
 have HF := Lib.hid (CBox.mk' w P M mv n gv)
 go_enter Tryz.func20, Tryz.ntmps20
 go_upto_region 1 with fail
 generalize w.alloc (.cells #[.int .i64 P, .int .i64 M, mv, .int .i64 n, gv] 27) = w0 at *
 have c0 := HF.out.c0; have c1 := HF.out.c1; have c2 := HF.out.c2; have c3 := HF.out.c3; have c4 := HF.out.c4
 go_wp2_with fail
 refine (HSZ.out w0 HF.out.bel).mono ?_
 rintro e w1 ⟨rfl, hb1⟩
 have HF1 := Lib.hid (HF.out.on hb1)
 clear hb1 c0 c1 c2 c3 c4
 go_wp2_with fail
 go_ret2
 exact ⟨rfl, HF1.out.bel⟩
noncomputable def wordsR (P M : Int) (Mod : List Int) (n : Int) (gen : List (List Int)) : List (List Int) := if sizeE P M Mod n gen = 0 then walkL P M Mod n gen else []
theorem sizeE_zero {P M n : Int} {Mod : List Int} {gen : List (List Int)} (h : sizeE P M Mod n gen = 0) : codeE P M Mod n gen = 0 ∧ (orderF P M).toNat ^ gen.length ≤ 65536 := by
 unfold sizeE at h
 split at h
 ·rename_i hc
  refine ⟨hc, ?_⟩
  unfold expE at h
  split at h
  ·assumption
  ·cases h
 ·rename_i hc; exact absurd h hc
theorem cWords_any (w : World) (P M n : Int) (mv gv : Value) (Mod : List Int) (gen : List (List Int)) (hm : SI w mv Mod) (hg : SS w gv gen) :
  Calls Tryz.prog 20 #[.agg #[.int .i64 P, .int .i64 M, mv, .int .i64 n, gv]] w (fun e w' => ∃ v, e = .returned (.tuple #[v, .int .i64 (sizeE P M Mod n gen)]) ∧ OS w.heap.size (fun _ => False) w' v (wordsR P M Mod n gen) ∧ Below w.heap.size w w') := by
 by_cases hE : sizeE P M Mod n gen = 0
 ·obtain ⟨hc, hb⟩ := sizeE_zero hE
  obtain ⟨_, h1, _⟩ := codeE_zero hc
  obtain ⟨N, rfl⟩ : ∃ N : Nat, n = (N : Int) := ⟨n.toNat, by omega⟩
  have hob := orderF_bounds P M
  have hq : orderF P M = ((orderF P M).toNat : Int) := by omega
  have := cWords_ok w P M N _ mv gv Mod gen hm hg hc hq hb
  rw [hE]
  unfold wordsR
  rw [if_pos hE]
  exact this
 ·refine (cWords_no w P M n mv gv Mod gen hm hg hE).mono ?_
  rintro e w1 ⟨rfl, hb⟩
  refine ⟨_, rfl, ?_, hb⟩
  unfold wordsR
  rw [if_neg hE]
  exact OS.nil _ _ _
def NoPan (Q : Exit → Act → World → Prop) : Exit → Act → World → Prop
 | .panic _, _, _ => False
 | .normal, a, w => Q .normal a w
 | .ret, a, w => Q .ret a w
 | .exit id, a, w => Q (.exit id) a w
 | .goto t, a, w => Q (.goto t) a w
 | .outgrown, a, w => Q .outgrown a w
theorem NoPan.wp {P : Program} {c : Code} {Q : Exit → Act → World → Prop} {a : Act} {w : World} (h : c.wp P (NoPan Q) a w) : c.wp P Q a w :=
 Code.wp_mono (fun e a w h => by cases e <;> first | exact h | exact False.elim h) h
theorem ret_cell {w W : World} {rb : Nat} {t : TypeId} {b0 : Value} (v : Value) (hB : Below w.heap.size w W) (hT : Blk W rb t [b0]) (hr : w.heap.size ≤ rb) :
  (W.setCell ⟨rb, 0, none⟩ v).cell? ⟨rb, 0, none⟩ = some v ∧ Below w.heap.size w (W.setCell ⟨rb, 0, none⟩ v) :=
 ⟨(hT.set_ 0 v).cell 0, hB.setCell hr v⟩
theorem done_cell {w W : World} {rb D : Nat} {t : TypeId} {b0 : Value} (v : Value) (hB : Below w.heap.size w W) (hT : Blk W rb t [b0]) (hr : w.heap.size ≤ rb) (hD : W.heap[D]? = some (.deferred (some []))) (hDw : w.heap.size ≤ D) :
  (W.setCell ⟨rb, 0, none⟩ v).heap[D]? = some (.deferred (some [])) ∧ ((W.setCell ⟨rb, 0, none⟩ v).putObj D (.deferred none)).cell? ⟨rb, 0, none⟩ = some v ∧ Below w.heap.size w ((W.setCell ⟨rb, 0, none⟩ v).putObj D (.deferred none)) := by
 have hne : D ≠ rb := by
  intro e; subst e; have h1 : W.heap[D]? = _ := hT; rw [hD] at h1; cases h1
 obtain ⟨q, hb⟩ := ret_cell v hB hT hr
 refine ⟨(Below.heap_setCell W ⟨rb, 0, none⟩ v D hne).trans hD, ?_, hb.trans ⟨rfl, rfl, rfl, by simp, fun i hi => World.putObj_heap_other (by omega)⟩⟩
 rw [← q]
 exact World.cell?_of_block (World.putObj_heap_other (Ne.symm hne))
structure NX (nb sz : Nat) (wz w5 : World) (k : Nat) (X : Nat → Prop) (W : World) : Prop where
 x : ∀ i, X i ↔ i < sz
 bx : Blk W nb 3 [.int .i64 (k : Int)]
 kp : ∀ i, i < sz → i ≠ nb → W.heap[i]? = w5.heap[i]?
 bel : Below nb wz W
 size : sz ≤ W.heap.size
 lt : nb < sz
variable {nb sz : Nat} {wz w5 : World}
theorem NX.rests (nb sz : Nat) (wz w5 : World) : Rests (NX nb sz wz w5) where
 on k X W W' h ho := ⟨h.x, (ho.block nb ((h.x nb).2 h.lt)).trans h.bx, fun i hi hn => (ho.block i ((h.x i).2 hi)).trans (h.kp i hi hn), h.bel.trans ⟨ho.os, ho.tape, ho.output, ho.size, fun i hi => ho.block i ((h.x i).2 (by have := h.lt; omega))⟩, Nat.le_trans h.size ho.size, h.lt⟩
 lt k X W h i hi := Nat.lt_of_lt_of_le ((h.x i).1 hi) h.size
theorem NX.step {k : Nat} {X : Nat → Prop} {W W2 : World} (h : NX nb sz wz w5 k X W) (hb : Below W.heap.size W W2) (u : Value) :
  Off X W (W2.setCell ⟨nb, 0, none⟩ (.int .i64 ((k : Int) + 1))) ∧ Kept2 (fun i => i < sz ∧ i ≠ nb) W (W2.setCell ⟨nb, 0, none⟩ (.int .i64 ((k : Int) + 1))) ∧
   ∃ X', NX nb sz wz w5 (k + 1) X' (W2.setCell ⟨nb, 0, none⟩ (.int .i64 ((k : Int) + 1))) ∧ ∀ i, X' i → X i ∨ u.ownBlock = some i ∨ W.heap.size ≤ i := by
 obtain ⟨W3, hW3⟩ : ∃ W3, W3 = W2.setCell ⟨nb, 0, none⟩ (.int .i64 ((k : Int) + 1)) := ⟨_, rfl⟩
 rw [← hW3]
 have hs := h.size
 have hn := h.lt
 have hsz : W3.heap.size = W2.heap.size := by rw [hW3]; show (W2.heap.modify _ _).size = _; rw [Array.size_modify]
 have hold : ∀ i, i < W.heap.size → i ≠ nb → W3.heap[i]? = W.heap[i]? := fun i hi hn => by rw [hW3]; exact (Below.heap_setCell W2 ⟨nb, 0, none⟩ _ i hn).trans (hb.block i hi)
 have hbx : Blk W3 nb 3 [.int .i64 ((k : Int) + 1)] := by rw [hW3]; exact (h.bx.belowS hb).set_ 0 _
 have hos : W3.os = W.os := by rw [hW3]; exact hb.os
 have htp : W3.tape = W.tape := by rw [hW3]; exact hb.tape
 have hou : W3.output = W.output := by rw [hW3]; exact hb.output
 have hss := hb.size
 refine ⟨⟨hos, htp, hou, by omega, fun i hi hx => hold i hi fun e => hx ((h.x i).2 (by omega))⟩, fun i hi => hold i (by omega) hi.2, X, ⟨h.x, ?_, fun i hi hn => (hold i (by omega) hn).trans (h.kp i hi hn), h.bel.trans ⟨hos, htp, hou, by omega, fun i hi => hold i (by omega) (by omega)⟩, by omega, hn⟩, fun i hi => .inl hi⟩
 rw [show ((k + 1 : Nat) : Int) = (k : Int) + 1 by push_cast; rfl]
 exact hbx
theorem cnt_facts {P M : Int} {Mod : List Int} {N q : Nat} {C : List (List Int)} (hE : codeE P M Mod N C = 0) (hq : orderF P M = (q : Int)) (h : cntA P M Mod (N : Int) C 1024 ≠ 0) :
  sizeE P M Mod N C = 0 ∧ sizeA P M Mod N C = ((q ^ C.length : Nat) : Int) ∧ q ^ C.length ≤ 1024 ∧ wordsR P M Mod N C = wordsL (refOps P M Mod) q N C := by
 unfold cntA at h
 split at h
 ·exact absurd rfl h
 ·rename_i hn
  have h1 : sizeE P M Mod N C = 0 := Classical.byContradiction fun k => hn (.inl k)
  have h2 : ¬ (1024 : Int) < sizeA P M Mod N C := fun k => hn (.inr k)
  have h3 := (sizeE_zero h1).2
  rw [hq, Int.toNat_natCast] at h3
  have h4 : sizeA P M Mod N C = ((q ^ C.length : Nat) : Int) := by unfold sizeA expA; rw [if_pos hE, hq, Int.toNat_natCast, if_pos h3]
  rw [h4] at h2
  refine ⟨h1, h4, by omega, ?_⟩
  unfold wordsR walkL
  rw [if_pos h1, if_pos hE, hq, Int.toNat_natCast, Int.toNat_natCast]
theorem func_nild (d : Nat) (f : Fn) (a c : Array Value) (w : World) : (Op.equalIn (d + 1) 50 (.func f a c) .nilFunc).run Tryz.prog w = .ok false w := by
 simp [Op.equalIn, run_underlying Tryz.underlying50]
theorem func_nil (f : Fn) (a c : Array Value) (w : World) : (binOp .eql 50 (.func f a c) .nilFunc).run Tryz.prog w = .ok (.bool false) w := by
 have h := func_nild 9999 f a c w
 show (do pure (.bool (← Op.equalIn (9999 + 1) 50 (.func f a c) .nilFunc)) : Sem Value).run Tryz.prog w = _
 rw [Sem.run_bind, h]
 rfl
theorem words_one {O : FOps} {q N : Nat} {C : List (List Int)} {k : Nat} (h : k < q ^ C.length) : ((wordsL O q N C).getD k []).length = N := by rw [wordsL_at h, pwL_len]
theorem words_less {O : FOps} {q N : Nat} (hO : O.Fld (q : Int)) {C : List (List Int)} {p : List Int} (hR : Rref O (q : Int) N C p) {j : Nat} (h : j + 1 < q ^ C.length) :
  ∃ i, i < N ∧ (∀ e, e < i → ((wordsL O q N C).getD j []).getD e 0 = ((wordsL O q N C).getD (j + 1) []).getD e 0) ∧ ((wordsL O q N C).getD j []).getD i 0 < ((wordsL O q N C).getD (j + 1) []).getD i 0 := by
 rw [wordsL_at h, wordsL_at (show j < _ by omega)]
 exact pw_less hO hR (Nat.lt_succ_self j) h
theorem base_step {q k j : Nat} {msg : List Int} (h : ∀ i, 0 ≤ msg.getD i 0 ∧ msg.getD i 0 < q) (hj : j < k) (hb : q ^ k ≤ 1024) :
  ∃ p x : Nat, p = baseTo q msg j * q ∧ (x : Int) = msg.getD j 0 ∧ baseTo q msg (j + 1) = p + x ∧ p + x < 1024 := by
 refine ⟨_, (msg.getD j 0).toNat, rfl, by have := h j; omega, rfl, ?_⟩
 have h1 := base_lt h (j + 1)
 have h2 : baseTo q msg j * q + (msg.getD j 0).toNat = baseTo q msg (j + 1) := rfl
 rw [h2]
 have hq : 0 < q := by have := h 0; omega
 have : q ^ (j + 1) ≤ q ^ k := Nat.pow_le_pow_right hq hj
 omega
theorem SS.eltS {w : World} {ad : Addr} {n c : Nat} {xss : List (List Int)} (h : SS w (.slice (some ad) n c) xss) {k : Nat} (hk : k < xss.length) :
  ∃ Ak ck, w.cell? (ad.add k) = some (.slice Ak (xss.getD k []).length ck) ∧ SI w (.slice Ak (xss.getD k []).length ck) (xss.getD k []) := by
 obtain ⟨ad', Ak, ck, x, e, hc, HX, HXE⟩ := h.eltA hk
 cases e
 rw [HXE.out]
 exact ⟨Ak, ck, hc, Ak, ck, rfl, HX.out⟩
end Go.Proofs.YtlofhnmpbpjigaaGreat
namespace Go.Proofs.YtlofhnmpbpjigaaGreat
open Go.RowKit
set_option maxRecDepth 100000
theorem codeE_mk {P M : Int} {Mod : List Int} {n : Nat} {gen : List (List Int)} (hf : FieldP P M Mod) (h1 : 1 ≤ n) (h2 : n ≤ 64) (hC : Cn (refOps P M Mod) (orderF P M) n gen) : codeE P M Mod n gen = 0 := by
 have h0 := checkF_ok hf
 have hle := hC.le
 have hm : matE P M Mod n gen = 0 := matE_mk hf (by omega) (by omega) hC.rows
 unfold codeE
 rw [if_neg (by rw [h0]; decide), if_pos (by omega)]
 unfold spaceE
 rw [if_neg (by rw [hm]; decide), Int.toNat_natCast, if_pos (hC.self (ref_fld hf))]
theorem codeE_null {P M : Int} {Mod : List Int} {n : Nat} {gen : List (List Int)} (hE : codeE P M Mod n gen = 0) : codeE P M Mod n (nullL (refOps P M Mod) gen n) = 0 := by
 have h64 := (codeE_zero hE).2.2.1
 have h1 := (codeE_zero hE).2.1
 have hS := SpP.of (codeE_sp hE)
 exact codeE_mk hS.fld (by omega) (by omega) (Cn.null hS.hO hS.rref.rows)
set_option maxHeartbeats 16000000 in
theorem cHull_ok (w : World) (P M : Int) (n : Nat) (mv gv : Value) (Mod : List Int) (gen : List (List Int)) (hm : SI w mv Mod) (hg : SS w gv gen) (hE : codeE P M Mod n gen = 0) :
  Calls Tryz.prog 43 #[.agg #[.int .i64 P, .int .i64 M, mv, .int .i64 (n : Int), gv]] w (RetCE w P M Mod n (meetS (refOps P M Mod) gen (nullL (refOps P M Mod) gen n) n) 0) := by
 have HDU := Lib.hid (fun (w' : World) (hb : Below w.heap.size w w') => cDual_ok w' P M n mv gv Mod gen (hm.below hb (Nat.le_refl _)) (hg.below hb (Nat.le_refl _)) hE)
 have HME := Lib.hid (fun (w' : World) (u g2 : Value) (hb : Below w.heap.size w w') (hu : SI w' u Mod) (hs : SS w' g2 (nullL (refOps P M Mod) gen n)) => cMeet_ok w' P M n mv gv u g2 Mod gen _ (hm.below hb (Nat.le_refl _)) (hg.below hb (Nat.le_refl _)) hu hs hE (codeE_null hE))
 unfold RetCE at HDU HME
 obtain ⟨GA, gc, rfl, _⟩ := hg
 generalize gen.length = gl at *
 clear hm hE
 generalize meetS (refOps P M Mod) gen (nullL (refOps P M Mod) gen n) n = S at *
 generalize nullL (refOps P M Mod) gen n = C at *
 obtain ⟨k, hk⟩ : ∃ k, k = C.length := ⟨_, rfl⟩
 have HK := Lib.hid hk; clear hk
 obtain ⟨ml, hml⟩ : ∃ k, k = Mod.length := ⟨_, rfl⟩
 have HML := Lib.hid hml; clear hml
 obtain ⟨sl, hsl⟩ : ∃ k, k = S.length := ⟨_, rfl⟩
 have HSL := Lib.hid hsl; clear hsl
 obtain ⟨w1, e1, hq⟩ := CCQ.mk' w P M mv n (.slice GA gl gc)
 have HQ := Lib.hid hq; have HE1 := Lib.hid e1; clear hq e1
 go_enter Tryz.func43, Tryz.ntmps43
 go_upto_region 1 with fail
 rw [HE1.out]
 clear HE1
 have c0 := HQ.out.cb.c0; have c1 := HQ.out.cb.c1; have c2 := HQ.out.cb.c2; have c3 := HQ.out.cb.c3; have c4 := HQ.out.cb.c4
 go_wp2_with fail
 refine (HDU.out w1 HQ.out.cb.bel).mono ?_
 rintro e w2 ⟨u2, g2, rfl, hx2, hb2⟩
 obtain ⟨⟨MA, mc, rfl, _⟩, ⟨DA, dc, rfl, _⟩⟩ := hx2.out
 rw [← HK.out, ← HML.out] at hx2 ⊢
 have HX2 := Lib.hid hx2
 have HQ2 := Lib.hid (HQ.out.on hb2)
 clear hx2 hb2 c0 c1 c2 c3 c4
 go_upto_region 2 with fail
 obtain ⟨w3, g3, e1, e2, h3, hb3⟩ := mk_box w2 27 [.int .i64 P, .int .i64 M, .slice MA ml mc, .int .i64 (n : Int), .slice DA k dc]
 rw [e1, e2]
 have HQ3 := Lib.hid (HQ2.out.on hb3); have HX3 := Lib.hid (HX2.out.on hb3).out; have HG3 := Lib.hid h3
 clear e1 e2 h3 hb3 HX2 HQ2
 have c0 := HQ3.out.cb.c0; have c1 := HQ3.out.cb.c1; have c2 := HQ3.out.cb.c2; have c3 := HQ3.out.cb.c3; have c4 := HQ3.out.cb.c4
 have x0 := HG3.out.cell 0; have x1 := HG3.out.cell 1; have x2 := HG3.out.cell 2; have x3 := HG3.out.cell 3; have x4 := HG3.out.cell 4
 go_wp2_with fail
 refine (HME.out w3 _ _ HQ3.out.cb.bel HX3.out.1 HX3.out.2).mono ?_
 rintro e w4 ⟨u4, g4, rfl, hx4, hb4⟩
 obtain ⟨⟨MB, nc, rfl, _⟩, ⟨DB, ec, rfl, _⟩⟩ := hx4.out
 rw [← HSL.out, ← HML.out] at hx4 ⊢
 have HX4 := Lib.hid hx4
 have HQ4 := Lib.hid (HQ3.out.on hb4)
 have hs3 := HQ3.out.cb.bel.size
 have hq3 := HQ3.out.q.lt
 clear hx4 hb4 c0 c1 c2 c3 c4 x0 x1 x2 x3 x4
 obtain ⟨y0, y1, y2, y3, y4, f0, f1, f2, f3, f4⟩ := HQ4.out.q.five
 go_wp2_with fail
 obtain ⟨wz, hz, HL⟩ := lay5 (x := .int .i64 P) (y := .int .i64 M) (z := .slice MB ml nc) (u := .int .i64 (n : Int)) (v := .slice DB sl ec) HQ4.out.q
 rw [hz]
 have q0 := HL.c0; have q1 := HL.c1; have q2 := HL.c2; have q3 := HL.c3; have q4 := HL.c4
 refine bodyPost_ret (v := .tuple #[.agg #[.int .i64 P, .int .i64 M, .slice MB ml nc, .int .i64 (n : Int), .slice DB sl ec], .int .i64 0]) (by simp [results, Tryz.results43, go_sem, q0, q1, q2, q3, q4]) rfl ?_
 exact ⟨_, _, rfl, (HX4.out.grown HL.gr (by rintro b e; cases e; omega)).mono hs3, HL.below HQ4.out.cb.bel HQ4.out.cb.bel.size (by omega)⟩
def g0 : List (List Int) := [[1, 1, 0, 1], [0, 1, 1, 1]]
def gG : List (List Int) := [[1, 0, 1, 0], [0, 1, 1, 1]]
theorem za12_1 : canonL (refOps 2 1 []) g0 4 = gG := by decide +kernel
theorem za12_2 : canonL (refOps 2 1 []) gG 4 = gG := by decide +kernel
theorem za12_3 : pivL (refOps 2 1 []) gG 4 = [0, 1] := by decide +kernel
theorem za12_4 : combL (refOps 2 1 []) [1, 1] gG 4 = [1, 1, 0, 1] := by decide +kernel
theorem za12_5 : inL (refOps 2 1 []) gG [1, 0, 1, 0] = true := by decide +kernel
theorem za12_6 : crdL (refOps 2 1 []) gG 4 [1, 0, 1, 0] = [1, 0] := by decide +kernel
theorem za12_7 : wordsL (refOps 2 1 []) 2 4 gG = [[0, 0, 0, 0], [0, 1, 1, 1], [1, 0, 1, 0], [1, 1, 0, 1]] := by decide +kernel
theorem za12_8 : nullL (refOps 2 1 []) gG 4 = [[1, 0, 1, 1], [0, 1, 0, 1]] := by decide +kernel
theorem za12_9 : synL (refOps 2 1 []) gG 4 [1, 0, 0, 0] = [1, 0] := by decide +kernel
theorem za12_10 : meetS (refOps 2 1 []) gG (nullL (refOps 2 1 []) gG 4) 4 = [] := by decide +kernel
theorem eG12 : codeE 2 1 [] ((4 : Nat) : Int) gG = 0 := codeE_mk fld21 (by omega) (by omega) (by
 have h := Cn.canon (ref_fld fld21) (rows_of (n := 4) (l := gG) (by decide))
 rwa [za12_2] at h)
theorem eW12 {x : List Int} (h : listF 2 x 4 = 0) : wordE 2 1 [] ((4 : Nat) : Int) gG x = 0 := by
 unfold wordE
 rw [if_pos eG12, order21]
 exact h
theorem lit12_rows2 (w : World) (a b : List Int) (ha : (a.all fun x => x == 0 || x == 1 || x == 2) = true) (hb : (b.all fun x => x == 0 || x == 1 || x == 2) = true) (la : a.length ≤ 100) (lb : b.length ≤ 100) :
   ∃ w', ((w.alloc (.cells (a.map (Value.int .i64)).toArray 3)).alloc (.cells (b.map (Value.int .i64)).toArray 3)).alloc (.cells #[.slice (some ⟨w.heap.size, 0, none⟩) a.length a.length, .slice (some ⟨w.heap.size + 1, 0, none⟩) b.length b.length] 22) = w' ∧
     SS w' (.slice (some ⟨w.heap.size + 1 + 1, 0, none⟩) 2 2) [a, b] ∧ Below w.heap.size w w' := by
 have h1 := Blk.new w 3 (a.map (Value.int .i64))
 have h2 := Blk.new (w.alloc (.cells (a.map (Value.int .i64)).toArray 3)) 3 (b.map (Value.int .i64))
 have l1 := bl_alloc w (.cells (a.map (Value.int .i64)).toArray 3)
 have l2 := bl_alloc (w.alloc (.cells (a.map (Value.int .i64)).toArray 3)) (.cells (b.map (Value.int .i64)).toArray 3)
 have s1 := World.size_alloc w (.cells (a.map (Value.int .i64)).toArray 3)
 have s2 := World.size_alloc (w.alloc (.cells (a.map (Value.int .i64)).toArray 3)) (.cells (b.map (Value.int .i64)).toArray 3)
 rw [s1] at h2 s2
 generalize w.alloc (.cells (a.map (Value.int .i64)).toArray 3) = v1 at *
 generalize v1.alloc (.cells (b.map (Value.int .i64)).toArray 3) = v2 at *
 have h3 := Blk.new v2 22 [.slice (some ⟨w.heap.size, 0, none⟩) a.length a.length, .slice (some ⟨w.heap.size + 1, 0, none⟩) b.length b.length]
 have l3 := bl_alloc v2 (.cells #[.slice (some ⟨w.heap.size, 0, none⟩) a.length a.length, .slice (some ⟨w.heap.size + 1, 0, none⟩) b.length b.length] 22)
 rw [s2] at h3
 exact ⟨_, rfl, ss_lit2 h3 (si_lit ((h1.belowS l2).belowS l3) (by omega) ha) (si_lit (h2.belowS l3) (by omega) hb), bl_trans (bl_trans l1 l2) l3⟩
theorem ss_lit4 {w : World} {g : Nat} {u v s t : Value} {xs ys zs qs : List Int} (h : Blk w g 22 [u, v, s, t]) (hu : SI w u xs) (hv : SI w v ys) (hs : SI w s zs) (ht : SI w t qs) : SS w (.slice (some ⟨g, 0, none⟩) 4 4) [xs, ys, zs, qs] :=
 ss_lit (xss := [xs, ys, zs, qs]) h (by simp) (fun k hk => by
  match k, hk with
  | 0, _ => exact ⟨_, rfl, hu⟩
  | 1, _ => exact ⟨_, rfl, hv⟩
  | 2, _ => exact ⟨_, rfl, hs⟩
  | 3, _ => exact ⟨_, rfl, ht⟩
  | k + 4, hk => exact absurd hk (by simp))
theorem lit12_rows4 (w : World) (a b c d : List Int) (ha : (a.all fun x => x == 0 || x == 1 || x == 2) = true) (hb : (b.all fun x => x == 0 || x == 1 || x == 2) = true) (hc : (c.all fun x => x == 0 || x == 1 || x == 2) = true) (hd : (d.all fun x => x == 0 || x == 1 || x == 2) = true) (la : a.length ≤ 100) (lb : b.length ≤ 100) (lc : c.length ≤ 100) (ld : d.length ≤ 100) :
   ∃ w', ((((w.alloc (.cells (a.map (Value.int .i64)).toArray 3)).alloc (.cells (b.map (Value.int .i64)).toArray 3)).alloc (.cells (c.map (Value.int .i64)).toArray 3)).alloc (.cells (d.map (Value.int .i64)).toArray 3)).alloc (.cells #[.slice (some ⟨w.heap.size, 0, none⟩) a.length a.length, .slice (some ⟨w.heap.size + 1, 0, none⟩) b.length b.length, .slice (some ⟨w.heap.size + 1 + 1, 0, none⟩) c.length c.length, .slice (some ⟨w.heap.size + 1 + 1 + 1, 0, none⟩) d.length d.length] 22) = w' ∧
     SS w' (.slice (some ⟨w.heap.size + 1 + 1 + 1 + 1, 0, none⟩) 4 4) [a, b, c, d] ∧ Below w.heap.size w w' := by
 have h1 := Blk.new w 3 (a.map (Value.int .i64))
 have l1 := bl_alloc w (.cells (a.map (Value.int .i64)).toArray 3)
 have s1 := World.size_alloc w (.cells (a.map (Value.int .i64)).toArray 3)
 generalize w.alloc (.cells (a.map (Value.int .i64)).toArray 3) = v1 at *
 have h2 := Blk.new v1 3 (b.map (Value.int .i64))
 have l2 := bl_alloc v1 (.cells (b.map (Value.int .i64)).toArray 3)
 have s2 := World.size_alloc v1 (.cells (b.map (Value.int .i64)).toArray 3)
 rw [s1] at h2 s2
 generalize v1.alloc (.cells (b.map (Value.int .i64)).toArray 3) = v2 at *
 have h3 := Blk.new v2 3 (c.map (Value.int .i64))
 have l3 := bl_alloc v2 (.cells (c.map (Value.int .i64)).toArray 3)
 have s3 := World.size_alloc v2 (.cells (c.map (Value.int .i64)).toArray 3)
 rw [s2] at h3 s3
 generalize v2.alloc (.cells (c.map (Value.int .i64)).toArray 3) = v3 at *
 have h4 := Blk.new v3 3 (d.map (Value.int .i64))
 have l4 := bl_alloc v3 (.cells (d.map (Value.int .i64)).toArray 3)
 have s4 := World.size_alloc v3 (.cells (d.map (Value.int .i64)).toArray 3)
 rw [s3] at h4 s4
 generalize v3.alloc (.cells (d.map (Value.int .i64)).toArray 3) = v4 at *
 have h5 := Blk.new v4 22 [.slice (some ⟨w.heap.size, 0, none⟩) a.length a.length, .slice (some ⟨w.heap.size + 1, 0, none⟩) b.length b.length, .slice (some ⟨w.heap.size + 1 + 1, 0, none⟩) c.length c.length, .slice (some ⟨w.heap.size + 1 + 1 + 1, 0, none⟩) d.length d.length]
 have l5 := bl_alloc v4 (.cells #[.slice (some ⟨w.heap.size, 0, none⟩) a.length a.length, .slice (some ⟨w.heap.size + 1, 0, none⟩) b.length b.length, .slice (some ⟨w.heap.size + 1 + 1, 0, none⟩) c.length c.length, .slice (some ⟨w.heap.size + 1 + 1 + 1, 0, none⟩) d.length d.length] 22)
 rw [s4] at h5
 exact ⟨_, rfl, ss_lit4 h5 (si_lit ((((h1.belowS l2).belowS l3).belowS l4).belowS l5) (by omega) ha) (si_lit (((h2.belowS l3).belowS l4).belowS l5) (by omega) hb) (si_lit ((h3.belowS l4).belowS l5) (by omega) hc) (si_lit (h4.belowS l5) (by omega) hd), bl_trans (bl_trans (bl_trans (bl_trans l1 l2) l3) l4) l5⟩
theorem lit12_row (w : World) (a : List Int) (ha : (a.all fun x => x == 0 || x == 1 || x == 2) = true) (la : a.length ≤ 100) :
   ∃ w', w.alloc (.cells (a.map (Value.int .i64)).toArray 3) = w' ∧ SI w' (.slice (some ⟨w.heap.size, 0, none⟩) a.length a.length) a ∧ Below w.heap.size w w' :=
 ⟨_, rfl, si_lit (Blk.new w 3 (a.map (Value.int .i64))) (by omega) ha, bl_alloc w _⟩
section
variable (w : World) (u g c : Value)
theorem qa12_1 (hA : SS w c g0) : Calls Tryz.prog 19 #[.agg #[.int .i64 2, .int .i64 1, .slice none 0 0], .agg #[.int .i64 4, c]] w (RetCE w 2 1 [] 4 gG 0) := by
 have h := cNew_ok w 2 1 4 (.slice none 0 0) c [] g0 (SI.none_ w) hA (matE_mk (n := 4) fld21 (by omega) (by decide) (rows_of (by decide))) (by omega) (by omega)
 rw [za12_1] at h
 exact h
theorem qa12_2 (hu : SI w u []) (hg : SS w g gG) : Calls Tryz.prog 40 #[.agg #[.int .i64 2, .int .i64 1, u, .int .i64 4, g]] w (RetLA w [0, 1] 0) := by
 have h := cPivots_ok w 2 1 4 u g [] gG hu hg eG12
 rw [za12_3] at h
 exact h
theorem qa12_3 (hu : SI w u []) (hg : SS w g gG) (hc : SI w c [1, 1]) : Calls Tryz.prog 27 #[.agg #[.int .i64 2, .int .i64 1, u, .int .i64 4, g], c] w (RetLE w [1, 1, 0, 1] 0) := by
 have h := cEncode_any w 2 1 ((4 : Nat) : Int) u g c [] [1, 1] gG hu hg hc
 have e1 : encE 2 1 [] ((4 : Nat) : Int) gG [1, 1] = 0 := by unfold encE; rw [if_pos eG12, order21]; decide
 have e2 : encL 2 1 [] ((4 : Nat) : Int) gG [1, 1] = [1, 1, 0, 1] := by unfold encL; rw [if_pos e1, Int.toNat_natCast, za12_4]
 rw [e1, e2] at h
 exact h
theorem qa12_4 (hu : SI w u []) (hg : SS w g gG) (hc : SI w c [1, 0, 1, 0]) : Calls Tryz.prog 41 #[.agg #[.int .i64 2, .int .i64 1, u, .int .i64 4, g], c] w (RetLA w [1, 0] 0) := by
 have hw := eW12 (x := [1, 0, 1, 0]) (by decide)
 have h := cMessage_ok w 2 1 4 u g [] gG hu hg c _ hc hw
 rw [show msgL 2 1 [] ((4 : Nat) : Int) gG [1, 0, 1, 0] = [1, 0] by unfold msgL; rw [if_pos ⟨hw, za12_5⟩, Int.toNat_natCast, za12_6], show msgE 2 1 [] ((4 : Nat) : Int) gG [1, 0, 1, 0] = 0 by unfold msgE; rw [if_neg (fun h => h hw), if_pos za12_5]] at h
 exact h
theorem eZ12 : sizeE 2 1 [] ((4 : Nat) : Int) gG = 0 := by unfold sizeE; rw [if_pos eG12, order21]; decide
theorem qa12_5 (hu : SI w u []) (hg : SS w g gG) : Calls Tryz.prog 20 #[.agg #[.int .i64 2, .int .i64 1, u, .int .i64 4, g]] w (fun e w' => ∃ v, e = .returned (.tuple #[v, .int .i64 0]) ∧ OS w.heap.size (fun _ => False) w' v [[0, 0, 0, 0], [0, 1, 1, 1], [1, 0, 1, 0], [1, 1, 0, 1]] ∧ Below w.heap.size w w') := by
 have h := cWords_any w 2 1 ((4 : Nat) : Int) u g [] gG hu hg
 rw [eZ12, show wordsR 2 1 [] ((4 : Nat) : Int) gG = [[0, 0, 0, 0], [0, 1, 1, 1], [1, 0, 1, 0], [1, 1, 0, 1]] by unfold wordsR walkL; rw [if_pos eZ12, if_pos eG12, order21, Int.toNat_natCast, show Int.toNat 2 = 2 from rfl, za12_7]] at h
 exact h
theorem qa12_6 (hu : SI w u []) (hg : SS w g gG) : Calls Tryz.prog 35 #[.agg #[.int .i64 2, .int .i64 1, u, .int .i64 4, g]] w (RetCE w 2 1 [] 4 [[1, 0, 1, 1], [0, 1, 0, 1]] 0) := by
 have h := cDual_ok w 2 1 4 u g [] gG hu hg eG12
 rw [za12_8] at h
 exact h
theorem qa12_7 (hu : SI w u []) (hg : SS w g gG) (hc : SI w c [1, 0, 0, 0]) : Calls Tryz.prog 42 #[.agg #[.int .i64 2, .int .i64 1, u, .int .i64 4, g], c] w (RetLA w [1, 0] 0) := by
 have h := cSyndrome_ok w 2 1 4 u g [] gG hu hg c _ hc (eW12 (by decide))
 rw [za12_9] at h
 exact h
theorem qa12_8 (hu : SI w u []) (hg : SS w g gG) : Calls Tryz.prog 43 #[.agg #[.int .i64 2, .int .i64 1, u, .int .i64 4, g]] w (RetCE w 2 1 [] 4 [] 0) := by
 have h := cHull_ok w 2 1 4 u g [] gG hu hg eG12
 rw [za12_10] at h
 exact h
theorem qa12_9 (hu : SI w u []) (hg : SS w g gG) : Calls Tryz.prog 21 #[.agg #[.int .i64 2, .int .i64 1, u, .int .i64 4, g]] w (RetII w 4 0) := by
 have h := cSize_any w 2 1 ((4 : Nat) : Int) u g [] gG hu hg
 rw [eZ12, show sizeA 2 1 [] ((4 : Nat) : Int) gG = 4 by unfold sizeA; rw [if_pos eG12, order21]; decide] at h
 exact h
end
set_option maxHeartbeats 64000000 in
theorem awake12_any (w : World) : Calls Tryz.prog 14 #[] w (RetB w true) := by
 go_enter Tryz.func14, Tryz.ntmps14
 go_upto_region 2 with fail
 obtain ⟨y0, gf, e1, e2, hX, hb⟩ := mk_box w 24 [.int .i64 2, .int .i64 1, .slice none 0 0]
 rw [e1, e2]
 have TF := Lib.hid hX; have HB := Lib.hid hb; clear e1 e2 hX hb
 obtain ⟨l1, el1, hl1, hlb1⟩ := lit12_rows2 y0 [1, 1, 0, 1] [0, 1, 1, 1] (by decide) (by decide) (by decide) (by decide)
 simp only [List.map_cons, List.map_nil, List.length_cons, List.length_nil, Nat.zero_add, Nat.reduceAdd] at el1 hl1
 have HL1 := Lib.hid hl1; have HLE1 := Lib.hid el1; have HLB1 := Lib.hid hlb1; clear hl1 el1 hlb1
 have cTF0 : y0.cell? ⟨gf, 0, none⟩ = some (.int .i64 2) := TF.out.cell 0
 have cTF1 : y0.cell? ⟨gf, 1, none⟩ = some (.int .i64 1) := TF.out.cell 1
 have cTF2 : y0.cell? ⟨gf, 2, none⟩ = some (.slice none 0 0) := TF.out.cell 2
 go_wp2_with fail
 rw [HLE1.out]
 replace TF := Lib.hid (TF.out.belowS HLB1.out)
 replace HB := Lib.hid (bl_trans HB.out HLB1.out)
 refine (qa12_1 _ _ HL1.out).mono ?_
 rintro e y2 ⟨u, g, rfl, hx, hb2⟩
 clear cTF0 cTF1 cTF2
 replace TF := Lib.hid (TF.out.belowS hb2)
 replace HB := Lib.hid (bl_trans HB.out hb2)
 clear HL1 HLE1 HLB1
 obtain ⟨⟨Mk, mk, rfl, _⟩, ⟨Uk, ck, rfl, _⟩⟩ := hx.out
 have Zk := Lib.hid hx.out.1; have Xk := Lib.hid hx.out.2; clear hx
 try rw [show gG.length = 2 from rfl]
 change Hid (SI _ (.slice Mk 0 mk) _) at Zk
 change Hid (SS _ (.slice Uk 2 ck) _) at Xk
 go_upto_region 3 with fail
 obtain ⟨z2, gk, e1, e2, hbx, hbz⟩ := mk_box y2 27 [.int .i64 2, .int .i64 1, .slice Mk 0 mk, .int .i64 4, .slice Uk 2 ck]
 try simp only [List.length_nil, List.length_cons, Nat.zero_add, Nat.reduceAdd]
 rw [e1, e2]
 clear e1
 replace TF := Lib.hid (TF.out.belowS hbz)
 replace Zk := Lib.hid (Zk.out.below hbz (Nat.le_refl _))
 replace Xk := Lib.hid (Xk.out.below hbz (Nat.le_refl _))
 replace HB := Lib.hid (bl_trans HB.out hbz)
 have Tk := Lib.hid hbx; clear hbx hbz e2
 have cTk0 : z2.cell? ⟨gk, 0, none⟩ = some (.int .i64 2) := Tk.out.cell 0
 have cTk1 : z2.cell? ⟨gk, 1, none⟩ = some (.int .i64 1) := Tk.out.cell 1
 have cTk2 : z2.cell? ⟨gk, 2, none⟩ = some (.slice Mk 0 mk) := Tk.out.cell 2
 have cTk3 : z2.cell? ⟨gk, 3, none⟩ = some (.int .i64 4) := Tk.out.cell 3
 have cTk4 : z2.cell? ⟨gk, 4, none⟩ = some (.slice Uk 2 ck) := Tk.out.cell 4
 go_wp2_with fail
 refine (qa12_2 _ _ _ Zk.out Xk.out).mono ?_
 rintro e y3 ⟨u, rfl, hx, hb3⟩
 clear cTk0 cTk1 cTk2 cTk3 cTk4
 replace TF := Lib.hid (TF.out.belowS hb3)
 replace Tk := Lib.hid (Tk.out.belowS hb3)
 replace Zk := Lib.hid (Zk.out.below hb3 (Nat.le_refl _))
 replace Xk := Lib.hid (Xk.out.below hb3 (Nat.le_refl _))
 replace HB := Lib.hid (bl_trans HB.out hb3)
 obtain ⟨Up, cp, rfl, _⟩ := hx.out
 have Xp := Lib.hid hx.out; clear hx
 change Hid (SI _ (.slice Up 2 cp) _) at Xp
 obtain ⟨l4, el4, hl4, hlb4⟩ := lit12_row y3 [1, 1] (by decide) (by decide)
 simp only [List.map_cons, List.map_nil, List.length_cons, List.length_nil, Nat.zero_add, Nat.reduceAdd] at el4 hl4
 have HL4 := Lib.hid hl4; have HLE4 := Lib.hid el4; have HLB4 := Lib.hid hlb4; clear hl4 el4 hlb4
 have cTk0 : y3.cell? ⟨gk, 0, none⟩ = some (.int .i64 2) := Tk.out.cell 0
 have cTk1 : y3.cell? ⟨gk, 1, none⟩ = some (.int .i64 1) := Tk.out.cell 1
 have cTk2 : y3.cell? ⟨gk, 2, none⟩ = some (.slice Mk 0 mk) := Tk.out.cell 2
 have cTk3 : y3.cell? ⟨gk, 3, none⟩ = some (.int .i64 4) := Tk.out.cell 3
 have cTk4 : y3.cell? ⟨gk, 4, none⟩ = some (.slice Uk 2 ck) := Tk.out.cell 4
 go_wp2_with fail
 rw [HLE4.out]
 replace TF := Lib.hid (TF.out.belowS HLB4.out)
 replace Tk := Lib.hid (Tk.out.belowS HLB4.out)
 replace Zk := Lib.hid (Zk.out.below HLB4.out (Nat.le_refl _))
 replace Xk := Lib.hid (Xk.out.below HLB4.out (Nat.le_refl _))
 replace Xp := Lib.hid (Xp.out.below HLB4.out (Nat.le_refl _))
 replace HB := Lib.hid (bl_trans HB.out HLB4.out)
 refine (qa12_3 _ _ _ _ Zk.out Xk.out HL4.out).mono ?_
 rintro e y5 ⟨u, rfl, hx0, _, hb5⟩
 clear cTk0 cTk1 cTk2 cTk3 cTk4
 replace TF := Lib.hid (TF.out.belowS hb5)
 replace Tk := Lib.hid (Tk.out.belowS hb5)
 replace Zk := Lib.hid (Zk.out.below hb5 (Nat.le_refl _))
 replace Xk := Lib.hid (Xk.out.below hb5 (Nat.le_refl _))
 replace Xp := Lib.hid (Xp.out.below hb5 (Nat.le_refl _))
 replace HB := Lib.hid (bl_trans HB.out hb5)
 clear HL4 HLE4 HLB4
 have hx := Lib.hid hx0; clear hx0
 obtain ⟨Uw, cw, rfl, _⟩ := hx.out
 have Xw := Lib.hid hx.out; clear hx
 change Hid (SI _ (.slice Uw 4 cw) _) at Xw
 obtain ⟨l6, el6, hl6, hlb6⟩ := lit12_row y5 [1, 0, 1, 0] (by decide) (by decide)
 simp only [List.map_cons, List.map_nil, List.length_cons, List.length_nil, Nat.zero_add, Nat.reduceAdd] at el6 hl6
 have HL6 := Lib.hid hl6; have HLE6 := Lib.hid el6; have HLB6 := Lib.hid hlb6; clear hl6 el6 hlb6
 have cTk0 : y5.cell? ⟨gk, 0, none⟩ = some (.int .i64 2) := Tk.out.cell 0
 have cTk1 : y5.cell? ⟨gk, 1, none⟩ = some (.int .i64 1) := Tk.out.cell 1
 have cTk2 : y5.cell? ⟨gk, 2, none⟩ = some (.slice Mk 0 mk) := Tk.out.cell 2
 have cTk3 : y5.cell? ⟨gk, 3, none⟩ = some (.int .i64 4) := Tk.out.cell 3
 have cTk4 : y5.cell? ⟨gk, 4, none⟩ = some (.slice Uk 2 ck) := Tk.out.cell 4
 go_wp2_with fail
 rw [HLE6.out]
 replace TF := Lib.hid (TF.out.belowS HLB6.out)
 replace Tk := Lib.hid (Tk.out.belowS HLB6.out)
 replace Zk := Lib.hid (Zk.out.below HLB6.out (Nat.le_refl _))
 replace Xk := Lib.hid (Xk.out.below HLB6.out (Nat.le_refl _))
 replace Xp := Lib.hid (Xp.out.below HLB6.out (Nat.le_refl _))
 replace Xw := Lib.hid (Xw.out.below HLB6.out (Nat.le_refl _))
 replace HB := Lib.hid (bl_trans HB.out HLB6.out)
 refine (qa12_4 _ _ _ _ Zk.out Xk.out HL6.out).mono ?_
 rintro e y7 ⟨u, rfl, hx, hb7⟩
 clear cTk0 cTk1 cTk2 cTk3 cTk4
 replace TF := Lib.hid (TF.out.belowS hb7)
 replace Tk := Lib.hid (Tk.out.belowS hb7)
 replace Zk := Lib.hid (Zk.out.below hb7 (Nat.le_refl _))
 replace Xk := Lib.hid (Xk.out.below hb7 (Nat.le_refl _))
 replace Xp := Lib.hid (Xp.out.below hb7 (Nat.le_refl _))
 replace Xw := Lib.hid (Xw.out.below hb7 (Nat.le_refl _))
 replace HB := Lib.hid (bl_trans HB.out hb7)
 clear HL6 HLE6 HLB6
 obtain ⟨Um, cm, rfl, _⟩ := hx.out
 have Xm := Lib.hid hx.out; clear hx
 change Hid (SI _ (.slice Um 2 cm) _) at Xm
 have cTk0 : y7.cell? ⟨gk, 0, none⟩ = some (.int .i64 2) := Tk.out.cell 0
 have cTk1 : y7.cell? ⟨gk, 1, none⟩ = some (.int .i64 1) := Tk.out.cell 1
 have cTk2 : y7.cell? ⟨gk, 2, none⟩ = some (.slice Mk 0 mk) := Tk.out.cell 2
 have cTk3 : y7.cell? ⟨gk, 3, none⟩ = some (.int .i64 4) := Tk.out.cell 3
 have cTk4 : y7.cell? ⟨gk, 4, none⟩ = some (.slice Uk 2 ck) := Tk.out.cell 4
 go_wp2_with fail
 refine (qa12_5 _ _ _ Zk.out Xk.out).mono ?_
 rintro e y8 ⟨u, rfl, hx0, hb8⟩
 clear cTk0 cTk1 cTk2 cTk3 cTk4
 replace TF := Lib.hid (TF.out.belowS hb8)
 replace Tk := Lib.hid (Tk.out.belowS hb8)
 replace Zk := Lib.hid (Zk.out.below hb8 (Nat.le_refl _))
 replace Xk := Lib.hid (Xk.out.below hb8 (Nat.le_refl _))
 replace Xp := Lib.hid (Xp.out.below hb8 (Nat.le_refl _))
 replace Xw := Lib.hid (Xw.out.below hb8 (Nat.le_refl _))
 replace Xm := Lib.hid (Xm.out.below hb8 (Nat.le_refl _))
 replace HB := Lib.hid (bl_trans HB.out hb8)
 have hx1 := hx0.ss (by decide); clear hx0; obtain ⟨Ul, cl, rfl, _⟩ := id hx1; have Xl := Lib.hid hx1; clear hx1
 change Hid (SS _ (.slice Ul 4 cl) _) at Xl
 have cTk0 : y8.cell? ⟨gk, 0, none⟩ = some (.int .i64 2) := Tk.out.cell 0
 have cTk1 : y8.cell? ⟨gk, 1, none⟩ = some (.int .i64 1) := Tk.out.cell 1
 have cTk2 : y8.cell? ⟨gk, 2, none⟩ = some (.slice Mk 0 mk) := Tk.out.cell 2
 have cTk3 : y8.cell? ⟨gk, 3, none⟩ = some (.int .i64 4) := Tk.out.cell 3
 have cTk4 : y8.cell? ⟨gk, 4, none⟩ = some (.slice Uk 2 ck) := Tk.out.cell 4
 go_wp2_with fail
 refine (qa12_6 _ _ _ Zk.out Xk.out).mono ?_
 rintro e y9 ⟨u, g, rfl, hx, hb9⟩
 clear cTk0 cTk1 cTk2 cTk3 cTk4
 replace TF := Lib.hid (TF.out.belowS hb9)
 replace Tk := Lib.hid (Tk.out.belowS hb9)
 replace Zk := Lib.hid (Zk.out.below hb9 (Nat.le_refl _))
 replace Xk := Lib.hid (Xk.out.below hb9 (Nat.le_refl _))
 replace Xp := Lib.hid (Xp.out.below hb9 (Nat.le_refl _))
 replace Xw := Lib.hid (Xw.out.below hb9 (Nat.le_refl _))
 replace Xm := Lib.hid (Xm.out.below hb9 (Nat.le_refl _))
 replace Xl := Lib.hid (Xl.out.below hb9 (Nat.le_refl _))
 replace HB := Lib.hid (bl_trans HB.out hb9)
 obtain ⟨⟨Md, md, rfl, _⟩, ⟨Ud, cd, rfl, _⟩⟩ := hx.out
 have Zd := Lib.hid hx.out.1; have Xd := Lib.hid hx.out.2; clear hx
 try rw [show gG.length = 2 from rfl]
 change Hid (SI _ (.slice Md 0 md) _) at Zd
 change Hid (SS _ (.slice Ud 2 cd) _) at Xd
 go_upto_region 8 with fail
 obtain ⟨z9, gd, e1, e2, hbx, hbz⟩ := mk_box y9 27 [.int .i64 2, .int .i64 1, .slice Md 0 md, .int .i64 4, .slice Ud 2 cd]
 try simp only [List.length_nil, List.length_cons, Nat.zero_add, Nat.reduceAdd]
 rw [e1, e2]
 clear e1
 replace TF := Lib.hid (TF.out.belowS hbz)
 replace Tk := Lib.hid (Tk.out.belowS hbz)
 replace Zk := Lib.hid (Zk.out.below hbz (Nat.le_refl _))
 replace Xk := Lib.hid (Xk.out.below hbz (Nat.le_refl _))
 replace Xp := Lib.hid (Xp.out.below hbz (Nat.le_refl _))
 replace Xw := Lib.hid (Xw.out.below hbz (Nat.le_refl _))
 replace Xm := Lib.hid (Xm.out.below hbz (Nat.le_refl _))
 replace Xl := Lib.hid (Xl.out.below hbz (Nat.le_refl _))
 replace Zd := Lib.hid (Zd.out.below hbz (Nat.le_refl _))
 replace Xd := Lib.hid (Xd.out.below hbz (Nat.le_refl _))
 replace HB := Lib.hid (bl_trans HB.out hbz)
 have Td := Lib.hid hbx; clear hbx hbz e2
 obtain ⟨l10, el10, hl10, hlb10⟩ := lit12_row z9 [1, 0, 0, 0] (by decide) (by decide)
 simp only [List.map_cons, List.map_nil, List.length_cons, List.length_nil, Nat.zero_add, Nat.reduceAdd] at el10 hl10
 have HL10 := Lib.hid hl10; have HLE10 := Lib.hid el10; have HLB10 := Lib.hid hlb10; clear hl10 el10 hlb10
 have cTk0 : z9.cell? ⟨gk, 0, none⟩ = some (.int .i64 2) := Tk.out.cell 0
 have cTk1 : z9.cell? ⟨gk, 1, none⟩ = some (.int .i64 1) := Tk.out.cell 1
 have cTk2 : z9.cell? ⟨gk, 2, none⟩ = some (.slice Mk 0 mk) := Tk.out.cell 2
 have cTk3 : z9.cell? ⟨gk, 3, none⟩ = some (.int .i64 4) := Tk.out.cell 3
 have cTk4 : z9.cell? ⟨gk, 4, none⟩ = some (.slice Uk 2 ck) := Tk.out.cell 4
 go_wp2_with fail
 rw [HLE10.out]
 replace TF := Lib.hid (TF.out.belowS HLB10.out)
 replace Tk := Lib.hid (Tk.out.belowS HLB10.out)
 replace Td := Lib.hid (Td.out.belowS HLB10.out)
 replace Zk := Lib.hid (Zk.out.below HLB10.out (Nat.le_refl _))
 replace Xk := Lib.hid (Xk.out.below HLB10.out (Nat.le_refl _))
 replace Xp := Lib.hid (Xp.out.below HLB10.out (Nat.le_refl _))
 replace Xw := Lib.hid (Xw.out.below HLB10.out (Nat.le_refl _))
 replace Xm := Lib.hid (Xm.out.below HLB10.out (Nat.le_refl _))
 replace Xl := Lib.hid (Xl.out.below HLB10.out (Nat.le_refl _))
 replace Zd := Lib.hid (Zd.out.below HLB10.out (Nat.le_refl _))
 replace Xd := Lib.hid (Xd.out.below HLB10.out (Nat.le_refl _))
 replace HB := Lib.hid (bl_trans HB.out HLB10.out)
 refine (qa12_7 _ _ _ _ Zk.out Xk.out HL10.out).mono ?_
 rintro e y11 ⟨u, rfl, hx, hb11⟩
 clear cTk0 cTk1 cTk2 cTk3 cTk4
 replace TF := Lib.hid (TF.out.belowS hb11)
 replace Tk := Lib.hid (Tk.out.belowS hb11)
 replace Td := Lib.hid (Td.out.belowS hb11)
 replace Zk := Lib.hid (Zk.out.below hb11 (Nat.le_refl _))
 replace Xk := Lib.hid (Xk.out.below hb11 (Nat.le_refl _))
 replace Xp := Lib.hid (Xp.out.below hb11 (Nat.le_refl _))
 replace Xw := Lib.hid (Xw.out.below hb11 (Nat.le_refl _))
 replace Xm := Lib.hid (Xm.out.below hb11 (Nat.le_refl _))
 replace Xl := Lib.hid (Xl.out.below hb11 (Nat.le_refl _))
 replace Zd := Lib.hid (Zd.out.below hb11 (Nat.le_refl _))
 replace Xd := Lib.hid (Xd.out.below hb11 (Nat.le_refl _))
 replace HB := Lib.hid (bl_trans HB.out hb11)
 clear HL10 HLE10 HLB10
 obtain ⟨Us, cs, rfl, _⟩ := hx.out
 have Xs := Lib.hid hx.out; clear hx
 change Hid (SI _ (.slice Us 2 cs) _) at Xs
 have cTk0 : y11.cell? ⟨gk, 0, none⟩ = some (.int .i64 2) := Tk.out.cell 0
 have cTk1 : y11.cell? ⟨gk, 1, none⟩ = some (.int .i64 1) := Tk.out.cell 1
 have cTk2 : y11.cell? ⟨gk, 2, none⟩ = some (.slice Mk 0 mk) := Tk.out.cell 2
 have cTk3 : y11.cell? ⟨gk, 3, none⟩ = some (.int .i64 4) := Tk.out.cell 3
 have cTk4 : y11.cell? ⟨gk, 4, none⟩ = some (.slice Uk 2 ck) := Tk.out.cell 4
 go_wp2_with fail
 refine (qa12_8 _ _ _ Zk.out Xk.out).mono ?_
 rintro e y12 ⟨u, g, rfl, hx, hb12⟩
 clear cTk0 cTk1 cTk2 cTk3 cTk4
 replace TF := Lib.hid (TF.out.belowS hb12)
 replace Tk := Lib.hid (Tk.out.belowS hb12)
 replace Td := Lib.hid (Td.out.belowS hb12)
 replace Zk := Lib.hid (Zk.out.below hb12 (Nat.le_refl _))
 replace Xk := Lib.hid (Xk.out.below hb12 (Nat.le_refl _))
 replace Xp := Lib.hid (Xp.out.below hb12 (Nat.le_refl _))
 replace Xw := Lib.hid (Xw.out.below hb12 (Nat.le_refl _))
 replace Xm := Lib.hid (Xm.out.below hb12 (Nat.le_refl _))
 replace Xl := Lib.hid (Xl.out.below hb12 (Nat.le_refl _))
 replace Zd := Lib.hid (Zd.out.below hb12 (Nat.le_refl _))
 replace Xd := Lib.hid (Xd.out.below hb12 (Nat.le_refl _))
 replace Xs := Lib.hid (Xs.out.below hb12 (Nat.le_refl _))
 replace HB := Lib.hid (bl_trans HB.out hb12)
 obtain ⟨⟨Mu, mu, rfl, _⟩, ⟨Uu, cu, rfl, _⟩⟩ := hx.out
 have Zu := Lib.hid hx.out.1; have Xu := Lib.hid hx.out.2; clear hx
 try rw [show gG.length = 2 from rfl]
 change Hid (SI _ (.slice Mu 0 mu) _) at Zu
 change Hid (SS _ (.slice Uu 0 cu) _) at Xu
 go_upto_region 10 with fail
 obtain ⟨z12, gu, e1, e2, hbx, hbz⟩ := mk_box y12 27 [.int .i64 2, .int .i64 1, .slice Mu 0 mu, .int .i64 4, .slice Uu 0 cu]
 try simp only [List.length_nil, List.length_cons, Nat.zero_add, Nat.reduceAdd]
 rw [e1, e2]
 clear e1
 replace TF := Lib.hid (TF.out.belowS hbz)
 replace Tk := Lib.hid (Tk.out.belowS hbz)
 replace Td := Lib.hid (Td.out.belowS hbz)
 replace Zk := Lib.hid (Zk.out.below hbz (Nat.le_refl _))
 replace Xk := Lib.hid (Xk.out.below hbz (Nat.le_refl _))
 replace Xp := Lib.hid (Xp.out.below hbz (Nat.le_refl _))
 replace Xw := Lib.hid (Xw.out.below hbz (Nat.le_refl _))
 replace Xm := Lib.hid (Xm.out.below hbz (Nat.le_refl _))
 replace Xl := Lib.hid (Xl.out.below hbz (Nat.le_refl _))
 replace Zd := Lib.hid (Zd.out.below hbz (Nat.le_refl _))
 replace Xd := Lib.hid (Xd.out.below hbz (Nat.le_refl _))
 replace Xs := Lib.hid (Xs.out.below hbz (Nat.le_refl _))
 replace Zu := Lib.hid (Zu.out.below hbz (Nat.le_refl _))
 replace Xu := Lib.hid (Xu.out.below hbz (Nat.le_refl _))
 replace HB := Lib.hid (bl_trans HB.out hbz)
 have Tu := Lib.hid hbx; clear hbx hbz e2
 have cTk0 : z12.cell? ⟨gk, 0, none⟩ = some (.int .i64 2) := Tk.out.cell 0
 have cTk1 : z12.cell? ⟨gk, 1, none⟩ = some (.int .i64 1) := Tk.out.cell 1
 have cTk2 : z12.cell? ⟨gk, 2, none⟩ = some (.slice Mk 0 mk) := Tk.out.cell 2
 have cTk3 : z12.cell? ⟨gk, 3, none⟩ = some (.int .i64 4) := Tk.out.cell 3
 have cTk4 : z12.cell? ⟨gk, 4, none⟩ = some (.slice Uk 2 ck) := Tk.out.cell 4
 go_wp2_with fail
 refine (qa12_9 _ _ _ Zk.out Xk.out).mono ?_
 rintro e y13 ⟨rfl, hb13⟩
 clear cTk0 cTk1 cTk2 cTk3 cTk4
 replace TF := Lib.hid (TF.out.belowS hb13)
 replace Tk := Lib.hid (Tk.out.belowS hb13)
 replace Td := Lib.hid (Td.out.belowS hb13)
 replace Tu := Lib.hid (Tu.out.belowS hb13)
 replace Zk := Lib.hid (Zk.out.below hb13 (Nat.le_refl _))
 replace Xk := Lib.hid (Xk.out.below hb13 (Nat.le_refl _))
 replace Xp := Lib.hid (Xp.out.below hb13 (Nat.le_refl _))
 replace Xw := Lib.hid (Xw.out.below hb13 (Nat.le_refl _))
 replace Xm := Lib.hid (Xm.out.below hb13 (Nat.le_refl _))
 replace Xl := Lib.hid (Xl.out.below hb13 (Nat.le_refl _))
 replace Zd := Lib.hid (Zd.out.below hb13 (Nat.le_refl _))
 replace Xd := Lib.hid (Xd.out.below hb13 (Nat.le_refl _))
 replace Xs := Lib.hid (Xs.out.below hb13 (Nat.le_refl _))
 replace Zu := Lib.hid (Zu.out.below hb13 (Nat.le_refl _))
 replace Xu := Lib.hid (Xu.out.below hb13 (Nat.le_refl _))
 replace HB := Lib.hid (bl_trans HB.out hb13)
 obtain ⟨l14, el14, hl14, hlb14⟩ := lit12_rows2 y13 [1, 0, 1, 0] [0, 1, 1, 1] (by decide) (by decide) (by decide) (by decide)
 simp only [List.map_cons, List.map_nil, List.length_cons, List.length_nil, Nat.zero_add, Nat.reduceAdd] at el14 hl14
 have HL14 := Lib.hid hl14; have HLE14 := Lib.hid el14; have HLB14 := Lib.hid hlb14; clear hl14 el14 hlb14
 have cTk0 : y13.cell? ⟨gk, 0, none⟩ = some (.int .i64 2) := Tk.out.cell 0
 have cTk1 : y13.cell? ⟨gk, 1, none⟩ = some (.int .i64 1) := Tk.out.cell 1
 have cTk2 : y13.cell? ⟨gk, 2, none⟩ = some (.slice Mk 0 mk) := Tk.out.cell 2
 have cTk3 : y13.cell? ⟨gk, 3, none⟩ = some (.int .i64 4) := Tk.out.cell 3
 have cTk4 : y13.cell? ⟨gk, 4, none⟩ = some (.slice Uk 2 ck) := Tk.out.cell 4
 go_wp2_with fail
 rw [HLE14.out]
 replace TF := Lib.hid (TF.out.belowS HLB14.out)
 replace Tk := Lib.hid (Tk.out.belowS HLB14.out)
 replace Td := Lib.hid (Td.out.belowS HLB14.out)
 replace Tu := Lib.hid (Tu.out.belowS HLB14.out)
 replace Zk := Lib.hid (Zk.out.below HLB14.out (Nat.le_refl _))
 replace Xk := Lib.hid (Xk.out.below HLB14.out (Nat.le_refl _))
 replace Xp := Lib.hid (Xp.out.below HLB14.out (Nat.le_refl _))
 replace Xw := Lib.hid (Xw.out.below HLB14.out (Nat.le_refl _))
 replace Xm := Lib.hid (Xm.out.below HLB14.out (Nat.le_refl _))
 replace Xl := Lib.hid (Xl.out.below HLB14.out (Nat.le_refl _))
 replace Zd := Lib.hid (Zd.out.below HLB14.out (Nat.le_refl _))
 replace Xd := Lib.hid (Xd.out.below HLB14.out (Nat.le_refl _))
 replace Xs := Lib.hid (Xs.out.below HLB14.out (Nat.le_refl _))
 replace Zu := Lib.hid (Zu.out.below HLB14.out (Nat.le_refl _))
 replace Xu := Lib.hid (Xu.out.below HLB14.out (Nat.le_refl _))
 replace HB := Lib.hid (bl_trans HB.out HLB14.out)
 refine (srT _ _ _ _ _ Xk.out HL14.out rfl).mono ?_
 rintro e y15 ⟨rfl, hb15⟩
 clear cTk0 cTk1 cTk2 cTk3 cTk4
 replace TF := Lib.hid (TF.out.belowS hb15)
 replace Tk := Lib.hid (Tk.out.belowS hb15)
 replace Td := Lib.hid (Td.out.belowS hb15)
 replace Tu := Lib.hid (Tu.out.belowS hb15)
 replace Zk := Lib.hid (Zk.out.below hb15 (Nat.le_refl _))
 replace Xk := Lib.hid (Xk.out.below hb15 (Nat.le_refl _))
 replace Xp := Lib.hid (Xp.out.below hb15 (Nat.le_refl _))
 replace Xw := Lib.hid (Xw.out.below hb15 (Nat.le_refl _))
 replace Xm := Lib.hid (Xm.out.below hb15 (Nat.le_refl _))
 replace Xl := Lib.hid (Xl.out.below hb15 (Nat.le_refl _))
 replace Zd := Lib.hid (Zd.out.below hb15 (Nat.le_refl _))
 replace Xd := Lib.hid (Xd.out.below hb15 (Nat.le_refl _))
 replace Xs := Lib.hid (Xs.out.below hb15 (Nat.le_refl _))
 replace Zu := Lib.hid (Zu.out.below hb15 (Nat.le_refl _))
 replace Xu := Lib.hid (Xu.out.below hb15 (Nat.le_refl _))
 replace HB := Lib.hid (bl_trans HB.out hb15)
 clear HL14 HLE14 HLB14
 obtain ⟨l16, el16, hl16, hlb16⟩ := lit12_row y15 [0, 1] (by decide) (by decide)
 simp only [List.map_cons, List.map_nil, List.length_cons, List.length_nil, Nat.zero_add, Nat.reduceAdd] at el16 hl16
 have HL16 := Lib.hid hl16; have HLE16 := Lib.hid el16; have HLB16 := Lib.hid hlb16; clear hl16 el16 hlb16
 go_wp2_with fail
 rw [HLE16.out]
 replace TF := Lib.hid (TF.out.belowS HLB16.out)
 replace Tk := Lib.hid (Tk.out.belowS HLB16.out)
 replace Td := Lib.hid (Td.out.belowS HLB16.out)
 replace Tu := Lib.hid (Tu.out.belowS HLB16.out)
 replace Zk := Lib.hid (Zk.out.below HLB16.out (Nat.le_refl _))
 replace Xk := Lib.hid (Xk.out.below HLB16.out (Nat.le_refl _))
 replace Xp := Lib.hid (Xp.out.below HLB16.out (Nat.le_refl _))
 replace Xw := Lib.hid (Xw.out.below HLB16.out (Nat.le_refl _))
 replace Xm := Lib.hid (Xm.out.below HLB16.out (Nat.le_refl _))
 replace Xl := Lib.hid (Xl.out.below HLB16.out (Nat.le_refl _))
 replace Zd := Lib.hid (Zd.out.below HLB16.out (Nat.le_refl _))
 replace Xd := Lib.hid (Xd.out.below HLB16.out (Nat.le_refl _))
 replace Xs := Lib.hid (Xs.out.below HLB16.out (Nat.le_refl _))
 replace Zu := Lib.hid (Zu.out.below HLB16.out (Nat.le_refl _))
 replace Xu := Lib.hid (Xu.out.below HLB16.out (Nat.le_refl _))
 replace HB := Lib.hid (bl_trans HB.out HLB16.out)
 refine (siT _ _ _ _ _ Xp.out HL16.out rfl).mono ?_
 rintro e y17 ⟨rfl, hb17⟩
 replace TF := Lib.hid (TF.out.belowS hb17)
 replace Tk := Lib.hid (Tk.out.belowS hb17)
 replace Td := Lib.hid (Td.out.belowS hb17)
 replace Tu := Lib.hid (Tu.out.belowS hb17)
 replace Zk := Lib.hid (Zk.out.below hb17 (Nat.le_refl _))
 replace Xk := Lib.hid (Xk.out.below hb17 (Nat.le_refl _))
 replace Xp := Lib.hid (Xp.out.below hb17 (Nat.le_refl _))
 replace Xw := Lib.hid (Xw.out.below hb17 (Nat.le_refl _))
 replace Xm := Lib.hid (Xm.out.below hb17 (Nat.le_refl _))
 replace Xl := Lib.hid (Xl.out.below hb17 (Nat.le_refl _))
 replace Zd := Lib.hid (Zd.out.below hb17 (Nat.le_refl _))
 replace Xd := Lib.hid (Xd.out.below hb17 (Nat.le_refl _))
 replace Xs := Lib.hid (Xs.out.below hb17 (Nat.le_refl _))
 replace Zu := Lib.hid (Zu.out.below hb17 (Nat.le_refl _))
 replace Xu := Lib.hid (Xu.out.below hb17 (Nat.le_refl _))
 replace HB := Lib.hid (bl_trans HB.out hb17)
 clear HL16 HLE16 HLB16
 obtain ⟨l18, el18, hl18, hlb18⟩ := lit12_row y17 [1, 1, 0, 1] (by decide) (by decide)
 simp only [List.map_cons, List.map_nil, List.length_cons, List.length_nil, Nat.zero_add, Nat.reduceAdd] at el18 hl18
 have HL18 := Lib.hid hl18; have HLE18 := Lib.hid el18; have HLB18 := Lib.hid hlb18; clear hl18 el18 hlb18
 go_wp2_with fail
 rw [HLE18.out]
 replace TF := Lib.hid (TF.out.belowS HLB18.out)
 replace Tk := Lib.hid (Tk.out.belowS HLB18.out)
 replace Td := Lib.hid (Td.out.belowS HLB18.out)
 replace Tu := Lib.hid (Tu.out.belowS HLB18.out)
 replace Zk := Lib.hid (Zk.out.below HLB18.out (Nat.le_refl _))
 replace Xk := Lib.hid (Xk.out.below HLB18.out (Nat.le_refl _))
 replace Xp := Lib.hid (Xp.out.below HLB18.out (Nat.le_refl _))
 replace Xw := Lib.hid (Xw.out.below HLB18.out (Nat.le_refl _))
 replace Xm := Lib.hid (Xm.out.below HLB18.out (Nat.le_refl _))
 replace Xl := Lib.hid (Xl.out.below HLB18.out (Nat.le_refl _))
 replace Zd := Lib.hid (Zd.out.below HLB18.out (Nat.le_refl _))
 replace Xd := Lib.hid (Xd.out.below HLB18.out (Nat.le_refl _))
 replace Xs := Lib.hid (Xs.out.below HLB18.out (Nat.le_refl _))
 replace Zu := Lib.hid (Zu.out.below HLB18.out (Nat.le_refl _))
 replace Xu := Lib.hid (Xu.out.below HLB18.out (Nat.le_refl _))
 replace HB := Lib.hid (bl_trans HB.out HLB18.out)
 refine (siT _ _ _ _ _ Xw.out HL18.out rfl).mono ?_
 rintro e y19 ⟨rfl, hb19⟩
 replace TF := Lib.hid (TF.out.belowS hb19)
 replace Tk := Lib.hid (Tk.out.belowS hb19)
 replace Td := Lib.hid (Td.out.belowS hb19)
 replace Tu := Lib.hid (Tu.out.belowS hb19)
 replace Zk := Lib.hid (Zk.out.below hb19 (Nat.le_refl _))
 replace Xk := Lib.hid (Xk.out.below hb19 (Nat.le_refl _))
 replace Xp := Lib.hid (Xp.out.below hb19 (Nat.le_refl _))
 replace Xw := Lib.hid (Xw.out.below hb19 (Nat.le_refl _))
 replace Xm := Lib.hid (Xm.out.below hb19 (Nat.le_refl _))
 replace Xl := Lib.hid (Xl.out.below hb19 (Nat.le_refl _))
 replace Zd := Lib.hid (Zd.out.below hb19 (Nat.le_refl _))
 replace Xd := Lib.hid (Xd.out.below hb19 (Nat.le_refl _))
 replace Xs := Lib.hid (Xs.out.below hb19 (Nat.le_refl _))
 replace Zu := Lib.hid (Zu.out.below hb19 (Nat.le_refl _))
 replace Xu := Lib.hid (Xu.out.below hb19 (Nat.le_refl _))
 replace HB := Lib.hid (bl_trans HB.out hb19)
 clear HL18 HLE18 HLB18
 obtain ⟨l20, el20, hl20, hlb20⟩ := lit12_row y19 [1, 0] (by decide) (by decide)
 simp only [List.map_cons, List.map_nil, List.length_cons, List.length_nil, Nat.zero_add, Nat.reduceAdd] at el20 hl20
 have HL20 := Lib.hid hl20; have HLE20 := Lib.hid el20; have HLB20 := Lib.hid hlb20; clear hl20 el20 hlb20
 go_wp2_with fail
 rw [HLE20.out]
 replace TF := Lib.hid (TF.out.belowS HLB20.out)
 replace Tk := Lib.hid (Tk.out.belowS HLB20.out)
 replace Td := Lib.hid (Td.out.belowS HLB20.out)
 replace Tu := Lib.hid (Tu.out.belowS HLB20.out)
 replace Zk := Lib.hid (Zk.out.below HLB20.out (Nat.le_refl _))
 replace Xk := Lib.hid (Xk.out.below HLB20.out (Nat.le_refl _))
 replace Xp := Lib.hid (Xp.out.below HLB20.out (Nat.le_refl _))
 replace Xw := Lib.hid (Xw.out.below HLB20.out (Nat.le_refl _))
 replace Xm := Lib.hid (Xm.out.below HLB20.out (Nat.le_refl _))
 replace Xl := Lib.hid (Xl.out.below HLB20.out (Nat.le_refl _))
 replace Zd := Lib.hid (Zd.out.below HLB20.out (Nat.le_refl _))
 replace Xd := Lib.hid (Xd.out.below HLB20.out (Nat.le_refl _))
 replace Xs := Lib.hid (Xs.out.below HLB20.out (Nat.le_refl _))
 replace Zu := Lib.hid (Zu.out.below HLB20.out (Nat.le_refl _))
 replace Xu := Lib.hid (Xu.out.below HLB20.out (Nat.le_refl _))
 replace HB := Lib.hid (bl_trans HB.out HLB20.out)
 refine (siT _ _ _ _ _ Xm.out HL20.out rfl).mono ?_
 rintro e y21 ⟨rfl, hb21⟩
 replace TF := Lib.hid (TF.out.belowS hb21)
 replace Tk := Lib.hid (Tk.out.belowS hb21)
 replace Td := Lib.hid (Td.out.belowS hb21)
 replace Tu := Lib.hid (Tu.out.belowS hb21)
 replace Zk := Lib.hid (Zk.out.below hb21 (Nat.le_refl _))
 replace Xk := Lib.hid (Xk.out.below hb21 (Nat.le_refl _))
 replace Xp := Lib.hid (Xp.out.below hb21 (Nat.le_refl _))
 replace Xw := Lib.hid (Xw.out.below hb21 (Nat.le_refl _))
 replace Xm := Lib.hid (Xm.out.below hb21 (Nat.le_refl _))
 replace Xl := Lib.hid (Xl.out.below hb21 (Nat.le_refl _))
 replace Zd := Lib.hid (Zd.out.below hb21 (Nat.le_refl _))
 replace Xd := Lib.hid (Xd.out.below hb21 (Nat.le_refl _))
 replace Xs := Lib.hid (Xs.out.below hb21 (Nat.le_refl _))
 replace Zu := Lib.hid (Zu.out.below hb21 (Nat.le_refl _))
 replace Xu := Lib.hid (Xu.out.below hb21 (Nat.le_refl _))
 replace HB := Lib.hid (bl_trans HB.out hb21)
 clear HL20 HLE20 HLB20
 obtain ⟨l22, el22, hl22, hlb22⟩ := lit12_rows4 y21 [0, 0, 0, 0] [0, 1, 1, 1] [1, 0, 1, 0] [1, 1, 0, 1] (by decide) (by decide) (by decide) (by decide) (by decide) (by decide) (by decide) (by decide)
 simp only [List.map_cons, List.map_nil, List.length_cons, List.length_nil, Nat.zero_add, Nat.reduceAdd] at el22 hl22
 have HL22 := Lib.hid hl22; have HLE22 := Lib.hid el22; have HLB22 := Lib.hid hlb22; clear hl22 el22 hlb22
 go_wp2_with fail
 rw [HLE22.out]
 replace TF := Lib.hid (TF.out.belowS HLB22.out)
 replace Tk := Lib.hid (Tk.out.belowS HLB22.out)
 replace Td := Lib.hid (Td.out.belowS HLB22.out)
 replace Tu := Lib.hid (Tu.out.belowS HLB22.out)
 replace Zk := Lib.hid (Zk.out.below HLB22.out (Nat.le_refl _))
 replace Xk := Lib.hid (Xk.out.below HLB22.out (Nat.le_refl _))
 replace Xp := Lib.hid (Xp.out.below HLB22.out (Nat.le_refl _))
 replace Xw := Lib.hid (Xw.out.below HLB22.out (Nat.le_refl _))
 replace Xm := Lib.hid (Xm.out.below HLB22.out (Nat.le_refl _))
 replace Xl := Lib.hid (Xl.out.below HLB22.out (Nat.le_refl _))
 replace Zd := Lib.hid (Zd.out.below HLB22.out (Nat.le_refl _))
 replace Xd := Lib.hid (Xd.out.below HLB22.out (Nat.le_refl _))
 replace Xs := Lib.hid (Xs.out.below HLB22.out (Nat.le_refl _))
 replace Zu := Lib.hid (Zu.out.below HLB22.out (Nat.le_refl _))
 replace Xu := Lib.hid (Xu.out.below HLB22.out (Nat.le_refl _))
 replace HB := Lib.hid (bl_trans HB.out HLB22.out)
 refine (srT _ _ _ _ _ Xl.out HL22.out rfl).mono ?_
 rintro e y23 ⟨rfl, hb23⟩
 replace TF := Lib.hid (TF.out.belowS hb23)
 replace Tk := Lib.hid (Tk.out.belowS hb23)
 replace Td := Lib.hid (Td.out.belowS hb23)
 replace Tu := Lib.hid (Tu.out.belowS hb23)
 replace Zk := Lib.hid (Zk.out.below hb23 (Nat.le_refl _))
 replace Xk := Lib.hid (Xk.out.below hb23 (Nat.le_refl _))
 replace Xp := Lib.hid (Xp.out.below hb23 (Nat.le_refl _))
 replace Xw := Lib.hid (Xw.out.below hb23 (Nat.le_refl _))
 replace Xm := Lib.hid (Xm.out.below hb23 (Nat.le_refl _))
 replace Xl := Lib.hid (Xl.out.below hb23 (Nat.le_refl _))
 replace Zd := Lib.hid (Zd.out.below hb23 (Nat.le_refl _))
 replace Xd := Lib.hid (Xd.out.below hb23 (Nat.le_refl _))
 replace Xs := Lib.hid (Xs.out.below hb23 (Nat.le_refl _))
 replace Zu := Lib.hid (Zu.out.below hb23 (Nat.le_refl _))
 replace Xu := Lib.hid (Xu.out.below hb23 (Nat.le_refl _))
 replace HB := Lib.hid (bl_trans HB.out hb23)
 clear HL22 HLE22 HLB22
 obtain ⟨l24, el24, hl24, hlb24⟩ := lit12_rows2 y23 [1, 0, 1, 1] [0, 1, 0, 1] (by decide) (by decide) (by decide) (by decide)
 simp only [List.map_cons, List.map_nil, List.length_cons, List.length_nil, Nat.zero_add, Nat.reduceAdd] at el24 hl24
 have HL24 := Lib.hid hl24; have HLE24 := Lib.hid el24; have HLB24 := Lib.hid hlb24; clear hl24 el24 hlb24
 have cTd0 : y23.cell? ⟨gd, 0, none⟩ = some (.int .i64 2) := Td.out.cell 0
 have cTd1 : y23.cell? ⟨gd, 1, none⟩ = some (.int .i64 1) := Td.out.cell 1
 have cTd2 : y23.cell? ⟨gd, 2, none⟩ = some (.slice Md 0 md) := Td.out.cell 2
 have cTd3 : y23.cell? ⟨gd, 3, none⟩ = some (.int .i64 4) := Td.out.cell 3
 have cTd4 : y23.cell? ⟨gd, 4, none⟩ = some (.slice Ud 2 cd) := Td.out.cell 4
 go_wp2_with fail
 rw [HLE24.out]
 replace TF := Lib.hid (TF.out.belowS HLB24.out)
 replace Tk := Lib.hid (Tk.out.belowS HLB24.out)
 replace Td := Lib.hid (Td.out.belowS HLB24.out)
 replace Tu := Lib.hid (Tu.out.belowS HLB24.out)
 replace Zk := Lib.hid (Zk.out.below HLB24.out (Nat.le_refl _))
 replace Xk := Lib.hid (Xk.out.below HLB24.out (Nat.le_refl _))
 replace Xp := Lib.hid (Xp.out.below HLB24.out (Nat.le_refl _))
 replace Xw := Lib.hid (Xw.out.below HLB24.out (Nat.le_refl _))
 replace Xm := Lib.hid (Xm.out.below HLB24.out (Nat.le_refl _))
 replace Xl := Lib.hid (Xl.out.below HLB24.out (Nat.le_refl _))
 replace Zd := Lib.hid (Zd.out.below HLB24.out (Nat.le_refl _))
 replace Xd := Lib.hid (Xd.out.below HLB24.out (Nat.le_refl _))
 replace Xs := Lib.hid (Xs.out.below HLB24.out (Nat.le_refl _))
 replace Zu := Lib.hid (Zu.out.below HLB24.out (Nat.le_refl _))
 replace Xu := Lib.hid (Xu.out.below HLB24.out (Nat.le_refl _))
 replace HB := Lib.hid (bl_trans HB.out HLB24.out)
 refine (srT _ _ _ _ _ Xd.out HL24.out rfl).mono ?_
 rintro e y25 ⟨rfl, hb25⟩
 clear cTd0 cTd1 cTd2 cTd3 cTd4
 replace TF := Lib.hid (TF.out.belowS hb25)
 replace Tk := Lib.hid (Tk.out.belowS hb25)
 replace Td := Lib.hid (Td.out.belowS hb25)
 replace Tu := Lib.hid (Tu.out.belowS hb25)
 replace Zk := Lib.hid (Zk.out.below hb25 (Nat.le_refl _))
 replace Xk := Lib.hid (Xk.out.below hb25 (Nat.le_refl _))
 replace Xp := Lib.hid (Xp.out.below hb25 (Nat.le_refl _))
 replace Xw := Lib.hid (Xw.out.below hb25 (Nat.le_refl _))
 replace Xm := Lib.hid (Xm.out.below hb25 (Nat.le_refl _))
 replace Xl := Lib.hid (Xl.out.below hb25 (Nat.le_refl _))
 replace Zd := Lib.hid (Zd.out.below hb25 (Nat.le_refl _))
 replace Xd := Lib.hid (Xd.out.below hb25 (Nat.le_refl _))
 replace Xs := Lib.hid (Xs.out.below hb25 (Nat.le_refl _))
 replace Zu := Lib.hid (Zu.out.below hb25 (Nat.le_refl _))
 replace Xu := Lib.hid (Xu.out.below hb25 (Nat.le_refl _))
 replace HB := Lib.hid (bl_trans HB.out hb25)
 clear HL24 HLE24 HLB24
 obtain ⟨l26, el26, hl26, hlb26⟩ := lit12_row y25 [1, 0] (by decide) (by decide)
 simp only [List.map_cons, List.map_nil, List.length_cons, List.length_nil, Nat.zero_add, Nat.reduceAdd] at el26 hl26
 have HL26 := Lib.hid hl26; have HLE26 := Lib.hid el26; have HLB26 := Lib.hid hlb26; clear hl26 el26 hlb26
 go_wp2_with fail
 rw [HLE26.out]
 replace TF := Lib.hid (TF.out.belowS HLB26.out)
 replace Tk := Lib.hid (Tk.out.belowS HLB26.out)
 replace Td := Lib.hid (Td.out.belowS HLB26.out)
 replace Tu := Lib.hid (Tu.out.belowS HLB26.out)
 replace Zk := Lib.hid (Zk.out.below HLB26.out (Nat.le_refl _))
 replace Xk := Lib.hid (Xk.out.below HLB26.out (Nat.le_refl _))
 replace Xp := Lib.hid (Xp.out.below HLB26.out (Nat.le_refl _))
 replace Xw := Lib.hid (Xw.out.below HLB26.out (Nat.le_refl _))
 replace Xm := Lib.hid (Xm.out.below HLB26.out (Nat.le_refl _))
 replace Xl := Lib.hid (Xl.out.below HLB26.out (Nat.le_refl _))
 replace Zd := Lib.hid (Zd.out.below HLB26.out (Nat.le_refl _))
 replace Xd := Lib.hid (Xd.out.below HLB26.out (Nat.le_refl _))
 replace Xs := Lib.hid (Xs.out.below HLB26.out (Nat.le_refl _))
 replace Zu := Lib.hid (Zu.out.below HLB26.out (Nat.le_refl _))
 replace Xu := Lib.hid (Xu.out.below HLB26.out (Nat.le_refl _))
 replace HB := Lib.hid (bl_trans HB.out HLB26.out)
 refine (siT _ _ _ _ _ Xs.out HL26.out rfl).mono ?_
 rintro e y27 ⟨rfl, hb27⟩
 replace TF := Lib.hid (TF.out.belowS hb27)
 replace Tk := Lib.hid (Tk.out.belowS hb27)
 replace Td := Lib.hid (Td.out.belowS hb27)
 replace Tu := Lib.hid (Tu.out.belowS hb27)
 replace Zk := Lib.hid (Zk.out.below hb27 (Nat.le_refl _))
 replace Xk := Lib.hid (Xk.out.below hb27 (Nat.le_refl _))
 replace Xp := Lib.hid (Xp.out.below hb27 (Nat.le_refl _))
 replace Xw := Lib.hid (Xw.out.below hb27 (Nat.le_refl _))
 replace Xm := Lib.hid (Xm.out.below hb27 (Nat.le_refl _))
 replace Xl := Lib.hid (Xl.out.below hb27 (Nat.le_refl _))
 replace Zd := Lib.hid (Zd.out.below hb27 (Nat.le_refl _))
 replace Xd := Lib.hid (Xd.out.below hb27 (Nat.le_refl _))
 replace Xs := Lib.hid (Xs.out.below hb27 (Nat.le_refl _))
 replace Zu := Lib.hid (Zu.out.below hb27 (Nat.le_refl _))
 replace Xu := Lib.hid (Xu.out.below hb27 (Nat.le_refl _))
 replace HB := Lib.hid (bl_trans HB.out hb27)
 clear HL26 HLE26 HLB26
 have cTu0 : y27.cell? ⟨gu, 0, none⟩ = some (.int .i64 2) := Tu.out.cell 0
 have cTu1 : y27.cell? ⟨gu, 1, none⟩ = some (.int .i64 1) := Tu.out.cell 1
 have cTu2 : y27.cell? ⟨gu, 2, none⟩ = some (.slice Mu 0 mu) := Tu.out.cell 2
 have cTu3 : y27.cell? ⟨gu, 3, none⟩ = some (.int .i64 4) := Tu.out.cell 3
 have cTu4 : y27.cell? ⟨gu, 4, none⟩ = some (.slice Uu 0 cu) := Tu.out.cell 4
 go_wp2_with fail
 go_ret
 exact ⟨rfl, HB.out⟩
end Go.Proofs.YtlofhnmpbpjigaaGreat
