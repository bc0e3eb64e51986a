/- Texts of a claim, merged: words, plain facts and walks that the last of its texts uses. -/
import Derived.Test.YtodgdoglhecolaaGreatZA2
import Derived.Test.YtodgdoglhecolaaGreatZA8
import Derived.Test.YtodgdoglhecolaaGreatZA14
import Derived.Test.YtodgdoglhecolaaGreatZA15
import Derived.Shelf.Abstract
import Derived.Shelf.RegionOpen
import Derived.WalkKit
import Derived.OwnWalkIn
import Derived.TacticsInMore
set_option linter.unusedSimpArgs false
set_option linter.unusedVariables false

namespace Go.Proofs.YtodgdoglhecolaaGreat
open Go.RowKit
set_option maxRecDepth 100000
structure CDat (w : World) (Kp : Nat → Prop) (cb : Nat) (P M : Int) (mv : Value) (n : Int) (gv : Value) (Mod : List Int) (gen : List (List Int)) : Prop where
 at_ : ∀ W, w.heap.size ≤ W.heap.size → (∀ i, Kp i → W.heap[i]? = w.heap[i]?) → Blk W cb 34 [.int .i64 P, .int .i64 M, mv, .int .i64 n, gv] ∧ SI W mv Mod ∧ SS W gv gen
 lt : ∀ i, Kp i → i < w.heap.size
theorem mk_rowDW (w : World) (n : Nat) : ∃ w' g, (w.alloc (.cells (madeCells #[.int .i64 0] n) 3)).drew = w' ∧ w.heap.size = g ∧ RI w' g (List.replicate n 0) ∧ Below w.heap.size w w' :=
 ⟨_, _, rfl, rfl, RI.made w n, bl_trans (bl_alloc w _) (bl_drew _)⟩
theorem threeBoxes (w : World) (t1 t2 t3 : TypeId) (v1 v2 v3 : Value) : ∃ w3, ((w.alloc (.cells #[v1] t1)).alloc (.cells #[v2] t2)).alloc (.cells #[v3] t3) = w3 ∧ Blk w3 w.heap.size t1 [v1] ∧ Blk w3 (w.heap.size + 1) t2 [v2] ∧ Blk w3 (w.heap.size + 1 + 1) t3 [v3] ∧ Below w.heap.size w w3 := by
 refine ⟨_, rfl, ((Blk.new w t1 [v1]).alloc _).alloc _, ?_, ?_, bl_trans (bl_trans (bl_alloc w _) (bl_alloc _ _)) (bl_alloc _ _)⟩
 ·have := (Blk.new (w.alloc (.cells #[v1] t1)) t2 [v2]).alloc (.cells #[v3] t3)
  rwa [World.size_alloc] at this
 ·have := Blk.new ((w.alloc (.cells #[v1] t1)).alloc (.cells #[v2] t2)) t3 [v3]
  rwa [World.size_alloc, World.size_alloc] at this
theorem fromPost_b {Wz : World} {Dp Kp : Nat → Prop} {ba n t' : Nat} {J Jx : Nat → (Nat → Prop) → World → Prop} {X : Nat → Prop} {W W' : World} {e : Ending} (h : FromPost Wz Dp Kp ba J Jx n t' X W e W') :
  ∃ b, e = .returned (.bool b) ∧ (b = true → ∃ X', WS Wz Dp Kp ba J t' X' W') ∧ (b = false → ∃ k X', k < n ∧ Jx (k + 1) X' W') := by
 rcases h with ⟨rfl, X', h, _⟩ | ⟨rfl, h⟩
 ·exact ⟨true, rfl, fun _ => ⟨X', h⟩, (fun h => nomatch h)⟩
 ·exact ⟨false, rfl, (fun h => nomatch h), fun _ => h⟩
set_option maxHeartbeats 32000000 in
theorem walk_seq {w : World} {Kp : Nat → Prop} {cb N q : Nat} {P M : Int} {mv gv : Value} {Mod : List Int} {gen : List (List Int)} (hC : CDat w Kp cb P M mv (N : Int) gv Mod gen) (hc : codeE P M Mod N gen = 0) (hq : orderF P M = (q : Int)) (hLb : q ^ gen.length ≤ 1000000) :
  SeqZ Fence.wide 3 Tryz.prog 68 #[.pointer (some ⟨cb, 0, none⟩)] (wordsL (refOps P M Mod) q N gen) Kp w := by
 intro l J Jx X W hbW rJ rJx hY h0
 refine callsIn_wide.2 ?_
 show Calls Tryz.prog _ #[.func (.yield l) #[] #[], .pointer (some ⟨cb, 0, none⟩)] W _
 obtain ⟨hf, hn1, hn2, hgl, hR, hcan⟩ := codeE_zero hc
 obtain ⟨GA, gc, rfl, _⟩ := (hC.at_ w (Nat.le_refl _) fun _ _ => rfl).2.2
 have HWW := Lib.hid hbW
 rw [Int.toNat_natCast, hq] at hR
 have HAT : Hid (∀ W', Below W.heap.size W W' → Blk W' cb 34 [.int .i64 P, .int .i64 M, mv, .int .i64 (N : Int), .slice GA gen.length gc] ∧ SI W' mv Mod ∧ SS W' (.slice GA gen.length gc) gen) := hid' fun W' hb => hC.at_ W' (Nat.le_trans hbW.size hb.size) fun i hi => by
  have h1 := hC.lt i hi
  rw [hb.block i (Nat.lt_of_lt_of_le h1 hbW.size), hbW.block i h1]
 have HCK := Lib.hid (fun (w' : World) (h1 : SI w' mv Mod) (h2 : SS w' (.slice GA gen.length gc) gen) => cCheck_any w' P M N mv _ Mod gen h1 h2)
 rw [hc] at HCK
 have HNW := Lib.hid (fun (w' : World) (h1 : SI w' mv Mod) => new_ok w' P M mv Mod h1 hf)
 obtain ⟨w0, b0, e1, e2, hbx0, hb0⟩ := mk_box W 89 [.func (.yield l) #[] #[]]
 have HE1 := Lib.hid e1; have HBX0 := Lib.hid hbx0; have HB0 := Lib.hid hb0; have HE2 := Lib.hid e2
 have HCC := Lib.hid hC; have HH0 := Lib.hid h0; have HRJ := Lib.hid rJ; have HYY := Lib.hid hY
 clear e1 e2 hbx0 hb0 hC hbW rJ rJx hY h0
 go_enter Tryz.func68, Tryz.ntmps68
 go_upto_region 1 with fail
 rw [HE1.out, HE2.out]
 clear HE1
 obtain ⟨t0, h1, h2⟩ := HAT.out w0 HB0.out
 have HM0 := Lib.hid h1; have HG0 := Lib.hid h2
 obtain ⟨c0, c1, c2, c3, c4, _⟩ := t0.five
 clear h1 h2 t0
 go_wp2_with fail
 refine (HCK.out w0 HM0.out HG0.out).mono ?_
 rintro e w1 ⟨rfl, hb1⟩
 have HB1 := Lib.hid (bl_trans HB0.out hb1); have HBX1 := Lib.hid (HBX0.out.belowS hb1)
 clear hb1 c0 c1 c2 c3 c4
 obtain ⟨t0, h1, h2⟩ := HAT.out w1 HB1.out
 have HM1 := Lib.hid h1
 obtain ⟨c0, c1, c2, c3, c4, _⟩ := t0.five
 clear h1 h2 t0
 go_wp2_with fail
 refine (HNW.out w1 HM1.out).mono ?_
 rintro e w2 ⟨a, rfl, hsep, hb2⟩
 have HSEP := Lib.hid hsep; have HB2 := Lib.hid (bl_trans HB1.out hb2); have HBX2 := Lib.hid (HBX1.out.belowS hb2)
 have HS12 := Lib.hid (show W.heap.size ≤ w1.heap.size from HB1.out.size)
 clear hsep hb2 c0 c1 c2 c3 c4
 go_upto_region 6 with fail
 obtain ⟨bg, hbg⟩ : ∃ bg, bg = w2.heap.size := ⟨_, rfl⟩
 obtain ⟨w3, e3, hT1, hT2, hT3, hb3⟩ := threeBoxes w2 84 3 89 (.pointer (some ⟨a, 0, none⟩)) (.int .i64 0) (.func (.func 69) #[] #[.pointer (some ⟨cb, 0, none⟩), .pointer (some ⟨w2.heap.size + 1, 0, none⟩), .pointer (some ⟨b0, 0, none⟩), .pointer (some ⟨w2.heap.size, 0, none⟩), .pointer (some ⟨w2.heap.size + 1 + 1, 0, none⟩)])
 rw [e3]
 rw [← hbg] at hT1 hT2 hT3 ⊢
 have hsz3 := hT3.lt
 have hs2 := HB2.out.size
 have hB03 : b0 < w2.heap.size := HBX2.out.lt
 have HB3 := Lib.hid (bl_trans HB2.out hb3)
 have HBX3 := Lib.hid (HBX2.out.belowS hb3)
 obtain ⟨Dp, hDp⟩ : ∃ Dp : Nat → Prop, Dp = fun i => Kp i ∨ (W.heap.size ≤ i ∧ i < w3.heap.size ∧ i ≠ bg + 1) := ⟨_, rfl⟩
 have hdI : ∀ {W' : World}, Hd w3 Dp W' → ∀ {i}, W.heap.size ≤ i → i < w3.heap.size → i ≠ bg + 1 → W'.heap[i]? = w3.heap[i]? := fun {W'} h {i} h1 h2 h3 => h.2 i (by rw [hDp]; exact .inr ⟨h1, h2, h3⟩)
 have hdK : ∀ {W' : World}, Hd w3 Dp W' → w.heap.size ≤ W'.heap.size ∧ ∀ i, Kp i → W'.heap[i]? = w.heap[i]? := fun {W'} h => by
  refine ⟨Nat.le_trans HWW.out.size (Nat.le_trans HB3.out.size h.1), fun i hi => ?_⟩
  have h1 := HCC.out.lt i hi
  have h2 := HWW.out.size
  rw [h.2 i (by rw [hDp]; exact .inl hi), HB3.out.block i (by omega), HWW.out.block i h1]
 have HWD : Hid (WD w3 Dp P M Mod gen GA gen.length gc cb (bg + 1) b0 bg (bg + 1 + 1) a l) := hid' {
  c4 := fun W' h => ((HCC.out.at_ W' (hdK h).1 (hdK h).2).1).cell 4
  gn := fun W' h => (HCC.out.at_ W' (hdK h).1 (hdK h).2).2.2
  yl := fun W' h => by
   have : Blk W' b0 89 [.func (.yield l) #[] #[]] := (hdI h (by rw [HE2.out]; exact Nat.le_refl _) (by have := HBX3.out.lt; omega) (by omega)).trans HBX3.out
   exact this.cell 0
  gp := fun W' h => by
   have : Blk W' bg 84 [.pointer (some ⟨a, 0, none⟩)] := (hdI h (by omega) (by have := hT1.lt; omega) (by omega)).trans hT1
   exact this.cell 0
  gf := fun W' h => HSEP.out W' fun p h1 h2 => by
   have h3 := HS12.out
   have h4 : W'.heap[p.block]? = w2.heap[p.block]? := by rw [hdI h (by omega) (by omega) (by omega), hb3.block _ h2]
   exact World.cell?_of_block h4
  fr := fun W' h => by
   have : Blk W' (bg + 1 + 1) 89 _ := (hdI h (by omega) (by omega) (by omega)).trans hT3
   exact this.cell 0
  nb := by
   rw [hDp]
   rintro (h | h)
   ·have := HCC.out.lt _ h; have := HWW.out.size; omega
   ·exact h.2.2 rfl
  lt := fun i hi => by
   rw [hDp] at hi
   rcases hi with h | h
   ·have := HCC.out.lt _ h; have := HWW.out.size; omega
   ·exact h.2.1 }
 have HWS : Hid (∀ W', Below w3.heap.size w3 W' → WS w3 Dp Kp (bg + 1) J 0 X W') := hid' fun W' hb => {
  hd := ⟨hb.size, fun i hi => hb.block i (HWD.out.lt i hi)⟩
  at_ := hT2.belowS hb
  j := HRJ.out.on _ _ _ _ HH0.out ((bel_off (X := fun _ => False) (bl_trans HB3.out hb)).on fun i hi => ⟨HRJ.out.lt _ _ _ HH0.out i hi, fun k => k⟩)
  nx := fun i hi => by
   rw [hDp] at hi
   rcases hi with h | h
   ·exact .inl h
   ·refine .inr fun hx => ?_
    have := HRJ.out.lt _ _ _ HH0.out i hx; omega
  nb := fun hx => by have := HRJ.out.lt _ _ _ HH0.out _ hx; omega }
 have HFA := Lib.hid (from_all HWD.out HRJ.out hq hf rfl (by omega) (by omega) (by omega) hR hLb HYY.out gen.length)
 have HT3 := Lib.hid hT3
 have HSB : Hid (bg + 1 + 1 < w3.heap.size ∧ W.heap.size ≤ bg) := hid' ⟨hsz3, by omega⟩
 obtain ⟨t0, _, _⟩ := HAT.out w3 HB3.out
 have c1 := t0.cell 3
 have d0 : w3.cell? ⟨bg + 1 + 1, 0, none⟩ = some (.func (.func 69) #[] #[.pointer (some ⟨cb, 0, none⟩), .pointer (some ⟨bg + 1, 0, none⟩), .pointer (some ⟨b0, 0, none⟩), .pointer (some ⟨bg, 0, none⟩), .pointer (some ⟨bg + 1 + 1, 0, none⟩)]) := HT3.out.cell 0
 have hN64 : N ≤ 64 := by omega
 have hmk := fun (w : World) => run_mkI N (by omega) w
 have HLN : Hid ((wordsL (refOps P M Mod) q N gen).length = q ^ gen.length) := hid' (wordsL_len _ _ _ _)
 clear e3 hbg hT1 hT2 hT3 hb3 hsz3 hs2 hB03 hdI hdK hDp t0 hq hf hn1 hn2 hgl hR hcan hLb hc
 refine Drawn.start (S := fun w' => w'.cell? ⟨bg + 1 + 1, 0, none⟩ = some (.func (.func 69) #[] #[.pointer (some ⟨cb, 0, none⟩), .pointer (some ⟨bg + 1, 0, none⟩), .pointer (some ⟨b0, 0, none⟩), .pointer (some ⟨bg, 0, none⟩), .pointer (some ⟨bg + 1 + 1, 0, none⟩)]) ∧ w'.cell? ⟨cb, 3, none⟩ = some (.int .i64 (N : Int))) (by kernel_rfl) (⟨d0, c1⟩) (fun hHeld => ?_)
 change Drawn _ _ _ _ 5 _ _ _
 refine Drawn.tk 0 (v := ?_) rfl ?_ hHeld ?_
 rotate_left
 ·intro w' h; (try dsimp only at h); go_simp <;> with_reducible rfl
 try simp only [tda, tdb, tdc, Act.put, tdd, tde, tdf]
 refine Drawn.only (i := 1) (by kernel_rfl) rfl (fun K hK => ?_)
 go_simp
 refine hK.out _ _ (fun _ => hHeld) (fun hHeld2 => ?_)
 clear hK K
 clear hHeld2
 try simp only [tda, tdb, tdc, Act.put, tdd, tde, tdf]
 refine Drawn.only (i := 2) (by kernel_rfl) rfl (fun K hK => ?_)
 go_simp
 refine hK.out _ _ (fun _ => hHeld) (fun hHeld2 => ?_)
 clear hK K
 clear hHeld2
 try simp only [tda, tdb, tdc, Act.put, tdd, tde, tdf]
 refine Drawn.only (i := 3) (o := ?op1) (by kernel_rfl) ?ho1 (fun K hK => ?_)
 case ho1 => (conv => lhs; simp only [tdg, tdh, tdi])
 go_simp; obtain ⟨w5, g5, e5, e6, hR5, hb5⟩ := mk_rowDW w3 N; rw [e5, e6]; have HB5 := Lib.hid hb5; have HE6 := Lib.hid e6; have HR5 := Lib.hid hR5; have HSI5 : Hid (SI w5 (.slice (some ⟨g5, 0, none⟩) N N) (pwL (refOps P M Mod) q N gen 0 0)) := hid' (by rw [pwL_zero]; have h := hR5.si (by rw [List.length_replicate]; omega) (fun k => by by_cases hk : k < N <;> simp [List.getD, hk] <;> exact I64.zero); rw [List.length_replicate] at h; exact h); have HOW5 : Hid (∀ i, (Value.slice (some ⟨g5, 0, none⟩) N N).ownBlock = some i → i ≠ bg + 1 ∧ ¬ X i) := hid' (fun i hi => by have e : g5 = i := (by simpa [Value.ownBlock] using hi); subst e; have h1 := HE6.out; exact ⟨by have := HSB.out; omega, fun hx => by have := HRJ.out.lt _ _ _ HH0.out _ hx; have := HSB.out; omega⟩); have d5 := cell_below hb5 d0; have c5 := cell_below hb5 c1; clear e5 e6 hR5 hb5 hmk
 refine hK.out _ _ (fun _ => ⟨d5, c5⟩) (fun hHeld2 => ?_)
 clear hK K
 replace hHeld := hHeld2 (by decide)
 clear hHeld2
 try simp only [tda, tdb, tdc, Act.put, tdd, tde, tdf]
 refine Drawn.only (i := 4) (by kernel_rfl) rfl (fun K hK => ?_)
 go_simp
 refine ((HFA.out 0 0 X w5 (.slice (some ⟨g5, 0, none⟩) N N) (Nat.zero_add _) (by rw [Nat.pow_zero]; exact Nat.one_pos) (by rw [Nat.zero_mul]; exact HWS.out w5 HB5.out) (HSI5.out) (HOW5.out) : Calls _ _ #[.int .i64 0, _, _, _, _, _, _] _ _)).mono ?_; rintro e w6 hp; obtain ⟨b, rfl, hq6⟩ := fromPost_b hp; have HQ6 := Lib.hid hq6; clear hp hq6
 refine hK.out _ _ (fun h => absurd rfl h) (fun hHeld2 => ?_)
 clear hK K
 clear hHeld2
 refine Drawn.done (by kernel_rfl) ?_
 try simp only [tda, tdb, tdc, Act.put, tdd, tde, tdf]
 clear hHeld
 go_wp2_with fail
 refine bodyPost_end (results_none rfl _ _ _) rfl ?_
 refine ⟨⟨_, rfl⟩, ?_⟩
 cases b
 ·exact .inr (HQ6.out.2 rfl)
 ·obtain ⟨X', h⟩ := HQ6.out.1 rfl
  refine .inl ⟨X', ?_⟩
  rw [HLN.out]
  have := h.j
  rwa [Nat.zero_add, Nat.one_mul] at this
set_option maxHeartbeats 8000000 in
theorem cWalk_any (w : World) (P M n : Int) (mv gv : Value) :
  Calls Tryz.prog 20 #[.agg #[.int .i64 P, .int .i64 M, mv, .int .i64 n, gv]] w (fun e w' => e = .returned (.func (.func 68) #[] #[.pointer (some ⟨w.heap.size, 0, none⟩)]) ∧ Below w.heap.size w w' ∧ Blk w' w.heap.size 34 [.int .i64 P, .int .i64 M, mv, .int .i64 n, gv]) := by
 have HF := Lib.hid (CBox.mk' w P M mv n gv)
 go_enter Tryz.func20, Tryz.ntmps20
 go_upto_region 1 with fail
 generalize w.alloc (.cells #[.int .i64 P, .int .i64 M, mv, .int .i64 n, gv] 34) = w0 at *
 go_wp2_with fail
 go_ret
 exact ⟨rfl, HF.out.bel, HF.out.blk⟩
noncomputable def walkL (P M : Int) (Mod : List Int) (n : Int) (gen : List (List Int)) : List (List Int) := if codeE P M Mod n gen = 0 then wordsL (refOps P M Mod) (orderF P M).toNat n.toNat gen else []
attribute [local go_sem] Oper.semAt_some
theorem run_mkW0 (n : Nat) (h : n ≤ 1000000) (w : World) : (Instr.makeSlice 25 (.int .i64 0) (.int .i64 (n : Int))).run Tryz.prog w =
  .ok (.slice (some ⟨w.heap.size, 0, none⟩) 0 n) (w.alloc (.cells (madeCells #[.slice none 0 0] n) 22)) := by
 obtain ⟨i0, hi, hz0, hz1, hz2⟩ := info_parts Tryz.infoInts
 have := run_make (P := Tryz.prog) w 25 22 i0 (.slice none 0 0) Tryz.underlying25 hi hz0 .i64 .i64 0 n (Int.le_refl _) (by omega) (by rw [hz2]; omega) (by omega)
 simp only [Int.toNat_natCast, Int.toNat_zero, hz1, Nat.mul_one] at this
 exact this
theorem OS.made0W {B : Nat} {X : Nat → Prop} (w : World) (n : Nat) (hB : B ≤ w.heap.size) (h : n ≤ 1000000) : OS B X (w.alloc (.cells (madeCells #[.slice none 0 0] n) 22)) (.slice (some ⟨w.heap.size, 0, none⟩) 0 n) [] :=
 ⟨[], World.ownsRow_made w _ n hB (by unfold maxLen; omega) (by simp [size_madeCells]), fun i hi => absurd hi (by simp)⟩
theorem mk_wds (w : World) (c : Nat) (hc : c ≤ 1000000) : ∃ w' b1 b2, w.heap.size = b1 ∧ w.heap.size + 1 = b2 ∧ (w.alloc (.cells (madeCells #[.slice none 0 0] c) 22)).alloc (.cells #[.slice (some ⟨w.heap.size, 0, none⟩) 0 c] 25) = w' ∧ Blk w' b2 25 [.slice (some ⟨b1, 0, none⟩) 0 c] ∧ (∀ B Y, B ≤ w.heap.size → OS B Y w' (.slice (some ⟨b1, 0, none⟩) 0 c) []) ∧ Below w.heap.size w w' := by
 refine ⟨_, _, _, rfl, rfl, rfl, ?_, fun B Y hB => (OS.made0W w c hB hc).alloc _, bl_trans (bl_alloc w _) (bl_alloc _ _)⟩
 have := Blk.new (w.alloc (.cells (madeCells #[.slice none 0 0] c) 22)) 25 [.slice (some ⟨w.heap.size, 0, none⟩) 0 c]
 rwa [World.size_alloc] at this
set_option maxHeartbeats 8000000 in
theorem cWords_ok (w : World) (P M : Int) (N q : Nat) (mv gv : Value) (Mod : List Int) (gen : List (List Int)) (hm : SI w mv Mod) (hg : SS w gv gen) (hE : codeE P M Mod N gen = 0) (hq : orderF P M = (q : Int)) (hb : q ^ gen.length ≤ 65536) :
  Calls Tryz.prog 17 #[.agg #[.int .i64 P, .int .i64 M, mv, .int .i64 (N : Int), gv]] w (fun e w' => ∃ v, e = .returned (.tuple #[v, .int .i64 0]) ∧ OS w.heap.size (fun _ => False) w' v (walkL P M Mod N gen) ∧ Below w.heap.size w w') := by
 obtain ⟨c, hc⟩ : ∃ c, c = q ^ gen.length := ⟨_, rfl⟩
 have HSZ := Lib.hid (fun (w' : World) (hb : Below w.heap.size w w') => cSize_any w' P M N mv gv Mod gen (hm.below hb (Nat.le_refl _)) (hg.below hb (Nat.le_refl _)))
 have hsa : sizeA P M Mod N gen = (c : Int) := by unfold sizeA expA; rw [if_pos hE, hq, Int.toNat_natCast, if_pos hb, hc]
 have hse : sizeE P M Mod N gen = 0 := by unfold sizeE expE; rw [if_pos hE, hq, Int.toNat_natCast, if_pos hb]
 rw [hsa, hse] at HSZ
 rw [← hc] at hb
 have HM := Lib.hid hm; have HG := Lib.hid hg
 have HEE := Lib.hid hE; have HQ := Lib.hid hq; have HCC := Lib.hid hc
 clear hsa hse hm hg hE hq hc
 have HF := Lib.hid (CBox.mk' w P M mv N gv)
 have hmk := fun (w : World) => run_mkW0 c (by omega) w
 refine (callsIn_wide (n := 4)).1 ?_
 refine callsIn_of_wp_marks Tryz.func17 rfl trivial ?_ rfl
 simp only [Tryz.ntmps17, List.size_toArray, List.length_cons, List.length_nil, Nat.reduceAdd, Nat.reduceSub, Array.replicate_succ, Array.replicate_zero, List.push_toArray, List.append_toArray, List.nil_append, List.cons_append]
 refine wpIn_wide.2 ?_
 go_upto_region 1 with fail
 generalize w.alloc (.cells #[.int .i64 P, .int .i64 M, mv, .int .i64 (N : Int), gv] 34) = w0 at *
 have c0 := HF.out.c0; have c1 := HF.out.c1; have c2 := HF.out.c2; have c3 := HF.out.c3; have c4 := HF.out.c4
 go_wp2_with fail
 refine (HSZ.out w0 HF.out.bel).mono ?_
 rintro e w1 ⟨rfl, hb1⟩
 have HF1 := Lib.hid (HF.out.on hb1)
 clear hb1 c0 c1 c2 c3 c4
 have c0 := HF1.out.c0; have c1 := HF1.out.c1; have c2 := HF1.out.c2; have c3 := HF1.out.c3; have c4 := HF1.out.c4
 go_upto_region 5 with fail
 obtain ⟨w3, b1, bo, eb1, ebo, ew3, hbx3, hos3, hb3⟩ := mk_wds w1 c (by omega)
 rw [ew3, ebo, eb1]
 have HBO := Lib.hid ebo; have HB1 := Lib.hid eb1
 clear ew3 ebo eb1 hmk c0 c1 c2 c3 c4
 have HF3 := Lib.hid (HF1.out.on hb3); have HBX3 := Lib.hid hbx3; have HOS3 := Lib.hid hos3; have HSZ3 := Lib.hid hb3.size
 clear hbx3 hos3 hb3
 have c0 := HF3.out.c0; have c1 := HF3.out.c1; have c2 := HF3.out.c2; have c3 := HF3.out.c3; have c4 := HF3.out.c4
 go_wp2_with fail
 refine (cWalk_any w3 P M N mv gv).mono ?_
 rintro e w5 ⟨rfl, hb5, hcb⟩
 have HF5 := Lib.hid (HF3.out.on hb5); have HBX5 := Lib.hid (HBX3.out.belowS hb5); have HCB := Lib.hid hcb; have HB5 := Lib.hid hb5
 clear hb5 hcb c0 c1 c2 c3 c4
 go_wp2_with fail
 rename_i K hKk
 obtain ⟨cb, hcb⟩ : ∃ cb, cb = w3.heap.size := ⟨_, rfl⟩
 have HCB5 := HCB.out
 rw [← hcb] at HCB5 ⊢
 have hs1 := HF1.out.bel.size
 have hs3 := HSZ3.out
 have hs5 := HB5.out.size
 have hbo := HBO.out
 have hb1 := HB1.out
 have hcb5 := HCB5.lt
 have hbo5 := HBX5.out.lt
 have hbo3 := HBX3.out.lt
 have hOS5 := (HOS3.out w.heap.size (fun g => ¬ (g < w.heap.size ∨ g = cb ∨ g = bo ∨ g = b1) ∨ g = bo) hs1).below (HB5.out)
 obtain ⟨L, hL⟩ : ∃ L, L = walkL P M Mod N gen := ⟨_, rfl⟩
 have hLw : L = wordsL (refOps P M Mod) q N gen := by rw [hL]; unfold walkL; rw [if_pos HEE.out, HQ.out, Int.toNat_natCast, Int.toNat_natCast]
 have hLl : L.length = c := by rw [hLw, wordsL_len, HCC.out]
 have hCD : CDat w5 (fun i => i < w.heap.size ∨ i = cb) cb P M mv N gv Mod gen := {
  at_ := fun W h1 h2 => by
   have hk : ∀ p : Addr, p.block < w.heap.size → W.cell? p = w.cell? p := fun p hp => World.cell?_of_block ((h2 _ (.inl hp)).trans (HF5.out.bel.block _ hp))
   exact ⟨(h2 cb (.inr rfl)).trans HCB5, HM.out.keep hk, by obtain ⟨A, cc, e, h⟩ := HG.out; exact ⟨A, cc, e, h.keep hk⟩⟩
  lt := fun i hi => by
   have := HF5.out.bel.size
   rcases hi with hi | hi <;> omega }
 have hseq := walk_seq hCD HEE.out HQ.out (by rw [← HCC.out]; omega)
 rw [← hLw] at hseq
 have hst : WW w.heap.size bo cb w L 0 (fun i => i < w.heap.size ∨ i = cb ∨ i = bo ∨ i = b1) w5 := {
  st := ⟨_, HBX5.out, hOS5, fun g hg => by
   have e : b1 = g := by simpa [Value.ownBlock] using hg
   exact ⟨.inr (.inr (.inr e.symm)), by omega, by omega⟩⟩
  bx := .inr (.inr (.inl rfl))
  lt := fun i hi => by
   have := HF5.out.bel.size
   rcases hi with hi | hi | hi | hi <;> omega
  low := fun i hi => hi.elim .inl fun e => .inr (.inl e)
  bel := HF5.out.bel }
 have HBD : Hid (w.heap.size ≤ bo ∧ cb ≠ bo ∧ L.length ≤ 65536) := hid' ⟨by omega, by omega, by omega⟩
 have HLL := Lib.hid hL
 clear HF HF1 HF3 HBX3 HOS3 HSZ3 HBX5 HCB HB5 hs1 hs3 hs5 hbo hb1 hcb5 hbo5 hbo3 hOS5 hLw hLl hL hCD HCB5 HBO HB1 hcb
 refine (wpIn_wide (n := 4)).1 ?_
 refine wpIn_rangeZ (F := Fence.wide) rfl (by decide) (gf := 68) (lb := #[.pointer (some ⟨cb, 0, none⟩)]) rfl trivial (enters_of Tryz.func68 (by kernel_rfl) rfl)
  (Kp := fun i => i < w.heap.size ∨ i = cb) (fun i hi => hst.lt i (hst.low i hi)) hseq (Below.refl _ _) rfl (WW w.heap.size bo cb w L) (fun _ _ _ _ => False) (WW.rests _ _ _ _ _) (fun _ => ⟨fun _ _ _ _ h _ => h, fun _ _ _ h => h.elim⟩) hst
  (fun k u => { tmps := #[.agg #[.int .i64 P, .int .i64 M, mv, .int .i64 (N : Int), gv], .pointer (some ⟨w.heap.size, 0, none⟩), .slice none 0 0, .int .i64 0, .int .i64 (c : Int), .int .i64 0, .pointer (some ⟨bo, 0, none⟩), undef, u, .tuple #[.int .i64 (c : Int), .int .i64 0], .agg #[.int .i64 P, .int .i64 M, mv, .int .i64 (N : Int), gv], .tuple #[.int .i64 (c : Int), .int .i64 0], .int .i64 (c : Int), .int .i64 0, .int .i64 0, .bool false, undef, .int .i64 (c : Int), .slice (some ⟨b1, 0, none⟩) 0 c, .agg #[.int .i64 P, .int .i64 M, mv, .int .i64 (N : Int), gv], .func (.func 68) #[] #[.pointer (some ⟨cb, 0, none⟩)], .int .i64 (k : Int), u, undef, undef, undef, undef, undef], defers := [] }) ?assign ?body ?done ?stop
 case assign =>
  intro l k u W K' hK'
  gi_wp2
  exact hK'
 case body =>
  intro l k X u W hl hXl hI hk hu hux
  obtain ⟨v, hB1, hO1, hux1, hnext⟩ := hI.push HBD.out.1 HBD.out.2.1 hk hu hux
  have d0 : W.cell? ⟨bo, 0, none⟩ = some v := hB1.cell 0
  have f0 := hB1.frozen 0
  have HU1 : Hid (SI (W.alloc (.cells #[u] 22)) u (L.getD k [])) := hid' (hu.below (bl_alloc W _) (Nat.le_refl _))
  have HO1 := Lib.hid hO1; have HN := Lib.hid hnext; have HUX := Lib.hid hux1
  have HII := Lib.hid hI
  have HKL : Hid ((L.take k).length + 1 ≤ 4398046511104) := hid' (by have := HBD.out.2.2; have := List.length_take_le k L; omega)
  have HC1 : Hid ((W.alloc (.cells #[u] 22)).cell? ⟨W.heap.size, 0, none⟩ = some u) := hid' ((Blk.new W 22 [u]).cell 0)
  have hf := hu
  obtain ⟨UA, uc, eu, _⟩ := hf
  generalize (L.getD k []).length = un at eu
  subst eu
  clear hB1 hO1 hux1 hnext hu hux hI
  obtain ⟨VA, vc, ev⟩ := HO1.out.form
  rw [List.length_take, Nat.min_eq_left (Nat.le_of_lt hk)] at ev
  subst ev
  gi_wp2_with (gi_at_builtin; refine wpListIn_pushS rfl (.tmp 23) (.tmp 25) rfl w.heap.size _ _ (L.take k) rfl HO1.out W.heap.size _ (.slice UA un uc) (L.getD k []) rfl HC1.out HU1.out (fun _ => HUX.out) HKL.out (by rw [World.size_alloc]; have := HII.out.bel.size; omega) ?_; intro v2 w2 ho2 hg2 hv2; obtain ⟨A2, c2, ev2⟩ := ho2.form; rw [List.length_append, List.length_take, Nat.min_eq_left (Nat.le_of_lt hk), List.length_singleton] at ev2; subst ev2; have HZ := Lib.hid (HN.out _ w2 ho2 hg2 hv2); have d2 : w2.cell? ⟨bo, 0, none⟩ = some _ := HZ.out.1.cell 0; have f2 := HZ.out.1.frozen 0; clear ho2 hg2 hv2)
  exact ⟨HZ.out.2.1, HZ.out.2.2.1, HZ.out.2.2.2⟩
 case done =>
  intro D X W h1 h2 hI hD
  show K _ _
  refine hKk _ _ ?_
  obtain ⟨v, hB1, hO1, h3⟩ := hI.st
  have HI := Lib.hid hI; have HO := Lib.hid hO1; have H3 := Lib.hid h3
  have d0 : W.cell? ⟨bo, 0, none⟩ = some v := hB1.cell 0
  clear hI hO1 h3 hB1
  go_wp2_with fail
  refine ⟨by simp, .inl ⟨_, _, rfl, run_takeDeferred hD, ?_⟩⟩
  have hp : ∀ i, X i → (W.putObj D (.deferred none)).heap[i]? = W.heap[i]? := fun i hi => World.putObj_heap_other fun e => h2 (by subst e; exact hi)
  refine ⟨_, results_tmp2 rfl _ _ _, v, rfl, ?_, ?_⟩
  ·have hO1 := HO.out
   rw [List.take_of_length_le (Nat.le_refl _)] at hO1
   rw [← HLL.out]
   exact (hO1.onb (fun g hg => hp g (H3.out g hg).1) (fun g _ hn => hp g (Classical.byContradiction fun hx => hn (.inl hx)))).names fun g _ h => h.elim
  ·exact HI.out.bel.trans ⟨rfl, rfl, rfl, by simp, fun i hi => hp i (HI.out.low i (.inl hi))⟩
 case stop =>
  intro D c k X W _ _ _ h
  exact h.elim
end Go.Proofs.YtodgdoglhecolaaGreat
namespace Go.Proofs.YtodgdoglhecolaaGreat
open Go.RowKit
set_option maxRecDepth 100000
set_option maxHeartbeats 8000000 in
theorem cWords_no (w : World) (P M n : Int) (mv gv : Value) (Mod : List Int) (gen : List (List Int)) (hm : SI w mv Mod) (hg : SS w gv gen) (hE : sizeE P M Mod n gen ≠ 0) :
  Calls Tryz.prog 17 #[.agg #[.int .i64 P, .int .i64 M, mv, .int .i64 n, gv]] w (fun e w' => e = .returned (.tuple #[.slice none 0 0, .int .i64 (sizeE P M Mod n gen)]) ∧ Below w.heap.size w w') := by
 have HSZ := Lib.hid (fun (w' : World) (hb : Below w.heap.size w w') => cSize_any w' P M n mv gv Mod gen (hm.below hb (Nat.le_refl _)) (hg.below hb (Nat.le_refl _)))
 have e2 : (sizeE P M Mod n gen != 0) = true := by rw [bne_iff_ne]; exact hE
 clear hE hm hg
 generalize sizeE P M Mod n gen = er at *
 generalize sizeA P M Mod n gen = sa at *
 have HF := Lib.hid (CBox.mk' w P M mv n gv)
 go_enter Tryz.func17, Tryz.ntmps17
 go_upto_region 1 with fail
 generalize w.alloc (.cells #[.int .i64 P, .int .i64 M, mv, .int .i64 n, gv] 34) = w0 at *
 have c0 := HF.out.c0; have c1 := HF.out.c1; have c2 := HF.out.c2; have c3 := HF.out.c3; have c4 := HF.out.c4
 go_wp2_with fail
 refine (HSZ.out w0 HF.out.bel).mono ?_
 rintro e w1 ⟨rfl, hb1⟩
 have HF1 := Lib.hid (HF.out.on hb1)
 clear hb1 c0 c1 c2 c3 c4
 go_wp2_with fail
 go_ret2
 exact ⟨rfl, HF1.out.bel⟩
noncomputable def wordsR (P M : Int) (Mod : List Int) (n : Int) (gen : List (List Int)) : List (List Int) := if sizeE P M Mod n gen = 0 then walkL P M Mod n gen else []
theorem sizeE_zero {P M n : Int} {Mod : List Int} {gen : List (List Int)} (h : sizeE P M Mod n gen = 0) : codeE P M Mod n gen = 0 ∧ (orderF P M).toNat ^ gen.length ≤ 65536 := by
 unfold sizeE at h
 split at h
 ·rename_i hc
  refine ⟨hc, ?_⟩
  unfold expE at h
  split at h
  ·assumption
  ·cases h
 ·rename_i hc; exact absurd h hc
theorem cWords_any (w : World) (P M n : Int) (mv gv : Value) (Mod : List Int) (gen : List (List Int)) (hm : SI w mv Mod) (hg : SS w gv gen) :
  Calls Tryz.prog 17 #[.agg #[.int .i64 P, .int .i64 M, mv, .int .i64 n, gv]] w (fun e w' => ∃ v, e = .returned (.tuple #[v, .int .i64 (sizeE P M Mod n gen)]) ∧ OS w.heap.size (fun _ => False) w' v (wordsR P M Mod n gen) ∧ Below w.heap.size w w') := by
 by_cases hE : sizeE P M Mod n gen = 0
 ·obtain ⟨hc, hb⟩ := sizeE_zero hE
  obtain ⟨_, h1, _⟩ := codeE_zero hc
  obtain ⟨N, rfl⟩ : ∃ N : Nat, n = (N : Int) := ⟨n.toNat, by omega⟩
  have hob := orderF_bounds P M
  have hq : orderF P M = ((orderF P M).toNat : Int) := by omega
  have := cWords_ok w P M N _ mv gv Mod gen hm hg hc hq hb
  rw [hE]
  unfold wordsR
  rw [if_pos hE]
  exact this
 ·refine (cWords_no w P M n mv gv Mod gen hm hg hE).mono ?_
  rintro e w1 ⟨rfl, hb⟩
  refine ⟨_, rfl, ?_, hb⟩
  unfold wordsR
  rw [if_neg hE]
  exact OS.nil _ _ _
end Go.Proofs.YtodgdoglhecolaaGreat
