/- Texts of a claim, merged: words, plain facts and walks that the last of its texts uses. -/
import Derived.Test.YtlofhnmpbpjigaaGreatZB1
import Derived.Test.YtlofhnmpbpjigaaGreatZB2
import Derived.Test.YtlofhnmpbpjigaaGreatZB3
import Derived.Test.YtlofhnmpbpjigaaGreatZB4
import Derived.Test.YtlofhnmpbpjigaaGreatZB8
import Derived.Test.YtlofhnmpbpjigaaGreatZB14
import Derived.Test.YtlofhnmpbpjigaaGreatZB15
import Derived.Shelf.Abstract
import Derived.Shelf.RegionOpen
import Derived.WalkKit
import Derived.OwnWalkIn
import Derived.TacticsInMore
set_option linter.unusedSimpArgs false
set_option linter.unusedVariables false

namespace Go.Proofs.YtlofhnmpbpjigaaGreat
open Go.RowKit
set_option maxRecDepth 100000
structure CDat (w : World) (Kp : Nat → Prop) (cb : Nat) (P M : Int) (mv : Value) (n : Int) (gv : Value) (Mod : List Int) (gen : List (List Int)) : Prop where
 at_ : ∀ W, w.heap.size ≤ W.heap.size → (∀ i, Kp i → W.heap[i]? = w.heap[i]?) → Blk W cb 27 [.int .i64 P, .int .i64 M, mv, .int .i64 n, gv] ∧ SI W mv Mod ∧ SS W gv gen
 lt : ∀ i, Kp i → i < w.heap.size
theorem mk_rowDW (w : World) (n : Nat) : ∃ w' g, (w.alloc (.cells (madeCells #[.int .i64 0] n) 3)).drew = w' ∧ w.heap.size = g ∧ RI w' g (List.replicate n 0) ∧ Below w.heap.size w w' :=
 ⟨_, _, rfl, rfl, RI.made w n, bl_trans (bl_alloc w _) (bl_drew _)⟩
theorem threeBoxes (w : World) (t1 t2 t3 : TypeId) (v1 v2 v3 : Value) : ∃ w3, ((w.alloc (.cells #[v1] t1)).alloc (.cells #[v2] t2)).alloc (.cells #[v3] t3) = w3 ∧ Blk w3 w.heap.size t1 [v1] ∧ Blk w3 (w.heap.size + 1) t2 [v2] ∧ Blk w3 (w.heap.size + 1 + 1) t3 [v3] ∧ Below w.heap.size w w3 := by
 refine ⟨_, rfl, ((Blk.new w t1 [v1]).alloc _).alloc _, ?_, ?_, bl_trans (bl_trans (bl_alloc w _) (bl_alloc _ _)) (bl_alloc _ _)⟩
 ·have := (Blk.new (w.alloc (.cells #[v1] t1)) t2 [v2]).alloc (.cells #[v3] t3)
  rwa [World.size_alloc] at this
 ·have := Blk.new ((w.alloc (.cells #[v1] t1)).alloc (.cells #[v2] t2)) t3 [v3]
  rwa [World.size_alloc, World.size_alloc] at this
theorem fromPost_b {Wz : World} {Dp Kp : Nat → Prop} {ba n t' : Nat} {J Jx : Nat → (Nat → Prop) → World → Prop} {X : Nat → Prop} {W W' : World} {e : Ending} (h : FromPost Wz Dp Kp ba J Jx n t' X W e W') :
  ∃ b, e = .returned (.bool b) ∧ (b = true → ∃ X', WS Wz Dp Kp ba J t' X' W') ∧ (b = false → ∃ k X', k < n ∧ Jx (k + 1) X' W') := by
 rcases h with ⟨rfl, X', h, _⟩ | ⟨rfl, h⟩
 ·exact ⟨true, rfl, fun _ => ⟨X', h⟩, (fun h => nomatch h)⟩
 ·exact ⟨false, rfl, (fun h => nomatch h), fun _ => h⟩
set_option maxHeartbeats 32000000 in
theorem walk_seq {w : World} {Kp : Nat → Prop} {cb N q : Nat} {P M : Int} {mv gv : Value} {Mod : List Int} {gen : List (List Int)} (hC : CDat w Kp cb P M mv (N : Int) gv Mod gen) (hc : codeE P M Mod N gen = 0) (hq : orderF P M = (q : Int)) :
  SeqZ Fence.wide 3 Tryz.prog 55 #[.pointer (some ⟨cb, 0, none⟩)] (wordsL (refOps P M Mod) q N gen) Kp w := by
 intro l J Jx X W hbW rJ rJx hLb hY h0
 refine callsIn_wide.2 ?_
 show Calls Tryz.prog _ #[.func (.yield l) #[] #[], .pointer (some ⟨cb, 0, none⟩)] W _
 obtain ⟨hf, hn1, hn2, hgl, hR, hcan⟩ := codeE_zero hc
 obtain ⟨GA, gc, rfl, _⟩ := (hC.at_ w (Nat.le_refl _) fun _ _ => rfl).2.2
 have HWW := Lib.hid hbW
 rw [Int.toNat_natCast, hq] at hR
 have HAT : Hid (∀ W', Below W.heap.size W W' → Blk W' cb 27 [.int .i64 P, .int .i64 M, mv, .int .i64 (N : Int), .slice GA gen.length gc] ∧ SI W' mv Mod ∧ SS W' (.slice GA gen.length gc) gen) := hid' fun W' hb => hC.at_ W' (Nat.le_trans hbW.size hb.size) fun i hi => by
  have h1 := hC.lt i hi
  rw [hb.block i (Nat.lt_of_lt_of_le h1 hbW.size), hbW.block i h1]
 have HCK := Lib.hid (fun (w' : World) (h1 : SI w' mv Mod) (h2 : SS w' (.slice GA gen.length gc) gen) => cCheck_any w' P M N mv _ Mod gen h1 h2)
 rw [hc] at HCK
 have HNW := Lib.hid (fun (w' : World) (h1 : SI w' mv Mod) => new_ok w' P M mv Mod h1 hf)
 obtain ⟨w0, b0, e1, e2, hbx0, hb0⟩ := mk_box W 82 [.func (.yield l) #[] #[]]
 have HE1 := Lib.hid e1; have HBX0 := Lib.hid hbx0; have HB0 := Lib.hid hb0; have HE2 := Lib.hid e2
 have HCC := Lib.hid hC; have HH0 := Lib.hid h0; have HRJ := Lib.hid rJ; have HYY := Lib.hid hY
 clear e1 e2 hbx0 hb0 hC hbW rJ rJx hY h0
 go_enter Tryz.func55, Tryz.ntmps55
 go_upto_region 1 with fail
 rw [HE1.out, HE2.out]
 clear HE1
 obtain ⟨t0, h1, h2⟩ := HAT.out w0 HB0.out
 have HM0 := Lib.hid h1; have HG0 := Lib.hid h2
 obtain ⟨c0, c1, c2, c3, c4, _⟩ := t0.five
 clear h1 h2 t0
 go_wp2_with fail
 refine (HCK.out w0 HM0.out HG0.out).mono ?_
 rintro e w1 ⟨rfl, hb1⟩
 have HB1 := Lib.hid (bl_trans HB0.out hb1); have HBX1 := Lib.hid (HBX0.out.belowS hb1)
 clear hb1 c0 c1 c2 c3 c4
 obtain ⟨t0, h1, h2⟩ := HAT.out w1 HB1.out
 have HM1 := Lib.hid h1
 obtain ⟨c0, c1, c2, c3, c4, _⟩ := t0.five
 clear h1 h2 t0
 go_wp2_with fail
 refine (HNW.out w1 HM1.out).mono ?_
 rintro e w2 ⟨a, rfl, hsep, hb2⟩
 have HSEP := Lib.hid hsep; have HB2 := Lib.hid (bl_trans HB1.out hb2); have HBX2 := Lib.hid (HBX1.out.belowS hb2)
 have HS12 := Lib.hid (show W.heap.size ≤ w1.heap.size from HB1.out.size)
 clear hsep hb2 c0 c1 c2 c3 c4
 go_upto_region 6 with fail
 obtain ⟨bg, hbg⟩ : ∃ bg, bg = w2.heap.size := ⟨_, rfl⟩
 obtain ⟨w3, e3, hT1, hT2, hT3, hb3⟩ := threeBoxes w2 78 3 82 (.pointer (some ⟨a, 0, none⟩)) (.int .i64 0) (.func (.func 56) #[] #[.pointer (some ⟨cb, 0, none⟩), .pointer (some ⟨w2.heap.size + 1, 0, none⟩), .pointer (some ⟨b0, 0, none⟩), .pointer (some ⟨w2.heap.size, 0, none⟩), .pointer (some ⟨w2.heap.size + 1 + 1, 0, none⟩)])
 rw [e3]
 rw [← hbg] at hT1 hT2 hT3 ⊢
 have hsz3 := hT3.lt
 have hs2 := HB2.out.size
 have hB03 : b0 < w2.heap.size := HBX2.out.lt
 have HB3 := Lib.hid (bl_trans HB2.out hb3)
 have HBX3 := Lib.hid (HBX2.out.belowS hb3)
 obtain ⟨Dp, hDp⟩ : ∃ Dp : Nat → Prop, Dp = fun i => Kp i ∨ (W.heap.size ≤ i ∧ i < w3.heap.size ∧ i ≠ bg + 1) := ⟨_, rfl⟩
 have hdI : ∀ {W' : World}, Hd w3 Dp W' → ∀ {i}, W.heap.size ≤ i → i < w3.heap.size → i ≠ bg + 1 → W'.heap[i]? = w3.heap[i]? := fun {W'} h {i} h1 h2 h3 => h.2 i (by rw [hDp]; exact .inr ⟨h1, h2, h3⟩)
 have hdK : ∀ {W' : World}, Hd w3 Dp W' → w.heap.size ≤ W'.heap.size ∧ ∀ i, Kp i → W'.heap[i]? = w.heap[i]? := fun {W'} h => by
  refine ⟨Nat.le_trans HWW.out.size (Nat.le_trans HB3.out.size h.1), fun i hi => ?_⟩
  have h1 := HCC.out.lt i hi
  have h2 := HWW.out.size
  rw [h.2 i (by rw [hDp]; exact .inl hi), HB3.out.block i (by omega), HWW.out.block i h1]
 have HWD : Hid (WD w3 Dp P M Mod gen GA gen.length gc cb (bg + 1) b0 bg (bg + 1 + 1) a l) := hid' {
  c4 := fun W' h => ((HCC.out.at_ W' (hdK h).1 (hdK h).2).1).cell 4
  gn := fun W' h => (HCC.out.at_ W' (hdK h).1 (hdK h).2).2.2
  yl := fun W' h => by
   have : Blk W' b0 82 [.func (.yield l) #[] #[]] := (hdI h (by rw [HE2.out]; exact Nat.le_refl _) (by have := HBX3.out.lt; omega) (by omega)).trans HBX3.out
   exact this.cell 0
  gp := fun W' h => by
   have : Blk W' bg 78 [.pointer (some ⟨a, 0, none⟩)] := (hdI h (by omega) (by have := hT1.lt; omega) (by omega)).trans hT1
   exact this.cell 0
  gf := fun W' h => HSEP.out W' fun p h1 h2 => by
   have h3 := HS12.out
   have h4 : W'.heap[p.block]? = w2.heap[p.block]? := by rw [hdI h (by omega) (by omega) (by omega), hb3.block _ h2]
   exact World.cell?_of_block h4
  fr := fun W' h => by
   have : Blk W' (bg + 1 + 1) 82 _ := (hdI h (by omega) (by omega) (by omega)).trans hT3
   exact this.cell 0
  nb := by
   rw [hDp]
   rintro (h | h)
   ·have := HCC.out.lt _ h; have := HWW.out.size; omega
   ·exact h.2.2 rfl
  lt := fun i hi => by
   rw [hDp] at hi
   rcases hi with h | h
   ·have := HCC.out.lt _ h; have := HWW.out.size; omega
   ·exact h.2.1 }
 have HWS : Hid (∀ W', Below w3.heap.size w3 W' → WS w3 Dp Kp (bg + 1) J 0 X W') := hid' fun W' hb => {
  hd := ⟨hb.size, fun i hi => hb.block i (HWD.out.lt i hi)⟩
  at_ := hT2.belowS hb
  j := HRJ.out.on _ _ _ _ HH0.out ((bel_off (X := fun _ => False) (bl_trans HB3.out hb)).on fun i hi => ⟨HRJ.out.lt _ _ _ HH0.out i hi, fun k => k⟩)
  nx := fun i hi => by
   rw [hDp] at hi
   rcases hi with h | h
   ·exact .inl h
   ·refine .inr fun hx => ?_
    have := HRJ.out.lt _ _ _ HH0.out i hx; omega
  nb := fun hx => by have := HRJ.out.lt _ _ _ HH0.out _ hx; omega }
 have HFA := Lib.hid (from_all HWD.out HRJ.out hq hf rfl (by omega) (by omega) (by omega) hR hLb HYY.out gen.length)
 have HT3 := Lib.hid hT3
 have HSB : Hid (bg + 1 + 1 < w3.heap.size ∧ W.heap.size ≤ bg) := hid' ⟨hsz3, by omega⟩
 obtain ⟨t0, _, _⟩ := HAT.out w3 HB3.out
 have c1 := t0.cell 3
 have d0 : w3.cell? ⟨bg + 1 + 1, 0, none⟩ = some (.func (.func 56) #[] #[.pointer (some ⟨cb, 0, none⟩), .pointer (some ⟨bg + 1, 0, none⟩), .pointer (some ⟨b0, 0, none⟩), .pointer (some ⟨bg, 0, none⟩), .pointer (some ⟨bg + 1 + 1, 0, none⟩)]) := HT3.out.cell 0
 have hN64 : N ≤ 64 := by omega
 have hmk := fun (w : World) => run_mkI N (by omega) w
 have HLN : Hid ((wordsL (refOps P M Mod) q N gen).length = q ^ gen.length) := hid' (wordsL_len _ _ _ _)
 clear e3 hbg hT1 hT2 hT3 hb3 hsz3 hs2 hB03 hdI hdK hDp t0 hq hf hn1 hn2 hgl hR hcan hLb hc
 refine Drawn.start (S := fun w' => w'.cell? ⟨bg + 1 + 1, 0, none⟩ = some (.func (.func 56) #[] #[.pointer (some ⟨cb, 0, none⟩), .pointer (some ⟨bg + 1, 0, none⟩), .pointer (some ⟨b0, 0, none⟩), .pointer (some ⟨bg, 0, none⟩), .pointer (some ⟨bg + 1 + 1, 0, none⟩)]) ∧ w'.cell? ⟨cb, 3, none⟩ = some (.int .i64 (N : Int))) (by kernel_rfl) (⟨d0, c1⟩) (fun hHeld => ?_)
 change Drawn _ _ _ _ 5 _ _ _
 refine Drawn.tk 0 (v := ?_) rfl ?_ hHeld ?_
 rotate_left
 ·intro w' h; (try dsimp only at h); go_simp <;> with_reducible rfl
 try simp only [tda, tdb, tdc, Act.put, tdd, tde, tdf]
 refine Drawn.only (i := 1) (by kernel_rfl) rfl (fun K hK => ?_)
 go_simp
 refine hK.out _ _ (fun _ => hHeld) (fun hHeld2 => ?_)
 clear hK K
 clear hHeld2
 try simp only [tda, tdb, tdc, Act.put, tdd, tde, tdf]
 refine Drawn.only (i := 2) (by kernel_rfl) rfl (fun K hK => ?_)
 go_simp
 refine hK.out _ _ (fun _ => hHeld) (fun hHeld2 => ?_)
 clear hK K
 clear hHeld2
 try simp only [tda, tdb, tdc, Act.put, tdd, tde, tdf]
 refine Drawn.only (i := 3) (o := ?op1) (by kernel_rfl) ?ho1 (fun K hK => ?_)
 case ho1 => (conv => lhs; simp only [tdg, tdh, tdi])
 go_simp; obtain ⟨w5, g5, e5, e6, hR5, hb5⟩ := mk_rowDW w3 N; rw [e5, e6]; have HB5 := Lib.hid hb5; have HE6 := Lib.hid e6; have HR5 := Lib.hid hR5; have HSI5 : Hid (SI w5 (.slice (some ⟨g5, 0, none⟩) N N) (pwL (refOps P M Mod) q N gen 0 0)) := hid' (by rw [pwL_zero]; have h := hR5.si (by rw [List.length_replicate]; omega) (fun k => by by_cases hk : k < N <;> simp [List.getD, hk] <;> exact I64.zero); rw [List.length_replicate] at h; exact h); have HOW5 : Hid (∀ i, (Value.slice (some ⟨g5, 0, none⟩) N N).ownBlock = some i → i ≠ bg + 1 ∧ ¬ X i) := hid' (fun i hi => by have e : g5 = i := (by simpa [Value.ownBlock] using hi); subst e; have h1 := HE6.out; exact ⟨by have := HSB.out; omega, fun hx => by have := HRJ.out.lt _ _ _ HH0.out _ hx; have := HSB.out; omega⟩); have d5 := cell_below hb5 d0; have c5 := cell_below hb5 c1; clear e5 e6 hR5 hb5 hmk
 refine hK.out _ _ (fun _ => ⟨d5, c5⟩) (fun hHeld2 => ?_)
 clear hK K
 replace hHeld := hHeld2 (by decide)
 clear hHeld2
 try simp only [tda, tdb, tdc, Act.put, tdd, tde, tdf]
 refine Drawn.only (i := 4) (by kernel_rfl) rfl (fun K hK => ?_)
 go_simp
 refine ((HFA.out 0 0 X w5 (.slice (some ⟨g5, 0, none⟩) N N) (Nat.zero_add _) (by rw [Nat.pow_zero]; exact Nat.one_pos) (by rw [Nat.zero_mul]; exact HWS.out w5 HB5.out) (HSI5.out) (HOW5.out) : Calls _ _ #[.int .i64 0, _, _, _, _, _, _] _ _)).mono ?_; rintro e w6 hp; obtain ⟨b, rfl, hq6⟩ := fromPost_b hp; have HQ6 := Lib.hid hq6; clear hp hq6
 refine hK.out _ _ (fun h => absurd rfl h) (fun hHeld2 => ?_)
 clear hK K
 clear hHeld2
 refine Drawn.done (by kernel_rfl) ?_
 try simp only [tda, tdb, tdc, Act.put, tdd, tde, tdf]
 clear hHeld
 go_wp2_with fail
 refine bodyPost_end (results_none rfl _ _ _) rfl ?_
 refine ⟨⟨_, rfl⟩, ?_⟩
 cases b
 ·exact .inr (HQ6.out.2 rfl)
 ·obtain ⟨X', h⟩ := HQ6.out.1 rfl
  refine .inl ⟨X', ?_⟩
  rw [HLN.out]
  have := h.j
  rwa [Nat.zero_add, Nat.one_mul] at this
set_option maxHeartbeats 8000000 in
theorem cWalk_any (w : World) (P M n : Int) (mv gv : Value) :
  Calls Tryz.prog 23 #[.agg #[.int .i64 P, .int .i64 M, mv, .int .i64 n, gv]] w (fun e w' => e = .returned (.func (.func 55) #[] #[.pointer (some ⟨w.heap.size, 0, none⟩)]) ∧ Below w.heap.size w w' ∧ Blk w' w.heap.size 27 [.int .i64 P, .int .i64 M, mv, .int .i64 n, gv]) := by
 have HF := Lib.hid (CBox.mk' w P M mv n gv)
 go_enter Tryz.func23, Tryz.ntmps23
 go_upto_region 1 with fail
 generalize w.alloc (.cells #[.int .i64 P, .int .i64 M, mv, .int .i64 n, gv] 27) = w0 at *
 go_wp2_with fail
 go_ret
 exact ⟨rfl, HF.out.bel, HF.out.blk⟩
theorem sizeE_zero {P M n : Int} {Mod : List Int} {gen : List (List Int)} (h : sizeE P M Mod n gen = 0) : codeE P M Mod n gen = 0 ∧ (orderF P M).toNat ^ gen.length ≤ 65536 := by
 unfold sizeE at h
 split at h
 ·rename_i hc
  refine ⟨hc, ?_⟩
  unfold expE at h
  split at h
  ·assumption
  ·cases h
 ·rename_i hc; exact absurd h hc
set_option maxHeartbeats 16000000 in
theorem rWords_ok (w : World) (P M : Int) (N q : Nat) (mv gv : Value) (Mod : List Int) (gen : List (List Int)) (hm : SI w mv Mod) (hg : SS w gv gen) (hE : codeE P M Mod N gen = 0) (hq : orderF P M = (q : Int)) (hb : q ^ gen.length ≤ 65536) :
  Calls Tryz.prog 73 #[.agg #[.int .i64 P, .int .i64 M, mv, .int .i64 (N : Int), gv]] w (fun e w' => ∃ v, e = .returned (.tuple #[v, .int .i64 0]) ∧ OS w.heap.size (fun _ => False) w' v (wordsL (refOps P M Mod) q N gen) ∧ Below w.heap.size w w') := by
 obtain ⟨hf, hn1, hn2, hgl, hR, hcan⟩ := codeE_zero hE
 have hO := ref_fld hf
 obtain ⟨c, hc⟩ : ∃ c, c = q ^ gen.length := ⟨_, rfl⟩
 have HSZ := Lib.hid (fun (w' : World) (hb : Below w.heap.size w w') => rSize_any w' P M N mv gv Mod gen (hm.below hb (Nat.le_refl _)) (hg.below hb (Nat.le_refl _)))
 have hsa : sizeA P M Mod N gen = (c : Int) := by unfold sizeA expA; rw [if_pos hE, hq, Int.toNat_natCast, if_pos hb, hc]
 have hse : sizeE P M Mod N gen = 0 := by unfold sizeE expE; rw [if_pos hE, hq, Int.toNat_natCast, if_pos hb]
 unfold RetII at HSZ
 rw [hsa, hse] at HSZ
 obtain ⟨L, hL⟩ : ∃ L, L = wordsL (refOps P M Mod) q N gen := ⟨_, rfl⟩
 have HLN : Hid (L.length = c) := hid' (by rw [hL, wordsL_len, hc])
 have HAT := Lib.hid (fun (w' : World) (k : Nat) (hb : Below w.heap.size w w') (hk : k ≤ 65536) => rAt_any w' P M N q k mv gv Mod gen (hm.below hb (Nat.le_refl _)) (hg.below hb (Nat.le_refl _)) hE hO hq (by omega))
 have HAL : Hid (∀ k, k < c → pwL (refOps P M Mod) q N gen gen.length k = L.getD k [] ∧ (L.getD k []).length = N ∧ ∀ j, I64 ((L.getD k []).getD j 0)) := hid' fun k hk => by
  have e : L.getD k [] = pwL (refOps P M Mod) q N gen gen.length k := by rw [hL, wordsL_at (by rw [← hc]; exact hk)]
  have hr := pwL_rng (hq ▸ hO) N gen gen.length k
  have hqb := orderF_bounds P M
  refine ⟨e.symm, by rw [e, pwL_len], fun j => by rw [e]; exact I64.of_small (by have := hr j; omega) (by have := hr j; omega)⟩
 unfold RetO at HAT
 rw [← hL]
 rw [← hc] at hb
 obtain ⟨GA, gc, rfl, _⟩ := hg
 have hN : N ≤ 64 := by omega
 generalize gen.length = gl at *
 clear hm hE hf hn1 hn2 hgl hR hcan hO hc hsa hse hL hq
 have HF := Lib.hid (CBox.mk' w P M mv N (.slice GA gl gc))
 go_enter Tryz.func73, Tryz.ntmps73
 go_upto_region 1 with fail
 generalize w.alloc (.cells #[.int .i64 P, .int .i64 M, mv, .int .i64 (N : Int), .slice GA gl gc] 27) = w0 at *
 have c0 := HF.out.c0; have c1 := HF.out.c1; have c2 := HF.out.c2; have c3 := HF.out.c3; have c4 := HF.out.c4
 go_wp2_with fail
 refine (HSZ.out w0 HF.out.bel).mono ?_
 rintro e w1 ⟨rfl, hb1⟩
 have HF1 := Lib.hid (HF.out.on hb1)
 clear hb1 c0 c1 c2 c3 c4
 have HZ : Hid (w.heap.size < w1.heap.size) := hid' HF1.out.blk.lt
 go_wp2_with fail
 go_loopw [6, 7] (fun out i wr => ∃ (k : Nat) (OA : Option Addr) (oc : Nat), k ≤ c ∧ i = .int .i64 (k : Int) ∧ out = .slice OA k oc ∧ Hid (OS w1.heap.size (fun g => g < w1.heap.size) wr (.slice OA k oc) (L.take k)) ∧ Hid (CBox w wr P M mv N (.slice GA gl gc)) ∧ Hid (w1.heap.size ≤ wr.heap.size)) (fun _ i _ => c - (intOf i).toNat)
 case atStart => exact ⟨0, none, 0, Nat.zero_le _, rfl, rfl, hid' (OS.nil _ _ _), HF1, hid' (Nat.le_refl _)⟩
 case round =>
  obtain ⟨k, OA, oc, hk, rfl, rfl, HO, HC, HS⟩ := hrel
  by_cases hlt : k < c
  ·have c0 := HC.out.c0; have c1 := HC.out.c1; have c2 := HC.out.c2; have c3 := HC.out.c3; have c4 := HC.out.c4
   obtain ⟨ha1, ha2, ha3⟩ := HAL.out k hlt
   go_wp2_with fail
   refine (HAT.out wr k HC.out.bel (by omega)).mono ?_
   rintro e w2 ⟨u, rfl, ho2, hb2⟩
   rw [ha1] at ho2
   have HU := Lib.hid (ho2.si (by rw [ha2]; omega) ha3)
   have HNW := Lib.hid (ho2.new (w := wr) (Nat.le_refl _))
   have HTK : Hid (L.take (k + 1) = L.take k ++ [L.getD k []]) := hid' (by
    have hk2 : k < L.length := by rw [HLN.out]; exact hlt
    show _ = _
    rw [List.take_succ_eq_append_getElem hk2]; simp [List.getD, hk2])
   have HO2 := Lib.hid (HO.out.below hb2)
   have HC2 := Lib.hid (HC.out.on hb2)
   have HS2 : Hid (w1.heap.size ≤ w2.heap.size) := hid' (Nat.le_trans HS.out hb2.size)
   have HTL : Hid ((L.take k).length = k) := hid' (by rw [List.length_take, HLN.out]; omega)
   clear c0 c1 c2 c3 c4 ho2 hb2 ha1 ha2 ha3
   generalize L.getD k [] = y at *
   obtain ⟨UA, uc, rfl, _⟩ := id HU.out
   have HBX := Lib.hid (box1 (w := w2) (u := .slice UA y.length uc) (t := 22))
   have hba := bl_alloc w2 (.cells #[.slice UA y.length uc] 22)
   have HOA := Lib.hid (HO2.out.alloc (.cells #[.slice UA y.length uc] 22))
   have HUA := Lib.hid (HU.out.below hba (Nat.le_refl _))
   have HCA := Lib.hid (HC2.out.on hba)
   have HUP := Lib.hid (up_alloc (w := w2) (B := w1.heap.size) HS2.out (.cells #[.slice UA y.length uc] 22))
   have HLL : Hid ((L.take k).length + 1 ≤ 4398046511104) := hid' (by rw [HTL.out]; omega)
   have HTL2 : Hid ((L.take (k + 1)).length = k + 1) := hid' (by rw [List.length_take, HLN.out]; omega)
   clear hba
   go_wp2_with (at_builtin; refine wpList_pushS rfl _ _ rfl w1.heap.size (fun g => g < w1.heap.size) _ (L.take k) rfl HOA.out w2.heap.size 1 _ y rfl HBX.out HUA.out (fun _ g hg => ⟨fun e => by have h1 := HNW.out g hg; have h2 := (HO.out.lt e).2; omega, by have h1 := HNW.out g hg; have h2 := HS.out; show ¬ g < w1.heap.size; omega⟩) HLL.out HUP.out ?_; (intro v5 w5 ho5 hg5 hv5); go_must (have HC5 := Lib.hid (HCA.out.blk.grown hg5 (by intro e; have h1 := (HOA.out.lt e.symm).1; have h2 := HZ.out; omega)); have HB5 := Lib.hid (Below.grown HCA.out.bel hg5 (by have := HCA.out.bel.size; exact this) (fun q e => by have h1 := (HOA.out.lt e).1; have h2 := HZ.out; omega)); have HS5 : Hid (w1.heap.size ≤ w5.heap.size) := hid' (Nat.le_trans HUP.out hg5.size); rw [← HTK.out] at ho5; obtain ⟨A5, c5, rfl⟩ := ho5.form; rw [HTL2.out] at ho5 ⊢; have HO5 := Lib.hid ho5; clear ho5 hg5 hv5))
   exact ⟨⟨k + 1, A5, c5, by omega, by push_cast; rfl, rfl, HO5, ⟨HC5.out, HB5.out⟩, HS5⟩, by simp only [intOf]; omega⟩
  ·obtain rfl : c = k := by omega
   have HFIN : Hid (L.take c = L) := hid' (List.take_of_length_le (by rw [HLN.out]; exact Nat.le_refl _))
   go_wp2_with fail
   go_ret2
   refine ⟨_, rfl, ?_, HC.out.bel⟩
   have h := HO.out
   rw [HFIN.out] at h
   exact (h.mono (by have := HZ.out; omega)).names fun g _ h => h.elim
set_option maxHeartbeats 8000000 in
theorem rWords_no (w : World) (P M n : Int) (mv gv : Value) (Mod : List Int) (gen : List (List Int)) (hm : SI w mv Mod) (hg : SS w gv gen) (hE : sizeE P M Mod n gen ≠ 0) :
  Calls Tryz.prog 73 #[.agg #[.int .i64 P, .int .i64 M, mv, .int .i64 n, gv]] w (fun e w' => e = .returned (.tuple #[.slice none 0 0, .int .i64 (sizeE P M Mod n gen)]) ∧ Below w.heap.size w w') := by
 have HSZ := Lib.hid (fun (w' : World) (hb : Below w.heap.size w w') => rSize_any w' P M n mv gv Mod gen (hm.below hb (Nat.le_refl _)) (hg.below hb (Nat.le_refl _)))
 have e2 : (sizeE P M Mod n gen != 0) = true := by rw [bne_iff_ne]; exact hE
 clear hE hm hg
 unfold RetII at HSZ
 generalize sizeE P M Mod n gen = er at *
 generalize sizeA P M Mod n gen = sa at *
 have HF := Lib.hid (CBox.mk' w P M mv n gv)
 go_enter Tryz.func73, Tryz.ntmps73
 go_upto_region 1 with fail
 generalize w.alloc (.cells #[.int .i64 P, .int .i64 M, mv, .int .i64 n, gv] 27) = w0 at *
 have c0 := HF.out.c0; have c1 := HF.out.c1; have c2 := HF.out.c2; have c3 := HF.out.c3; have c4 := HF.out.c4
 go_wp2_with fail
 refine (HSZ.out w0 HF.out.bel).mono ?_
 rintro e w1 ⟨rfl, hb1⟩
 have HF1 := Lib.hid (HF.out.on hb1)
 clear hb1 c0 c1 c2 c3 c4
 go_wp2_with fail
 go_ret2
 exact ⟨rfl, HF1.out.bel⟩
theorem filt_snoc {p : List Int → Bool} {L : List (List Int)} {k : Nat} (h : k < L.length) : (L.take (k + 1)).filter p = (L.take k).filter p ++ if p (L.getD k []) then [L.getD k []] else [] := by
 rw [List.take_succ_eq_append_getElem h, List.filter_append]
 have e : L[k] = L.getD k [] := by simp [List.getD, h]
 rw [e]
 generalize L.getD k [] = y
 cases hp : p y <;> simp [hp]
set_option maxHeartbeats 16000000 in
theorem rWithin_ok (w : World) (P M : Int) (N q x : Nat) (mv gv yv : Value) (Mod y : List Int) (gen : List (List Int)) (hm : SI w mv Mod) (hg : SS w gv gen) (hy : SI w yv y) (hyl : y.length = N) (hwe : wordE P M Mod N gen y = 0) (hE : codeE P M Mod N gen = 0) (hq : orderF P M = (q : Int)) (hb : q ^ gen.length ≤ 65536) (hx : x ≤ N) :
  Calls Tryz.prog 36 #[.agg #[.int .i64 P, .int .i64 M, mv, .int .i64 (N : Int), gv], yv, .int .i64 (x : Int), .int .i64 (x : Int)] w (fun e w' => ∃ v, e = .returned (.tuple #[v, .int .i64 0]) ∧ OS w.heap.size (fun _ => False) w' v ((wordsL (refOps P M Mod) q N gen).filter fun h => dstN h y N == x) ∧ Below w.heap.size w w') := by
 have HWD := Lib.hid (fun (w' : World) (hb : Below w.heap.size w w') => rWord_any w' P M N mv gv yv Mod y gen (hm.below hb (Nat.le_refl _)) (hg.below hb (Nat.le_refl _)) (hy.below hb (Nat.le_refl _)))
 rw [hwe] at HWD
 have HWW := Lib.hid (fun (w' : World) (h' : Below w.heap.size w w') => rWords_ok w' P M N q mv gv Mod gen (hm.below h' (Nat.le_refl _)) (hg.below h' (Nat.le_refl _)) hE hq hb)
 obtain ⟨L, hL⟩ : ∃ L, L = wordsL (refOps P M Mod) q N gen := ⟨_, rfl⟩
 rw [← hL] at HWW ⊢
 obtain ⟨c, hc⟩ : ∃ c, c = L.length := ⟨_, rfl⟩
 have hc6 : c ≤ 65536 := by rw [hc, hL, wordsL_len]; exact hb
 have HLN := Lib.hid hc
 have HLL : Hid (∀ k, k < c → (L.getD k []).length = N) := hid' fun k hk => by rw [hL, wordsL_at (by rw [hc, hL, wordsL_len] at hk; exact hk), pwL_len]
 have HY := Lib.hid hy; have HYL := Lib.hid hyl
 obtain ⟨GA, gc, rfl, _⟩ := hg
 obtain ⟨YA, yc, rfl, _⟩ := id hy
 rw [hyl] at HWD HY ⊢
 generalize gen.length = gl at *
 clear hm hy hyl hwe hE hq hb hL hc
 have HF := Lib.hid (CBox.mk' w P M mv N (.slice GA gl gc))
 go_enter Tryz.func36, Tryz.ntmps36
 go_upto_region 1 with fail
 generalize w.alloc (.cells #[.int .i64 P, .int .i64 M, mv, .int .i64 (N : Int), .slice GA gl gc] 27) = w0 at *
 have c0 := HF.out.c0; have c1 := HF.out.c1; have c2 := HF.out.c2; have c3 := HF.out.c3; have c4 := HF.out.c4
 go_wp2_with fail
 refine (HWD.out w0 HF.out.bel).mono ?_
 rintro e w1 ⟨rfl, hb1⟩
 have HF1 := Lib.hid (HF.out.on hb1)
 clear hb1 c0 c1 c2 c3 c4
 have c0 := HF1.out.c0; have c1 := HF1.out.c1; have c2 := HF1.out.c2; have c3 := HF1.out.c3; have c4 := HF1.out.c4
 have n1 : decide ((x : Int) < 0) = false := decide_eq_false (by omega)
 have n2 : decide ((N : Int) < (x : Int)) = false := decide_eq_false (by omega)
 have n3 : decide (N < x) = false := decide_eq_false (by omega)
 go_wp2_with fail
 refine (HWW.out w1 HF1.out.bel).mono ?_
 rintro e w2 ⟨lv, rfl, hl, hb2⟩
 have HB2 := Lib.hid (bl_trans HF1.out.bel hb2)
 obtain ⟨LA, lc, rfl⟩ := hl.form
 have HL2 := Lib.hid (hl.ss (by have := HLN.out; omega))
 rw [← HLN.out] at HL2 ⊢
 clear hl hb2 c0 c1 c2 c3 c4 n1 n2 n3
 have HE0 : Hid (OS w2.heap.size (fun _ => False) (w2.alloc (.cells #[] 22)) (.slice (some ⟨w2.heap.size, 0, none⟩) 0 0) ((L.take 0).filter fun h => dstN h y N == x)) := hid' (OS.empty w2 (Nat.le_refl _))
 have HBE := Lib.hid (bl_alloc w2 (.cells #[] 22))
 have HSW : Hid (w.heap.size ≤ w2.heap.size) := hid' HB2.out.size
 go_wp2_with fail
 generalize w2.alloc (.cells #[] 22) = w3 at *
 go_loopw [12, 13] (fun out i wr => ∃ k : Nat, k ≤ c ∧ i = .int .i64 (k : Int) ∧ Hid (OS w2.heap.size (fun _ => False) wr out ((L.take k).filter fun h => dstN h y N == x)) ∧ Hid (Below w2.heap.size w2 wr)) (fun _ i _ => c - (intOf i).toNat)
 case atStart => exact ⟨0, Nat.zero_le _, rfl, HE0, HBE⟩
 case round =>
  clear HE0 HBE
  obtain ⟨k, hk, rfl, HO, HZ⟩ := hrel
  by_cases hlt : k < c
  ·obtain ⟨ad, Ak, ck, xs, rfl, hc0, HX, HXE⟩ := HL2.out.eltA (k := k) (by rw [← HLN.out]; exact hlt)
   have hcr := cell_below HZ.out hc0
   have hxl := HLL.out k hlt
   rw [HXE.out] at hxl
   have HXL := Lib.hid hxl
   have HS2 := Lib.hid HX.out.si
   have HFS := Lib.hid (filt_snoc (p := fun h => dstN h y N == x) (L := L) (k := k) (by rw [← HLN.out]; exact hlt))
   rw [HXE.out] at HFS
   rw [hxl] at hcr HS2 hc0
   have HC0 := Lib.hid hc0
   clear hxl hc0 HX
   go_wp2_with fail
   refine (rDist_any wr _ _ xs y (HS2.out.below HZ.out (Nat.le_refl _)) (HY.out.below (bl_trans HB2.out HZ.out) (Nat.le_refl _)) (by rw [HXL.out, HYL.out])).mono ?_
   rintro e w4 ⟨rfl, hb4⟩
   have HO4 := Lib.hid (HO.out.below hb4)
   have HZ4 := Lib.hid (bl_trans HZ.out hb4)
   have hdl := dstN_le xs y N
   rw [HXL.out]
   obtain ⟨d, hd⟩ : ∃ d, d = dstN xs y N := ⟨_, rfl⟩
   have HDE : Hid (dstN xs y N = d) := hid' hd.symm
   rw [← hd] at hdl ⊢
   clear hd
   clear hb4 hcr
   have hcr := cell_below HZ4.out HC0.out
   by_cases hdx : d = x
   ·subst hdx
    have e1 : decide ((d : Int) ≤ (d : Int)) = true := decide_eq_true (by omega)
    have HPP : Hid ((L.take (k + 1)).filter (fun h => dstN h y N == d) = (L.take k).filter (fun h => dstN h y N == d) ++ [xs]) := hid' (by show _ = _; rw [HFS.out, HDE.out, beq_self_eq_true, if_pos rfl])
    have HBX := Lib.hid (box1 (w := w4) (u := .slice Ak N ck) (t := 22))
    have hba := bl_alloc w4 (.cells #[.slice Ak N ck] 22)
    have HOA := Lib.hid (HO4.out.alloc (.cells #[.slice Ak N ck] 22))
    have HUA := Lib.hid (HS2.out.below (bl_trans HZ4.out hba) (Nat.le_refl _))
    have HZA := Lib.hid (bl_trans HZ4.out hba)
    have HUP := Lib.hid (up_alloc (w := w4) (B := w2.heap.size) HZ4.out.size (.cells #[.slice Ak N ck] 22))
    have HLF : Hid (((L.take k).filter (fun h => dstN h y N == d)).length + 1 ≤ 4398046511104) := hid' (by
     have h1 := List.length_filter_le (fun h => dstN h y N == d) (L.take k)
     rw [List.length_take] at h1; omega)
    clear hba
    go_wp2_with (at_builtin; refine wpList_pushS rfl _ _ rfl w2.heap.size (fun _ => False) _ ((L.take k).filter fun h => dstN h y N == d) rfl HOA.out w4.heap.size 1 _ xs rfl HBX.out HUA.out (fun h0 g hg => ⟨fun e => by have h1 := (HOA.out.lt e).1; have h2 := HS2.out.lt h0 hg; omega, fun h => h⟩) HLF.out HUP.out ?_; (intro v5 w5 ho5 hg5 hv5); go_must (have HZ5 := Lib.hid (HOA.out.bgrown HZA.out HUP.out hg5); rw [← HPP.out] at ho5; have HO5 := Lib.hid ho5; clear ho5 hg5 hv5))
    exact ⟨⟨k + 1, by omega, by push_cast; rfl, HO5, HZ5⟩, by simp only [intOf]; omega⟩
   ·have HPP : Hid ((L.take (k + 1)).filter (fun h => dstN h y N == x) = (L.take k).filter (fun h => dstN h y N == x)) := hid' (by show _ = _; rw [HFS.out, HDE.out, if_neg (by rw [beq_iff_eq]; exact hdx), List.append_nil])
    by_cases hlo : x ≤ d
    ·have e1 : decide ((x : Int) ≤ (d : Int)) = true := decide_eq_true (by omega)
     have e2 : decide (x ≤ d) = true := decide_eq_true hlo
     have e3 : decide ((d : Int) ≤ (x : Int)) = false := decide_eq_false (by omega)
     have e4 : decide (d ≤ x) = false := decide_eq_false (by omega)
     clear hlo hdx
     go_wp2_with fail
     exact ⟨⟨k + 1, by omega, by push_cast; rfl, by rw [HPP.out]; exact HO4, HZ4⟩, by simp only [intOf]; omega⟩
    ·have e1 : decide ((x : Int) ≤ (d : Int)) = false := decide_eq_false (by omega)
     have e2 : decide (x ≤ d) = false := decide_eq_false hlo
     clear hlo hdx
     go_wp2_with fail
     exact ⟨⟨k + 1, by omega, by push_cast; rfl, by rw [HPP.out]; exact HO4, HZ4⟩, by simp only [intOf]; omega⟩
  ·obtain rfl : c = k := by omega
   have HFIN : Hid ((L.take c).filter (fun h => dstN h y N == x) = L.filter fun h => dstN h y N == x) := hid' (by show _ = _; rw [HLN.out, List.take_length])
   rw [HFIN.out] at HO
   go_wp2_with fail
   go_ret2
   exact ⟨_, rfl, HO.out.mono HSW.out, bl_trans HB2.out HZ.out⟩
set_option maxHeartbeats 8000000 in
theorem rOrth_no (w : World) (P M n i : Int) (mv gv cv : Value) (Mod : List Int) (gen checks : List (List Int)) (hm : SI w mv Mod) (hg : SS w gv gen) (hc : SS w cv checks) (hE : codeE P M Mod n gen ≠ 0) :
  Calls Tryz.prog 37 #[.agg #[.int .i64 P, .int .i64 M, mv, .int .i64 n, gv], .int .i64 i, cv] w (RetI w (codeE P M Mod n gen)) := by
 have HCK := Lib.hid (fun (w' : World) (hb : Below w.heap.size w w') => rCCheck_any w' P M n mv gv Mod gen (hm.below hb (Nat.le_refl _)) (hg.below hb (Nat.le_refl _)))
 have k1 : (codeE P M Mod n gen != 0) = true := by rw [bne_iff_ne]; exact hE
 generalize codeE P M Mod n gen = er at *
 clear hm hg hE
 obtain ⟨VA, vc, rfl, _⟩ := hc
 have HF := Lib.hid (CBox.mk' w P M mv n gv)
 go_enter Tryz.func37, Tryz.ntmps37
 go_upto_region 1 with fail
 generalize w.alloc (.cells #[.int .i64 P, .int .i64 M, mv, .int .i64 n, gv] 27) = w0 at *
 have c0 := HF.out.c0; have c1 := HF.out.c1; have c2 := HF.out.c2; have c3 := HF.out.c3; have c4 := HF.out.c4
 go_wp2_with fail
 refine (HCK.out w0 HF.out.bel).mono ?_
 rintro e w1 ⟨rfl, hb1⟩
 have HF1 := Lib.hid (HF.out.on hb1)
 clear hb1 c0 c1 c2 c3 c4
 go_wp2_with fail
 go_ret
 exact ⟨rfl, HF1.out.bel⟩
set_option maxHeartbeats 8000000 in
theorem rOrth_rng (w : World) (P M : Int) (N : Nat) (i : Int) (mv gv cv : Value) (Mod : List Int) (gen checks : List (List Int)) (hm : SI w mv Mod) (hg : SS w gv gen) (hc : SS w cv checks) (hE : codeE P M Mod N gen = 0) (hi : i < 0 ∨ (N : Int) ≤ i) :
  Calls Tryz.prog 37 #[.agg #[.int .i64 P, .int .i64 M, mv, .int .i64 (N : Int), gv], .int .i64 i, cv] w (RetI w 6) := by
 have HCK := Lib.hid (fun (w' : World) (hb : Below w.heap.size w w') => rCCheck_any w' P M N mv gv Mod gen (hm.below hb (Nat.le_refl _)) (hg.below hb (Nat.le_refl _)))
 rw [hE] at HCK
 clear hm hg hE
 obtain ⟨VA, vc, rfl, _⟩ := hc
 have HF := Lib.hid (CBox.mk' w P M mv N gv)
 go_enter Tryz.func37, Tryz.ntmps37
 go_upto_region 1 with fail
 generalize w.alloc (.cells #[.int .i64 P, .int .i64 M, mv, .int .i64 (N : Int), gv] 27) = w0 at *
 have c0 := HF.out.c0; have c1 := HF.out.c1; have c2 := HF.out.c2; have c3 := HF.out.c3; have c4 := HF.out.c4
 go_wp2_with fail
 refine (HCK.out w0 HF.out.bel).mono ?_
 rintro e w1 ⟨rfl, hb1⟩
 have HF1 := Lib.hid (HF.out.on hb1)
 clear hb1 c0 c1 c2 c3 c4
 have c3 := HF1.out.c3
 by_cases h0 : i < 0
 ·go_wp2_with fail
  go_ret
  exact ⟨rfl, HF1.out.bel⟩
 ·have h1 : (N : Int) ≤ i := by omega
  clear hi
  go_wp2_with fail
  go_ret
  exact ⟨rfl, HF1.out.bel⟩
set_option maxHeartbeats 32000000 in
theorem rOrth_core (w : World) (P M : Int) (N I m : Nat) (mv gv cv : Value) (Mod : List Int) (gen checks : List (List Int)) (X : Int) (hm : SI w mv Mod) (hg : SS w gv gen) (hc : SS w cv checks) (hE : codeE P M Mod N gen = 0) (hI : I < N) (hml : checks.length = m) (hm2 : m ≤ 17592186044416)
  (h1 : ∀ k, k < m → (∀ j, j < k → listF (orderF P M) (checks.getD j []) N = 0) → listF (orderF P M) (checks.getD k []) N ≠ 0 → X = listF (orderF P M) (checks.getD k []) N)
  (h2 : (∀ j, j < m → listF (orderF P M) (checks.getD j []) N = 0) → orT (okG (refOps P M Mod) gen N I) I N checks m = none → X = 13)
  (h3 : (∀ j, j < m → listF (orderF P M) (checks.getD j []) N = 0) → ∀ u, orT (okG (refOps P M Mod) gen N I) I N checks m = some u → X = 0) :
  Calls Tryz.prog 37 #[.agg #[.int .i64 P, .int .i64 M, mv, .int .i64 (N : Int), gv], .int .i64 (I : Int), cv] w (RetI w X) := by
 have hN64 : N ≤ 64 := by have := (codeE_zero hE).2.2.1; omega
 have hq6 := orderF_bounds P M
 have hgl2 : gen.length ≤ 256 := (codeE_zero hE).2.2.2.1
 have hf := (codeE_zero hE).1
 have HCK := Lib.hid (fun (w' : World) (hb : Below w.heap.size w w') => rCCheck_any w' P M N mv gv Mod gen (hm.below hb (Nat.le_refl _)) (hg.below hb (Nat.le_refl _)))
 rw [hE] at HCK
 have HGR : Hid (∀ k, k < gen.length → (gen.getD k []).length = N) := hid' fun k hk => by
  have h := (codeE_zero hE).2.2.2.2.1
  rw [Int.toNat_natCast] at h
  exact (h k hk).1
 have HDO := Lib.hid (fun (w' : World) (va vb : Value) (a b : List Int) (hb : Below w.heap.size w w') (ha : SI w' va a) (hb2 : SI w' vb b) => rDot_any w' P M mv va vb Mod a b (hm.below hb (Nat.le_refl _)) ha hb2 hf.1 hf.2.2.1)
 have HOKG : Hid (∀ h, okG (refOps P M Mod) gen N I h = (h.getD I 0 == 1 && (List.range gen.length).all fun g => dotL (refOps P M Mod) h (gen.getD g []) N == 0)) := hid' fun h => rfl
 have HLZ : Hid (∀ x, listF (orderF P M) x N = 0 → x.length = N) := hid' fun x h => by have := (listF_zero h).1; omega
 have HLY : Hid (∀ (w' : World) (xv : Value) (x : List Int), SI w' xv x → Calls Tryz.prog 25 #[.agg #[.int .i64 P, .int .i64 M, mv], xv, .int .i64 (N : Int)] w' (RetI w' (listF (orderF P M) x N))) := hid' fun w' xv x hx => list_any w' P M N mv xv x hx
 have HC := Lib.hid hc; have HG := Lib.hid hg; have H1 := Lib.hid h1; have H2 := Lib.hid h2; have H3 := Lib.hid h3; have HML := Lib.hid hml
 generalize okG (refOps P M Mod) gen N I = ok at *
 generalize orderF P M = q at *
 generalize refOps P M Mod = O at *
 obtain ⟨VA, vc, rfl, _⟩ := hc
 obtain ⟨GA, gc, rfl, _⟩ := hg
 rw [hml] at HC ⊢
 obtain ⟨gl, hgll⟩ : ∃ gl, gl = gen.length := ⟨_, rfl⟩
 rw [← hgll] at HG HGR HOKG HCK hgl2 ⊢
 have HGL := Lib.hid hgll
 clear hm hE h1 h2 h3 hml hf hgll
 have HF := Lib.hid (CBox.mk' w P M mv N (.slice GA gl gc))
 have hmk2 := fun (w : World) => run_mkB N (by omega) w
 go_enter Tryz.func37, Tryz.ntmps37
 go_upto_region 1 with fail
 generalize w.alloc (.cells #[.int .i64 P, .int .i64 M, mv, .int .i64 (N : Int), .slice GA gl gc] 27) = w0 at *
 have c0 := HF.out.c0; have c1 := HF.out.c1; have c2 := HF.out.c2; have c3 := HF.out.c3; have c4 := HF.out.c4
 go_wp2_with fail
 refine (HCK.out w0 HF.out.bel).mono ?_
 rintro e w1 ⟨rfl, hb1⟩
 have HF1 := Lib.hid (HF.out.on hb1)
 clear hb1 c0 c1 c2 c3 c4 HF
 have c3 := HF1.out.c3
 have i0 : ¬ (I : Int) < 0 := by omega
 have i1 : ¬ (N : Int) ≤ (I : Int) := by omega
 go_wp2_with fail
 have e1 : decide ((I : Int) < 0) = false := decide_eq_false (by omega)
 have e2 : decide (N ≤ I) = false := decide_eq_false (by omega)
 simp only [e1, e2, Bool.or_false]
 clear c3 i0 i1 e1 e2
 go_loopw [7, 8] (fun e i wr => ∃ k : Nat, k ≤ m ∧ e = .int .i64 0 ∧ i = .int .i64 (k : Int) ∧ Hid (∀ j, j < k → listF q (checks.getD j []) N = 0) ∧ Hid (CBox w wr P M mv N (.slice GA gl gc))) (fun _ i _ => m - (intOf i).toNat)
 case atStart => exact ⟨0, Nat.zero_le _, rfl, rfl, (fun j hj => absurd hj (Nat.not_lt_zero _)), HF1⟩
 case round =>
  clear HF1
  obtain ⟨k, hk, rfl, rfl, HLS, HF⟩ := hrel
  by_cases hkm : k < m
  ·obtain ⟨ad, Ak, ck, xs, rfl, hcc, HX, HXE⟩ := (HC.out.below HF.out.bel (Nat.le_refl _)).eltA (k := k) (by rw [HML.out]; exact hkm)
   have c0 := HF.out.c0; have c1 := HF.out.c1; have c2 := HF.out.c2; have c3 := HF.out.c3; have c4 := HF.out.c4
   obtain ⟨xl, hxl⟩ : ∃ xl, xl = xs.length := ⟨_, rfl⟩
   have HXS : Hid (SI wr (.slice Ak xl ck) xs) := hid' (by rw [hxl]; exact HX.out.si)
   rw [← hxl] at hcc
   clear hxl HX
   go_wp2_with fail
   refine Kept.start (S := fun w' => w'.cell? ⟨w.heap.size, 0, none⟩ = some (.int .i64 P) ∧ w'.cell? ⟨w.heap.size, 1, none⟩ = some (.int .i64 M) ∧ w'.cell? ⟨w.heap.size, 2, none⟩ = some mv ∧ w'.cell? ⟨w.heap.size, 3, none⟩ = some (.int .i64 (N : Int)) ∧ w'.cell? ⟨w.heap.size, 4, none⟩ = some (.slice GA gl gc) ∧ w'.cell? (ad.add k) = some (.slice Ak xl ck)) (by kernel_rfl) (⟨c0, c1, c2, c3, c4, hcc⟩) (fun hHeld => ?_)
   change Kept _ _ _ _ 10 _ _ _
   refine Kept.tk 0 (v := ?_) rfl ?_ hHeld ?_
   rotate_left
   ·intro w' h; (try dsimp only at h); go_simp <;> with_reducible rfl
   try simp only [tda, tdb, tdc, Act.put, tdd, tde, tdf]
   refine Kept.tk 1 (v := ?_) rfl ?_ hHeld ?_
   rotate_left
   ·intro w' h; (try dsimp only at h); go_simp <;> with_reducible rfl
   try simp only [tda, tdb, tdc, Act.put, tdd, tde, tdf]
   refine Kept.tk 2 (v := ?_) rfl ?_ hHeld ?_
   rotate_left
   ·intro w' h; (try dsimp only at h); go_simp <;> with_reducible rfl
   try simp only [tda, tdb, tdc, Act.put, tdd, tde, tdf]
   refine Kept.tk 3 (v := ?_) rfl ?_ hHeld ?_
   rotate_left
   ·intro w' h; (try dsimp only at h); go_simp <;> with_reducible rfl
   try simp only [tda, tdb, tdc, Act.put, tdd, tde, tdf]
   refine Kept.tk 4 (v := ?_) rfl ?_ hHeld ?_
   rotate_left
   ·intro w' h; (try dsimp only at h); go_simp <;> with_reducible rfl
   try simp only [tda, tdb, tdc, Act.put, tdd, tde, tdf]
   refine Kept.tk 5 (v := ?_) rfl ?_ hHeld ?_
   rotate_left
   ·intro w' h; (try dsimp only at h); go_simp <;> with_reducible rfl
   try simp only [tda, tdb, tdc, Act.put, tdd, tde, tdf]
   refine Kept.tk 6 (v := ?_) rfl ?_ hHeld ?_
   rotate_left
   ·intro w' h; (try dsimp only at h); go_simp <;> with_reducible rfl
   try simp only [tda, tdb, tdc, Act.put, tdd, tde, tdf]
   refine Kept.tk 7 (v := ?_) rfl ?_ hHeld ?_
   rotate_left
   ·intro w' h; (try dsimp only at h); go_simp <;> with_reducible rfl
   try simp only [tda, tdb, tdc, Act.put, tdd, tde, tdf]
   refine Kept.only (i := 8) (by kernel_rfl) rfl (fun K hK => ?_)
   go_simp
   refine (HLY.out _ _ xs (HXS.out.below (bl_drew wr) (Nat.le_refl _))).mono ?_; rintro e w3 ⟨rfl, hb3⟩; have hb4 := bl_trans (bl_drew wr) hb3; have HF3 := Lib.hid (HF.out.on hb4); have hc3 := cell_below hb4 hcc; clear hb3 hb4
   refine hK.out _ _ (⟨HF3.out.c0, HF3.out.c1, HF3.out.c2, HF3.out.c3, HF3.out.c4, hc3⟩) (fun hHeld2 => ?_)
   clear hK K
   replace hHeld := hHeld2
   clear hHeld2
   try simp only [tda, tdb, tdc, Act.put, tdd, tde, tdf]
   refine Kept.only (i := 9) (by kernel_rfl) rfl (fun K hK => ?_)
   go_simp
   refine hK.out _ _ hHeld (fun hHeld2 => ?_)
   clear hK K
   clear hHeld2
   refine Kept.done (by kernel_rfl) ?_
   try simp only [tda, tdb, tdc, Act.put, tdd, tde, tdf]
   clear hHeld
   clear c0 c1 c2 c3 c4 hcc hc3
   by_cases hli : listF q xs N = 0
   ·rw [hli]
    have HLS2 : Hid (∀ j, j < k + 1 → listF q (checks.getD j []) N = 0) := hid' fun j hj => by
     by_cases e : j = k
     ·subst e; rw [HXE.out]; exact hli
     ·exact HLS.out j (by omega)
    clear hli
    go_wp2_with fail
    exact ⟨⟨k + 1, by omega, rfl, by push_cast; rfl, HLS2, HF3⟩, by simp only [intOf]; omega⟩
   ·have k1 : (listF q xs N != 0) = true := by rw [bne_iff_ne]; exact hli
    have HXX : Hid (X = listF q xs N) := hid' (by
     have h := H1.out k hkm HLS.out (by rw [HXE.out]; exact hli)
     rw [HXE.out] at h; exact h)
    clear hli
    generalize listF q xs N = er at *
    go_wp2_with fail
    go_ret
    exact ⟨by rw [HXX.out]; rfl, HF3.out.bel⟩
  ·obtain rfl : m = k := by omega
   have c3 := HF.out.c3
   generalize wr = wo at *
   have HU0 : Hid (RB (wo.alloc (.cells (madeCells #[.bool false] N) 4)) wo.heap.size (List.replicate N false)) := RB.made wo N
   have HBU := Lib.hid (bl_alloc wo (.cells (madeCells #[.bool false] N) 4))
   go_wp2_with fail
   clear hmk2 c3
   obtain ⟨gu, hgu⟩ : ∃ gu, gu = wo.heap.size := ⟨_, rfl⟩
   have HGU := Lib.hid hgu
   rw [← hgu] at HU0 ⊢
   clear hgu
   go_loopw [10, 11, 12] (fun i _ _ wr => ∃ (k : Nat) (u : List Bool), k ≤ m ∧ i = .int .i64 (k : Int) ∧ Hid (orT ok I N checks k = some u) ∧ Hid (RB wr gu u) ∧ Hid (Below wo.heap.size wo wr)) (fun i _ _ _ => m - (intOf i).toNat)
   case atStart => exact ⟨0, List.replicate N false, Nat.zero_le _, rfl, rfl, HU0, HBU⟩
   case round =>
    clear HU0 HBU
    obtain ⟨k, u, hk, rfl, HOT, HU, HBr⟩ := hrel
    by_cases hkm : k < m
    ·obtain ⟨ad, Ak, ck, xs, rfl, hcc0, HXo, HXE⟩ := (HC.out.below HF.out.bel (Nat.le_refl _)).eltA (k := k) (by rw [HML.out]; exact hkm)
     have hcc := cell_below HBr.out hcc0
     have hlz : listF q xs N = 0 := by rw [← HXE.out]; exact HLS.out k hkm
     have hxl := HLZ.out xs hlz
     have HXL := Lib.hid hxl
     have HOR : Hid (orT ok I N checks (k + 1) = if ok xs then usT I xs u N else none) := hid' (show orT ok I N checks (k + 1) = _ by rw [orT, HOT.out, HXE.out])
     have HNO : Hid (orT ok I N checks (k + 1) = none → X = 13) := hid' fun h => H2.out HLS.out (orT_none h m (by omega))
     obtain ⟨xd, xi, rfl, hxi, _, HXI⟩ := (HXo.out.si.below HBr.out (Nat.le_refl _)).elt (k := I) (by rw [HXL.out]; exact hI)
     have hok := HOKG.out xs
     rw [HXI.out] at hok
     rw [hxl] at hcc hcc0
     have HXS : Hid (SI wo (.slice (some xd) N ck) xs) := hid' (by have h := HXo.out.si; rw [hxl] at h; exact h)
     have HCC := Lib.hid hcc0
     clear hlz hxl hcc0 HXo
     cases hx1 : (xi == 1)
     ·rw [hx1, Bool.false_and] at hok
      have HX13 : Hid (X = 13) := hid' (HNO.out (by rw [HOR.out, hok]; rfl))
      have hx2 : (xi != 1) = true := by rw [bne_iff_ne]; exact beq_eq_false_iff_ne.1 hx1
      clear hok
      have HBF := Lib.hid (bl_trans HF.out.bel HBr.out)
      go_wp2_with fail
      go_ret
      exact ⟨by rw [HX13.out]; rfl, HBF.out⟩
     rw [hx1, Bool.true_and] at hok
     have hx2 : (xi != 1) = false := by rw [bne_eq_false_iff_eq]; exact beq_iff_eq.1 hx1
     have HOK := Lib.hid hok
     clear hok
     generalize wr = wk at *
     go_wp2_with fail
     clear hx1 hx2 hxi hcc
     go_loopw [11] (fun i wr => ∃ g : Nat, g ≤ gl ∧ i = .int .i64 (g : Int) ∧ Hid (∀ j, j < g → dotL O xs (gen.getD j []) N = 0) ∧ Hid (RB wr gu u) ∧ Hid (Below wo.heap.size wo wr)) (fun i _ => gl - (intOf i).toNat)
     case atStart => exact ⟨0, Nat.zero_le _, rfl, (fun j hj => absurd hj (Nat.not_lt_zero _)), HU, HBr⟩
     case round =>
      clear HU HBr
      obtain ⟨g, hg, rfl, HDS, HU, HBr⟩ := hrel
      have HFr := Lib.hid (HF.out.blk.belowS HBr.out)
      have c0 : wr.cell? ⟨w.heap.size, 0, none⟩ = some (.int .i64 P) := HFr.out.cell 0
      have c1 : wr.cell? ⟨w.heap.size, 1, none⟩ = some (.int .i64 M) := HFr.out.cell 1
      have c2 : wr.cell? ⟨w.heap.size, 2, none⟩ = some mv := HFr.out.cell 2
      have c3 : wr.cell? ⟨w.heap.size, 3, none⟩ = some (.int .i64 (N : Int)) := HFr.out.cell 3
      have c4 : wr.cell? ⟨w.heap.size, 4, none⟩ = some (.slice GA gl gc) := HFr.out.cell 4
      by_cases hgg : g < gl
      ·have hcc := cell_below HBr.out HCC.out
       have HBW := Lib.hid (bl_trans HF.out.bel HBr.out)
       obtain ⟨rd, Rk, rk, row, rfl, hrc, HRW, HRE⟩ := (HG.out.below HBW.out (Nat.le_refl _)).eltA (k := g) (by rw [← HGL.out]; exact hgg)
       have hrl : row.length = N := by rw [← HRE.out]; exact HGR.out g hgg
       have HRS : Hid (SI wr (.slice Rk N rk) row) := hid' (by have h := HRW.out.si; rw [hrl] at h; exact h)
       rw [hrl] at hrc
       have HMN : Hid (min xs.length row.length = N) := hid' (by rw [HXL.out, hrl, Nat.min_self])
       clear hrl HRW
       go_wp2_with fail
       refine Kept.start (S := fun w' => w'.cell? ⟨w.heap.size, 0, none⟩ = some (.int .i64 P) ∧ w'.cell? ⟨w.heap.size, 1, none⟩ = some (.int .i64 M) ∧ w'.cell? ⟨w.heap.size, 2, none⟩ = some mv ∧ w'.cell? ⟨w.heap.size, 3, none⟩ = some (.int .i64 (N : Int)) ∧ w'.cell? ⟨w.heap.size, 4, none⟩ = some (.slice (some rd) gl gc) ∧ w'.cell? (ad.add k) = some (.slice (some xd) N ck) ∧ w'.cell? (rd.add g) = some (.slice Rk N rk)) (by kernel_rfl) (⟨c0, c1, c2, c3, c4, hcc, hrc⟩) (fun hHeld => ?_)
       change Kept _ _ _ _ 13 _ _ _
       refine Kept.tk 0 (v := ?_) rfl ?_ hHeld ?_
       rotate_left
       ·intro w' h; (try dsimp only at h); go_simp <;> with_reducible rfl
       try simp only [tda, tdb, tdc, Act.put, tdd, tde, tdf]
       refine Kept.tk 1 (v := ?_) rfl ?_ hHeld ?_
       rotate_left
       ·intro w' h; (try dsimp only at h); go_simp <;> with_reducible rfl
       try simp only [tda, tdb, tdc, Act.put, tdd, tde, tdf]
       refine Kept.tk 2 (v := ?_) rfl ?_ hHeld ?_
       rotate_left
       ·intro w' h; (try dsimp only at h); go_simp <;> with_reducible rfl
       try simp only [tda, tdb, tdc, Act.put, tdd, tde, tdf]
       refine Kept.tk 3 (v := ?_) rfl ?_ hHeld ?_
       rotate_left
       ·intro w' h; (try dsimp only at h); go_simp <;> with_reducible rfl
       try simp only [tda, tdb, tdc, Act.put, tdd, tde, tdf]
       refine Kept.tk 4 (v := ?_) rfl ?_ hHeld ?_
       rotate_left
       ·intro w' h; (try dsimp only at h); go_simp <;> with_reducible rfl
       try simp only [tda, tdb, tdc, Act.put, tdd, tde, tdf]
       refine Kept.tk 5 (v := ?_) rfl ?_ hHeld ?_
       rotate_left
       ·intro w' h; (try dsimp only at h); go_simp <;> with_reducible rfl
       try simp only [tda, tdb, tdc, Act.put, tdd, tde, tdf]
       refine Kept.tk 6 (v := ?_) rfl ?_ hHeld ?_
       rotate_left
       ·intro w' h; (try dsimp only at h); go_simp <;> with_reducible rfl
       try simp only [tda, tdb, tdc, Act.put, tdd, tde, tdf]
       refine Kept.tk 7 (v := ?_) rfl ?_ hHeld ?_
       rotate_left
       ·intro w' h; (try dsimp only at h); go_simp <;> with_reducible rfl
       try simp only [tda, tdb, tdc, Act.put, tdd, tde, tdf]
       refine Kept.tk 8 (v := ?_) rfl ?_ hHeld ?_
       rotate_left
       ·intro w' h; (try dsimp only at h); go_simp <;> with_reducible rfl
       try simp only [tda, tdb, tdc, Act.put, tdd, tde, tdf]
       refine Kept.tk 9 (v := ?_) rfl ?_ hHeld ?_
       rotate_left
       ·intro w' h; (try dsimp only at h); go_simp <;> with_reducible rfl
       try simp only [tda, tdb, tdc, Act.put, tdd, tde, tdf]
       refine Kept.tk 10 (v := ?_) rfl ?_ hHeld ?_
       rotate_left
       ·intro w' h; (try dsimp only at h); go_simp <;> with_reducible rfl
       try simp only [tda, tdb, tdc, Act.put, tdd, tde, tdf]
       refine Kept.only (i := 11) (by kernel_rfl) rfl (fun K hK => ?_)
       go_simp
       refine (HDO.out _ _ _ xs row (bl_trans HBW.out (bl_drew wr)) (HXS.out.below (bl_trans HBr.out (bl_drew wr)) (Nat.le_refl _)) (HRS.out.below (bl_drew wr) (Nat.le_refl _))).mono ?_; rintro e w3 ⟨rfl, hb3⟩; have hb4 := bl_trans (bl_drew wr) hb3; have HB3 := Lib.hid (bl_trans HBr.out hb4); have HU3 := Lib.hid (HU.out.belowS hb4); have hc3 := cell_below hb4 hcc; have hr3 := cell_below hb4 hrc; have d0 := cell_below hb4 c0; have d1 := cell_below hb4 c1; have d2 := cell_below hb4 c2; have d3 := cell_below hb4 c3; have d4 := cell_below hb4 c4; clear hb3 hb4; rw [HMN.out]
       refine hK.out _ _ (⟨d0, d1, d2, d3, d4, hc3, hr3⟩) (fun hHeld2 => ?_)
       clear hK K
       replace hHeld := hHeld2
       clear hHeld2
       try simp only [tda, tdb, tdc, Act.put, tdd, tde, tdf]
       refine Kept.only (i := 12) (by kernel_rfl) rfl (fun K hK => ?_)
       go_simp
       refine hK.out _ _ hHeld (fun hHeld2 => ?_)
       clear hK K
       clear hHeld2
       refine Kept.done (by kernel_rfl) ?_
       try simp only [tda, tdb, tdc, Act.put, tdd, tde, tdf]
       clear hHeld
       clear c0 c1 c2 c3 c4 hcc hrc hc3 hr3 d0 d1 d2 d3 d4
       by_cases hd : dotL O xs row N = 0
       ·rw [hd]
        have HDS2 : Hid (∀ j, j < g + 1 → dotL O xs (gen.getD j []) N = 0) := hid' fun j hj => by
         by_cases e : j = g
         ·subst e; rw [HRE.out]; exact hd
         ·exact HDS.out j (by omega)
        clear hd
        go_wp2_with fail
        exact ⟨⟨g + 1, by omega, by push_cast; rfl, HDS2, HU3, HB3⟩, by simp only [intOf]; omega⟩
       ·have k1 : (dotL O xs row N != 0) = true := by rw [bne_iff_ne]; exact hd
        have hno : ((List.range gl).all fun g => dotL O xs (gen.getD g []) N == 0) = false := by
         rw [List.all_eq_false]
         exact ⟨g, List.mem_range.2 hgg, by rw [HRE.out]; simpa using hd⟩
        have HX13 : Hid (X = 13) := hid' (HNO.out (by rw [HOR.out, HOK.out, hno]; rfl))
        clear hd hno
        generalize dotL O xs row N = dd at *
        have HBF := Lib.hid (bl_trans HF.out.bel HB3.out)
        go_wp2_with fail
        go_ret
        exact ⟨by rw [HX13.out]; rfl, HBF.out⟩
      ·obtain rfl : gl = g := by omega
       have hyes : ((List.range gl).all fun g => dotL O xs (gen.getD g []) N == 0) = true := by
        rw [List.all_eq_true]
        exact fun j hj => by rw [beq_iff_eq]; exact HDS.out j (List.mem_range.1 hj)
       rw [HOK.out, hyes, if_pos rfl] at HOR
       clear hyes HDS c0 c1 c2
       generalize wr = wj at *
       go_wp2_with fail
       clear c3 c4
       go_loopw [12] (fun i wr => ∃ (j : Nat) (u' : List Bool), j ≤ N ∧ i = .int .i64 (j : Int) ∧ Hid (usT I xs u j = some u') ∧ Hid (RB wr gu u') ∧ Hid (Below wo.heap.size wo wr)) (fun i _ => N - (intOf i).toNat)
       case atStart => exact ⟨0, u, Nat.zero_le _, rfl, rfl, HU, HBr⟩
       case round =>
        clear HU HBr HFr
        obtain ⟨j, u', hj, rfl, HUS, HU, HBr⟩ := hrel
        have c3 : wr.cell? ⟨w.heap.size, 3, none⟩ = some (.int .i64 (N : Int)) := (HF.out.blk.belowS HBr.out).cell 3
        by_cases hjN : j < N
        ·have hcc := cell_below HBr.out HCC.out
         obtain ⟨xd2, xj, e2, hxj, _, HXJ⟩ := (HXS.out.below HBr.out (Nat.le_refl _)).elt (k := j) (by rw [HXL.out]; exact hjN)
         cases e2
         have hul : u'.length = N := by rw [usT_len HUS.out, orT_len HOT.out]
         have HUL := Lib.hid hul
         have huc := HU.out.cell j (by rw [hul]; exact hjN)
         have huf := HU.out.frozen j
         have HUN : Hid (usT I xs u (j + 1) = if j = I ∨ xj = 0 then some u' else if u'.getD j false then none else some (u'.set j true)) := hid' (show usT I xs u (j + 1) = _ by rw [usT, HUS.out, HXJ.out])
         have HNO2 : Hid (usT I xs u (j + 1) = none → X = 13) := hid' fun h => HNO.out (by rw [HOR.out]; exact usT_none h N (by omega))
         clear hul
         by_cases hjI : j = I
         ·have k1 : ((j : Int) == (I : Int)) = true := by rw [beq_iff_eq]; omega
          have HUE : Hid (usT I xs u (j + 1) = some u') := hid' (by rw [HUN.out, if_pos (.inl hjI)])
          clear hjI
          go_wp2_with fail
          exact ⟨⟨j + 1, u', by omega, by push_cast; rfl, HUE, HU, HBr⟩, by simp only [intOf]; omega⟩
         ·have k1 : ((j : Int) == (I : Int)) = false := by rw [beq_eq_false_iff_ne]; omega
          by_cases hx0 : xj = 0
          ·have k2 : (xj == 0) = true := by rw [beq_iff_eq]; exact hx0
           have HUE : Hid (usT I xs u (j + 1) = some u') := hid' (by rw [HUN.out, if_pos (.inr hx0)])
           clear hjI hx0
           go_wp2_with fail
           exact ⟨⟨j + 1, u', by omega, by push_cast; rfl, HUE, HU, HBr⟩, by simp only [intOf]; omega⟩
          ·have k2 : (xj == 0) = false := by rw [beq_eq_false_iff_ne]; exact hx0
           have hnn : ¬ (j = I ∨ xj = 0) := fun h => h.elim hjI hx0
           cases hub : u'.getD j false
           ·rw [hub] at huc
            have HUE : Hid (usT I xs u (j + 1) = some (u'.set j true)) := hid' (by rw [HUN.out, if_neg hnn, hub]; rfl)
            have HU2 := Lib.hid (HU.out.set j true)
            have HB2 := Lib.hid (HBr.out.setCell (p := ⟨gu, j, none⟩) (by rw [HGU.out]; exact Nat.le_refl _) (.bool true))
            clear hub hnn hjI hx0
            go_wp2_with fail
            exact ⟨⟨j + 1, u'.set j true, by omega, by push_cast; rfl, HUE, HU2, HB2⟩, by simp only [intOf]; omega⟩
           ·rw [hub] at huc
            have HX13 : Hid (X = 13) := hid' (HNO2.out (by rw [HUN.out, if_neg hnn, hub]; rfl))
            have HBF := Lib.hid (bl_trans HF.out.bel HBr.out)
            clear hub hnn hjI hx0
            go_wp2_with fail
            go_ret
            exact ⟨by rw [HX13.out]; rfl, HBF.out⟩
        ·obtain rfl : N = j := by omega
         go_wp2_with fail
         exact ⟨⟨k + 1, u', by omega, by push_cast; rfl, by rw [HOR.out]; exact HUS.out, HU, HBr⟩, by simp only [intOf]; omega⟩
    ·obtain rfl : m = k := by omega
     have HX0 : Hid (X = 0) := hid' (H3.out HLS.out u HOT.out)
     have HBF := Lib.hid (bl_trans HF.out.bel HBr.out)
     go_wp2_with fail
     go_ret
     exact ⟨by rw [HX0.out]; rfl, HBF.out⟩
theorem mOrth_any (w : World) (P M n i : Int) (mv gv cv : Value) (Mod : List Int) (gen checks : List (List Int)) (hm : SI w mv Mod) (hg : SS w gv gen) (hc : SS w cv checks) :
  Calls Tryz.prog 13 #[.agg #[.int .i64 P, .int .i64 M, mv, .int .i64 n, gv], .int .i64 i, cv] w (RetI w (orthE P M Mod n gen i checks)) := by
 by_cases hE : codeE P M Mod n gen = 0
 case neg => rw [show orthE P M Mod n gen i checks = codeE P M Mod n gen by unfold orthE; rw [if_pos hE]]; exact mOrth_no w P M n i mv gv cv Mod gen checks hm hg hc hE
 obtain ⟨hf, hn1, hn2, _, hR, _⟩ := codeE_zero hE
 obtain ⟨N, rfl⟩ : ∃ N : Nat, n = (N : Int) := ⟨n.toNat, by omega⟩
 rw [Int.toNat_natCast] at hR
 by_cases hi : i < 0 ∨ (N : Int) ≤ i
 ·rw [show orthE P M Mod N gen i checks = 6 by unfold orthE; rw [if_neg (by simp [hE]), if_pos hi]]; exact mOrth_rng w P M N i mv gv cv Mod gen checks hm hg hc hE hi
 obtain ⟨I, rfl⟩ : ∃ I : Nat, i = (I : Int) := ⟨i.toNat, by omega⟩
 have hX : orthE P M Mod N gen I checks = if lsE (orderF P M) N checks checks.length ≠ 0 then lsE (orderF P M) N checks checks.length else if (orT (okG (refOps P M Mod) gen N I) I N checks checks.length).isSome then 0 else 13 := by
  unfold orthE; rw [if_neg (by simp [hE]), if_neg hi, Int.toNat_natCast, Int.toNat_natCast]
 refine mOrth_core w P M N I checks.length mv gv cv Mod gen checks _ (okG (refOps P M Mod) gen N I) hm hg hc hE (by omega) rfl hc.len' (fun h hh => ?_) (fun k hk h0 h1 => ?_) (fun h0 h1 => ?_) (fun h0 u h1 => ?_)
 ·have h2 := listF_zero hh
  unfold okG
  rw [inL_dots (ref_fld hf) hR (by omega) (fun k => by
   by_cases hk : k < h.length
   ·exact h2.2 k hk
   ·rw [getD_len (by omega)]; have := orderF_bounds P M; have := one_lt_order hf.1; omega)]
 ·have h2 := lsE_first h0 h1
  rw [hX, lsE_stop (k := k + 1) (by rw [h2]; exact h1) _ (by omega), h2, if_pos h1]
 ·rw [hX, lsE_all h0, if_neg (by simp), h1]; rfl
 ·rw [hX, lsE_all h0, if_neg (by simp), h1]; rfl
theorem rOrth_any (w : World) (P M n i : Int) (mv gv cv : Value) (Mod : List Int) (gen checks : List (List Int)) (hm : SI w mv Mod) (hg : SS w gv gen) (hc : SS w cv checks) :
  Calls Tryz.prog 37 #[.agg #[.int .i64 P, .int .i64 M, mv, .int .i64 n, gv], .int .i64 i, cv] w (RetI w (orthE P M Mod n gen i checks)) := by
 by_cases hE : codeE P M Mod n gen = 0
 case neg => rw [show orthE P M Mod n gen i checks = codeE P M Mod n gen by unfold orthE; rw [if_pos hE]]; exact rOrth_no w P M n i mv gv cv Mod gen checks hm hg hc hE
 obtain ⟨hf, hn1, hn2, _, hR, _⟩ := codeE_zero hE
 obtain ⟨N, rfl⟩ : ∃ N : Nat, n = (N : Int) := ⟨n.toNat, by omega⟩
 rw [Int.toNat_natCast] at hR
 by_cases hi : i < 0 ∨ (N : Int) ≤ i
 ·rw [show orthE P M Mod N gen i checks = 6 by unfold orthE; rw [if_neg (by simp [hE]), if_pos hi]]; exact rOrth_rng w P M N i mv gv cv Mod gen checks hm hg hc hE hi
 obtain ⟨I, rfl⟩ : ∃ I : Nat, i = (I : Int) := ⟨i.toNat, by omega⟩
 have hX : orthE P M Mod N gen I checks = if lsE (orderF P M) N checks checks.length ≠ 0 then lsE (orderF P M) N checks checks.length else if (orT (okG (refOps P M Mod) gen N I) I N checks checks.length).isSome then 0 else 13 := by
  unfold orthE; rw [if_neg (by simp [hE]), if_neg hi, Int.toNat_natCast, Int.toNat_natCast]
 refine rOrth_core w P M N I checks.length mv gv cv Mod gen checks _ hm hg hc hE (by omega) rfl hc.len' (fun k hk h0 h1 => ?_) (fun h0 h1 => ?_) (fun h0 u h1 => ?_)
 ·have h2 := lsE_first h0 h1
  rw [hX, lsE_stop (k := k + 1) (by rw [h2]; exact h1) _ (by omega), h2, if_pos h1]
 ·rw [hX, lsE_all h0, if_neg (by simp), h1]; rfl
 ·rw [hX, lsE_all h0, if_neg (by simp), h1]; rfl
section
variable {ops : Array Oper} {o : Oper} {a : Act} {w : World} {K : Act → World → Prop} {Q : Exit → Act → World → Prop} {E : Prop}
theorem step_catG (hw : Region.wanted o (yielded ops a.tmps) = true) (s x : Operand)
  (ho : o.op = .call { callee := .builtin .append, args := #[s, x], argTypes := #[25, 25] })
  (B : Nat) (wA : World) (v u : Value) (xss yss : List (List Int)) (hs : a.eval s = v) (hown : OS B (fun _ => False) w v xss) (hx : a.eval x = u)
  (hu : SS wA u yss) (hbA : Below wA.heap.size wA w) (hAB : wA.heap.size ≤ B)
  (hl : xss.length + yss.length ≤ 4398046511104) (hB : B ≤ w.heap.size)
  (h : ∀ v' w', OS B (fun _ => False) w' v' (xss ++ yss) → w.grownBy w' v.ownBlock → K (a.put o.dst v') w') :
  if Region.wanted o (yielded ops a.tmps) = true then Oper.wp Tryz.prog o a w K Q else E := by
 rw [if_pos hw]
 exact wp_catO s x ho B wA v u xss yss hs hown hx hu hbA hAB hl hB h
theorem step_pushG (hw : Region.wanted o (yielded ops a.tmps) = true) (s x : Operand)
  (ho : o.op = .call { callee := .builtin .append, args := #[s, x], argTypes := #[25, 25] })
  (B : Nat) (X : Nat → Prop) (v : Value) (xss : List (List Int)) (hs : a.eval s = v) (hown : OS B X w v xss) (g c : Nat) (u : Value) (ys : List Int) (hx : a.eval x = .slice (some ⟨g, 0, none⟩) 1 c) (hc : w.cell? ⟨g, 0, none⟩ = some u)
  (hu : SI w u ys) (hux : 0 < ys.length → ∀ g, u.ownBlock = some g → v.ownBlock ≠ some g ∧ ¬ X g)
  (hl : xss.length + 1 ≤ 4398046511104) (hB : B ≤ w.heap.size)
  (h : ∀ v' w', OS B X w' v' (xss ++ [ys]) → w.grownBy w' v.ownBlock → (v'.ownBlock = v.ownBlock ∨ v'.ownBlock = some w.heap.size) → K (a.put o.dst v') w') :
  if Region.wanted o (yielded ops a.tmps) = true then Oper.wp Tryz.prog o a w K Q else E := by
 rw [if_pos hw]
 exact wp_pushS s x ho B X v xss hs hown g c u ys hx hc hu hux hl hB h
end
theorem mk_emptyW (w : World) : ∃ w' g, w.alloc (.cells #[] 22) = w' ∧ w.heap.size = g ∧ OS w.heap.size (fun _ => False) w' (.slice (some ⟨g, 0, none⟩) 0 0) [] ∧ Below w.heap.size w w' :=
 ⟨_, _, rfl, rfl, OS.empty w (Nat.le_refl _), bl_alloc w _⟩
theorem mk_rowW (w : World) (n : Nat) (hn : n ≤ 1000) : ∃ w' g, w.alloc (.cells (madeCells #[.int .i64 0] n) 3) = w' ∧ w.heap.size = g ∧ SI w' (.slice (some ⟨g, 0, none⟩) n n) (List.replicate n 0) ∧ Below w.heap.size w w' := by
 refine ⟨_, _, rfl, rfl, ?_, bl_alloc w _⟩
 have h := (RI.made w n).si (by rw [List.length_replicate]; omega) (fun k => by by_cases hk : k < n <;> simp [List.getD, hk] <;> exact I64.zero)
 rw [List.length_replicate] at h
 exact h
theorem zeros_word {P M : Int} {Mod : List Int} {N : Nat} {gen : List (List Int)} (hE : codeE P M Mod N gen = 0) : wordE P M Mod N gen (List.replicate N 0) = 0 := by
 have h1 := (codeE_zero hE).1
 have h2 := one_lt_order h1.1
 unfold wordE
 rw [if_pos hE]
 unfold listF
 rw [if_pos (by rw [List.length_replicate])]
 refine entriesF_ok fun k hk => ?_
 rw [List.length_replicate] at hk
 simp [List.getD, hk]; omega
theorem rfdTo_len (ok : List (List Int) → Bool) (i : Nat) (l : List (List Int)) : ∀ k, (rfdTo ok i l k).length ≤ k
 | 0 => Nat.le_refl _
 | k + 1 => by
  have := rfdTo_len ok i l k
  rw [rfdTo]; unfold stepR
  split
  ·rw [List.length_append, List.length_singleton]; omega
  ·omega
set_option maxHeartbeats 32000000 in
theorem rFind_ok (w : World) (P M : Int) (N I x q : Nat) (mv gv : Value) (Mod : List Int) (gen : List (List Int)) (hm : SI w mv Mod) (hg : SS w gv gen) (hE : codeE P M Mod N gen = 0) (hq : orderF P M = (q : Int)) (hI : I < N) (hx1 : 1 ≤ x) (hx2 : x ≤ N) (hb : q ^ (nullL (refOps P M Mod) gen N).length ≤ 65536) :
   Calls Tryz.prog 11 #[.agg #[.int .i64 P, .int .i64 M, mv, .int .i64 (N : Int), gv], .int .i64 (I : Int), .int .i64 (x : Int)] w (fun e w' => ∃ v, e = .returned (.tuple #[v, .int .i64 0]) ∧
     OS w.heap.size (fun _ => False) w' v (rfdTo (fun out => orthE P M Mod N gen I out == 0) I (wthL x N (wordsL (refOps P M Mod) q N (nullL (refOps P M Mod) gen N))) (wthL x N (wordsL (refOps P M Mod) q N (nullL (refOps P M Mod) gen N))).length) ∧ Below w.heap.size w w') := by
 obtain ⟨hf, hn1, hn2, hgl, hR, hcan⟩ := codeE_zero hE
 have hO := ref_fld hf
 rw [Int.toNat_natCast] at hR
 have hED := codeE_mk hf (by omega) (by omega) (Cn.null hO hR)
 have HCK := Lib.hid (fun (w' : World) (hb : Below w.heap.size w w') => rCCheck_any w' P M N mv gv Mod gen (hm.below hb (Nat.le_refl _)) (hg.below hb (Nat.le_refl _)))
 rw [hE] at HCK
 have HSD := Lib.hid (fun (w' : World) (hb : Below w.heap.size w w') => rSide_ok w' P M N mv gv Mod gen (hm.below hb (Nat.le_refl _)) (hg.below hb (Nat.le_refl _)) hE)
 unfold RetC at HSD
 have HOR := Lib.hid (fun (w' : World) (cv : Value) (cs : List (List Int)) (hb : Below w.heap.size w w') (hc : SS w' cv cs) => rOrth_any w' P M N I mv gv cv Mod gen cs (hm.below hb (Nat.le_refl _)) (hg.below hb (Nat.le_refl _)) hc)
 obtain ⟨D, hD⟩ : ∃ D, D = nullL (refOps P M Mod) gen N := ⟨_, rfl⟩
 rw [← hD] at hED HSD hb ⊢
 have HWI := Lib.hid (fun (w9 : World) (mv9 gv9 yv9 : Value) (h1 : SI w9 mv9 Mod) (h2 : SS w9 gv9 D) (h3 : SI w9 yv9 (List.replicate N 0)) => rWithin_ok w9 P M N q x mv9 gv9 yv9 Mod (List.replicate N 0) D h1 h2 h3 (by simp) (zeros_word hED) hED hq hb hx2)
 obtain ⟨l, hl⟩ : ∃ l, l = wthL x N (wordsL (refOps P M Mod) q N D) := ⟨_, rfl⟩
 have hwl : ((wordsL (refOps P M Mod) q N D).filter fun h => dstN h (List.replicate N 0) N == x) = l := by
   rw [hl]; unfold wthL
   exact congrArg (fun p => List.filter p _) (funext fun h => by rw [dst_wt])
 rw [hwl] at HWI
 have hll : l.length ≤ 65536 := by rw [hl]; unfold wthL; exact Nat.le_trans (List.length_filter_le _ _) (by rw [wordsL_len]; exact hb)
 have HLY : Hid (∀ k, k < l.length → (l.getD k []).length = N) := hid' fun k hk => by
   have hmem : l.getD k [] ∈ l := by rw [List.getD_eq_getElem?_getD, List.getElem?_eq_getElem hk]; exact List.getElem_mem hk
   have hsub : ∀ y, y ∈ l → y ∈ wordsL (refOps P M Mod) q N D := fun y hy => by
     rw [hl] at hy; unfold wthL at hy; exact (List.mem_filter.1 hy).1
   have h1 := hsub _ hmem
   generalize l.getD k [] = y at h1 ⊢
   obtain ⟨j, hj, rfl⟩ := List.mem_iff_getElem.1 h1
   have hj2 := hj
   rw [wordsL_len] at hj2
   have h2 := congrArg List.length (wordsL_at (O := refOps P M Mod) (n := N) hj2)
   rw [pwL_len] at h2
   simpa [List.getD, hj] using h2
 rw [← hl]
 have HST : Hid (∀ k, k < l.length → rfdTo (fun out => orthE P M Mod N gen I out == 0) I l (k + 1) = if (l.getD k []).getD I 0 = 1 ∧ orthE P M Mod N gen I (rfdTo (fun out => orthE P M Mod N gen I out == 0) I l k ++ [l.getD k []]) = 0 then rfdTo (fun out => orthE P M Mod N gen I out == 0) I l k ++ [l.getD k []] else rfdTo (fun out => orthE P M Mod N gen I out == 0) I l k) := hid' fun k hk => by
   rw [rfdTo]; unfold stepR
   simp only [beq_iff_eq]
 have HRL := Lib.hid (fun k => rfdTo_len (fun out => orthE P M Mod N gen I out == 0) I l k)
 have HR0 : Hid (rfdTo (fun out => orthE P M Mod N gen I out == 0) I l 0 = []) := rfl
 obtain ⟨RF, hRF⟩ : ∃ RF, RF = rfdTo (fun out => orthE P M Mod N gen I out == 0) I l := ⟨_, rfl⟩
 rw [← hRF] at HST HRL HR0 ⊢
 obtain ⟨oE, hoE⟩ : ∃ oE, oE = orthE P M Mod N gen I := ⟨_, rfl⟩
 rw [← hoE] at HOR HST
 obtain ⟨c, hc⟩ : ∃ c, c = l.length := ⟨_, rfl⟩
 have HLN := Lib.hid hc
 rw [← hc] at hll HLY HST ⊢
 have hN : N ≤ 64 := by omega
 have hmk := fun (w : World) => run_mkI N (by omega) w
 obtain ⟨GA, gc, rfl, _⟩ := hg
 generalize gen.length = gl at *
 clear hm hE hf hn1 hn2 hgl hR hcan hO hED hq hb hD hl hwl hRF hoE hc
 have HF := Lib.hid (CBox.mk' w P M mv N (.slice GA gl gc))
 go_enter Tryz.func11, Tryz.ntmps11
 go_upto_region 1 with fail
 generalize w.alloc (.cells #[.int .i64 P, .int .i64 M, mv, .int .i64 (N : Int), .slice GA gl gc] 27) = w0 at *
 have c0 := HF.out.c0; have c1 := HF.out.c1; have c2 := HF.out.c2; have c3 := HF.out.c3; have c4 := HF.out.c4
 go_wp2_with fail
 refine (HCK.out w0 HF.out.bel).mono ?_
 rintro e w2 ⟨rfl, hb2⟩
 have HF2 := Lib.hid (HF.out.on hb2)
 have HB2 := Lib.hid HF2.out.bel
 clear hb2 c0 c1 c2 c3 c4 HF
 have c0 := HF2.out.c0; have c1 := HF2.out.c1; have c2 := HF2.out.c2; have c3 := HF2.out.c3; have c4 := HF2.out.c4
 have n1 : decide ((I : Int) < 0) = false := decide_eq_false (by omega)
 have n2 : decide ((N : Int) ≤ (I : Int)) = false := decide_eq_false (by omega)
 have n3 : decide (N ≤ I) = false := decide_eq_false (by omega)
 have n4 : decide ((x : Int) < 1) = false := decide_eq_false (by omega)
 have n5 : decide ((N : Int) < (x : Int)) = false := decide_eq_false (by omega)
 have n6 : decide (N < x) = false := decide_eq_false (by omega)
 go_upto_region 6 with fail
 clear n1 n2 n3 n4 n5 n6
 go_cut [8, 9] from 35 to 45 (fun t8 t9 wc => t8 = .int .i64 0 ∧ Hid (OS w2.heap.size (fun _ => False) wc t9 l) ∧ Hid (Below w2.heap.size w2 wc))
 case first =>
   refine Kept.start (S := fun w' => w'.cell? ⟨w.heap.size, 0, none⟩ = some (.int .i64 P) ∧ w'.cell? ⟨w.heap.size, 1, none⟩ = some (.int .i64 M) ∧ w'.cell? ⟨w.heap.size, 2, none⟩ = some mv ∧ w'.cell? ⟨w.heap.size, 3, none⟩ = some (.int .i64 (N : Int)) ∧ w'.cell? ⟨w.heap.size, 4, none⟩ = some (.slice GA gl gc)) (by kernel_rfl) (⟨c0, c1, c2, c3, c4⟩) (fun hHeld => ?_)
   change Kept _ _ _ _ 13 _ _ _
   have hdrew := bl_drew w2
   generalize w2.drew = wq1 at hdrew hHeld ⊢
   have HBB := Lib.hid hdrew
   clear c0 c1 c2 c3 c4
   clear hdrew
   refine Kept.tk 0 (v := ?_) rfl ?_ hHeld ?_
   rotate_left
   · intro w' h; (try dsimp only at h); go_simp <;> with_reducible rfl
   try simp only [tda, tdb, tdc, Act.put, tdd, tde, tdf]
   refine Kept.tk 2 (v := ?_) rfl ?_ hHeld ?_
   rotate_left
   · intro w' h; (try dsimp only at h); go_simp <;> with_reducible rfl
   try simp only [tda, tdb, tdc, Act.put, tdd, tde, tdf]
   refine Kept.tk 3 (v := ?_) rfl ?_ hHeld ?_
   rotate_left
   · intro w' h; (try dsimp only at h); go_simp <;> with_reducible rfl
   try simp only [tda, tdb, tdc, Act.put, tdd, tde, tdf]
   refine Kept.tk 5 (v := ?_) rfl ?_ hHeld ?_
   rotate_left
   · intro w' h; (try dsimp only at h); go_simp <;> with_reducible rfl
   try simp only [tda, tdb, tdc, Act.put, tdd, tde, tdf]
   refine Kept.tk 6 (v := ?_) rfl ?_ hHeld ?_
   rotate_left
   · intro w' h; (try dsimp only at h); go_simp <;> with_reducible rfl
   try simp only [tda, tdb, tdc, Act.put, tdd, tde, tdf]
   refine Kept.two (i := 1) (j := 4) (oi := ?opa2) (oj := ?opb2) (by kernel_rfl) ?hoa2 ?hob2 (fun K hK => ?way12) (fun K hK => ?way22)
   case hoa2 => (conv => lhs; simp only [tdg, tdh, tdi])
   case hob2 => (conv => lhs; simp only [tdg, tdh, tdi])
   case way12 =>
     go_simp
     refine (HSD.out _ (bl_trans HB2.out HBB.out)).mono ?_
     rintro e wq3 ⟨u, g, rfl, hx, hb⟩
     have HXM := Lib.hid hx.out.1
     have HXG := Lib.hid hx.out.2
     replace HBB := Lib.hid (bl_trans HBB.out hb)
     clear hb hx
     refine hK.out _ _ (⟨(HF2.out.on HBB.out).c0, (HF2.out.on HBB.out).c1, (HF2.out.on HBB.out).c2, (HF2.out.on HBB.out).c3, (HF2.out.on HBB.out).c4⟩) (fun hHeld2 => ?_)
     clear hK K
     replace hHeld := hHeld2
     clear hHeld2
     try simp only [tda, tdb, tdc, Act.put, tdd, tde, tdf]
     refine Kept.only (i := 4) (o := ?op4) (by kernel_rfl) ?ho4 (fun K hK => ?_)
     case ho4 => (conv => lhs; simp only [tdg, tdh, tdi])
     go_simp
     obtain ⟨wq5, gy, e1, e2, hR, hb⟩ := mk_rowW wq3 N (by omega)
     rw [e1, e2]
     have HYR := Lib.hid hR
     replace HXM := Lib.hid (HXM.out.below hb (Nat.le_refl _)) 
     replace HXG := Lib.hid (HXG.out.below hb (Nat.le_refl _)) 
     replace HBB := Lib.hid (bl_trans HBB.out hb)
     clear e1 e2 hR hb
     refine hK.out _ _ (⟨(HF2.out.on HBB.out).c0, (HF2.out.on HBB.out).c1, (HF2.out.on HBB.out).c2, (HF2.out.on HBB.out).c3, (HF2.out.on HBB.out).c4⟩) (fun hHeld2 => ?_)
     clear hK K
     replace hHeld := hHeld2
     clear hHeld2
     try simp only [tda, tdb, tdc, Act.put, tdd, tde, tdf]
     refine Kept.only (i := 7) (o := ?op6) (by kernel_rfl) ?ho6 (fun K hK => ?_)
     case ho6 => (conv => lhs; simp only [tdg, tdh, tdi])
     have hbs0 := HBB.out.size
     go_simp
     refine (HWI.out _ _ _ _ HXM.out HXG.out HYR.out).mono ?_
     rintro e wq7 ⟨lv, rfl, hlo, hb⟩
     have HLO := Lib.hid (hlo.mono hbs0)
     replace HBB := Lib.hid (bl_trans HBB.out hb)
     clear hb hlo hbs0
     refine hK.out _ _ (⟨(HF2.out.on HBB.out).c0, (HF2.out.on HBB.out).c1, (HF2.out.on HBB.out).c2, (HF2.out.on HBB.out).c3, (HF2.out.on HBB.out).c4⟩) (fun hHeld2 => ?_)
     clear hK K
     replace hHeld := hHeld2
     clear hHeld2
     try simp only [tda, tdb, tdc, Act.put, tdd, tde, tdf]
     refine Kept.tk 8 (v := ?_) rfl ?_ hHeld ?_
     rotate_left
     · intro w' h; (try dsimp only at h); go_simp <;> with_reducible rfl
     try simp only [tda, tdb, tdc, Act.put, tdd, tde, tdf]
     refine Kept.tk 9 (v := ?_) rfl ?_ hHeld ?_
     rotate_left
     · intro w' h; (try dsimp only at h); go_simp <;> with_reducible rfl
     try simp only [tda, tdb, tdc, Act.put, tdd, tde, tdf]
     refine Kept.tk 10 (v := ?_) rfl ?_ hHeld ?_
     rotate_left
     · intro w' h; (try dsimp only at h); go_simp <;> with_reducible rfl
     try simp only [tda, tdb, tdc, Act.put, tdd, tde, tdf]
     refine Kept.tk 11 (v := ?_) rfl ?_ hHeld ?_
     rotate_left
     · intro w' h; (try dsimp only at h); go_simp <;> with_reducible rfl
     try simp only [tda, tdb, tdc, Act.put, tdd, tde, tdf]
     refine Kept.only (i := 12) (by kernel_rfl) rfl (fun K hK => ?_)
     go_simp
     refine hK.out _ _ hHeld (fun hHeld2 => ?_)
     clear hK K
     clear hHeld2
     refine Kept.done (by kernel_rfl) ?_
     try simp only [tda, tdb, tdc, Act.put, tdd, tde, tdf]
     clear hHeld
     go_wp2_with fail
     go_meet
     exact ⟨rfl, HLO, HBB⟩
   case way22 =>
     go_simp
     obtain ⟨wq8, gy, e1, e2, hR, hb⟩ := mk_rowW wq1 N (by omega)
     rw [e1, e2]
     have HYR := Lib.hid hR
     replace HBB := Lib.hid (bl_trans HBB.out hb)
     clear e1 e2 hR hb
     refine hK.out _ _ (⟨(HF2.out.on HBB.out).c0, (HF2.out.on HBB.out).c1, (HF2.out.on HBB.out).c2, (HF2.out.on HBB.out).c3, (HF2.out.on HBB.out).c4⟩) (fun hHeld2 => ?_)
     clear hK K
     replace hHeld := hHeld2
     clear hHeld2
     try simp only [tda, tdb, tdc, Act.put, tdd, tde, tdf]
     refine Kept.only (i := 1) (o := ?op9) (by kernel_rfl) ?ho9 (fun K hK => ?_)
     case ho9 => (conv => lhs; simp only [tdg, tdh, tdi])
     go_simp
     refine (HSD.out _ (bl_trans HB2.out HBB.out)).mono ?_
     rintro e wq10 ⟨u, g, rfl, hx, hb⟩
     have HXM := Lib.hid hx.out.1
     have HXG := Lib.hid hx.out.2
     replace HYR := Lib.hid (HYR.out.below hb (Nat.le_refl _)) 
     replace HBB := Lib.hid (bl_trans HBB.out hb)
     clear hb hx
     refine hK.out _ _ (⟨(HF2.out.on HBB.out).c0, (HF2.out.on HBB.out).c1, (HF2.out.on HBB.out).c2, (HF2.out.on HBB.out).c3, (HF2.out.on HBB.out).c4⟩) (fun hHeld2 => ?_)
     clear hK K
     replace hHeld := hHeld2
     clear hHeld2
     try simp only [tda, tdb, tdc, Act.put, tdd, tde, tdf]
     refine Kept.only (i := 7) (o := ?op11) (by kernel_rfl) ?ho11 (fun K hK => ?_)
     case ho11 => (conv => lhs; simp only [tdg, tdh, tdi])
     have hbs0 := HBB.out.size
     go_simp
     refine (HWI.out _ _ _ _ HXM.out HXG.out HYR.out).mono ?_
     rintro e wq12 ⟨lv, rfl, hlo, hb⟩
     have HLO := Lib.hid (hlo.mono hbs0)
     replace HBB := Lib.hid (bl_trans HBB.out hb)
     clear hb hlo hbs0
     refine hK.out _ _ (⟨(HF2.out.on HBB.out).c0, (HF2.out.on HBB.out).c1, (HF2.out.on HBB.out).c2, (HF2.out.on HBB.out).c3, (HF2.out.on HBB.out).c4⟩) (fun hHeld2 => ?_)
     clear hK K
     replace hHeld := hHeld2
     clear hHeld2
     try simp only [tda, tdb, tdc, Act.put, tdd, tde, tdf]
     refine Kept.tk 8 (v := ?_) rfl ?_ hHeld ?_
     rotate_left
     · intro w' h; (try dsimp only at h); go_simp <;> with_reducible rfl
     try simp only [tda, tdb, tdc, Act.put, tdd, tde, tdf]
     refine Kept.tk 9 (v := ?_) rfl ?_ hHeld ?_
     rotate_left
     · intro w' h; (try dsimp only at h); go_simp <;> with_reducible rfl
     try simp only [tda, tdb, tdc, Act.put, tdd, tde, tdf]
     refine Kept.tk 10 (v := ?_) rfl ?_ hHeld ?_
     rotate_left
     · intro w' h; (try dsimp only at h); go_simp <;> with_reducible rfl
     try simp only [tda, tdb, tdc, Act.put, tdd, tde, tdf]
     refine Kept.tk 11 (v := ?_) rfl ?_ hHeld ?_
     rotate_left
     · intro w' h; (try dsimp only at h); go_simp <;> with_reducible rfl
     try simp only [tda, tdb, tdc, Act.put, tdd, tde, tdf]
     refine Kept.only (i := 12) (by kernel_rfl) rfl (fun K hK => ?_)
     go_simp
     refine hK.out _ _ hHeld (fun hHeld2 => ?_)
     clear hK K
     clear hHeld2
     refine Kept.done (by kernel_rfl) ?_
     try simp only [tda, tdb, tdc, Act.put, tdd, tde, tdf]
     clear hHeld
     go_wp2_with fail
     go_meet
     exact ⟨rfl, HLO, HBB⟩
 case rest =>
   clear c0 c1 c2 c3 c4 hmk
   obtain ⟨rfl, HLO, HBB⟩ := hcut
   have HF3 := Lib.hid (HF2.out.on HBB.out)
   obtain ⟨LA, lc, hlv⟩ := HLO.out.form
   rw [hlv] at HLO ⊢
   clear hlv
   have HLS := Lib.hid (HLO.out.ss (by rw [← HLN.out]; omega))
   rw [← HLN.out] at HLS ⊢
   clear HLO HF2
   have HE0 : Hid (OS wc.heap.size (fun _ => False) (wc.alloc (.cells #[] 22)) (.slice (some ⟨wc.heap.size, 0, none⟩) 0 0) (RF 0)) := hid' (by rw [HR0.out]; exact OS.empty wc (Nat.le_refl _))
   have HBE := Lib.hid (bl_alloc wc (.cells #[] 22))
   have HSW : Hid (w.heap.size ≤ wc.heap.size) := hid' HF3.out.bel.size
   go_wp2_with fail
   generalize wc.alloc (.cells #[] 22) = w3 at *
   go_loopw [10, 11] (fun out i wr => ∃ k : Nat, k ≤ c ∧ i = .int .i64 (k : Int) ∧ Hid (OS wc.heap.size (fun _ => False) wr out (RF k)) ∧ Hid (Below wc.heap.size wc wr)) (fun _ i _ => c - (intOf i).toNat)
   case atStart => exact ⟨0, Nat.zero_le _, rfl, HE0, HBE⟩
   case round =>
     clear HE0 HBE
     obtain ⟨k, hk, rfl, HO, HZ⟩ := hrel
     by_cases hlt : k < c
     · obtain ⟨ad, Ak, ck, xs, rfl, hc0, HX, HXE⟩ := HLS.out.eltA (k := k) (by rw [← HLN.out]; exact hlt)
       have hxl := HLY.out k hlt
       rw [HXE.out] at hxl
       have HS2 := Lib.hid HX.out.si
       have HSK := Lib.hid (HST.out k hlt)
       rw [HXE.out] at HSK
       rw [hxl] at hc0 HS2
       have HXL := Lib.hid hxl
       have HC0 := Lib.hid hc0
       clear hc0 HX hxl
       have hcr := cell_below HZ.out HC0.out
       obtain ⟨xd, y, rfl, hyc, _, HYE⟩ := (HS2.out.below HZ.out (Nat.le_refl _)).elt (k := I) (by rw [HXL.out]; exact hI)
       have HFr := Lib.hid (HF3.out.on HZ.out)
       have hrl := HRL.out k
       have c0 := HFr.out.c0; have c1 := HFr.out.c1; have c2 := HFr.out.c2; have c3 := HFr.out.c3; have c4 := HFr.out.c4
       rw [HYE.out] at HSK
       by_cases hy1 : y = 1
       case neg =>
         have e1 : (y == 1) = false := by rw [beq_eq_false_iff_ne]; exact hy1
         have HSN : Hid (RF (k + 1) = RF k) := hid' (by rw [HSK.out, if_neg (fun h => hy1 h.1)])
         clear hy1
         go_wp2_with fail
         refine Kept.start (S := fun w' => w'.cell? ⟨w.heap.size, 0, none⟩ = some (.int .i64 P) ∧ w'.cell? (ad.add k) = some (.slice (some xd) N ck) ∧ w'.cell? (xd.add I) = some (.int .i64 y)) (by kernel_rfl) (⟨c0, hcr, hyc⟩) (fun hHeld => ?_)
         change Kept _ _ _ _ 23 _ _ _
         refine Kept.tk 0 (v := ?_) rfl ?_ hHeld ?_
         rotate_left
         · intro w' h; (try dsimp only at h); go_simp <;> with_reducible rfl
         try simp only [tda, tdb, tdc, Act.put, tdd, tde, tdf]
         refine Kept.tk 1 (v := ?_) rfl ?_ hHeld ?_
         rotate_left
         · intro w' h; (try dsimp only at h); go_simp <;> with_reducible rfl
         try simp only [tda, tdb, tdc, Act.put, tdd, tde, tdf]
         refine Kept.tk 2 (v := ?_) rfl ?_ hHeld ?_
         rotate_left
         · intro w' h; (try dsimp only at h); go_simp <;> with_reducible rfl
         try simp only [tda, tdb, tdc, Act.put, tdd, tde, tdf]
         refine Kept.tk 3 (v := ?_) rfl ?_ hHeld ?_
         rotate_left
         · intro w' h; (try dsimp only at h); go_simp <;> with_reducible rfl
         try simp only [tda, tdb, tdc, Act.put, tdd, tde, tdf]
         refine Kept.tk 4 (v := ?_) rfl ?_ hHeld ?_
         rotate_left
         · intro w' h; (try dsimp only at h); go_simp <;> with_reducible rfl
         try simp only [tda, tdb, tdc, Act.put, tdd, tde, tdf]
         refine Kept.tk 5 (v := ?_) rfl ?_ hHeld ?_
         rotate_left
         · intro w' h; (try dsimp only at h); go_simp <;> with_reducible rfl
         try simp only [tda, tdb, tdc, Act.put, tdd, tde, tdf]
         refine Kept.tk 6 (v := ?_) rfl ?_ hHeld ?_
         rotate_left
         · intro w' h; (try dsimp only at h); go_simp <;> with_reducible rfl
         try simp only [tda, tdb, tdc, Act.put, tdd, tde, tdf]
         refine Kept.tk 7 (v := ?_) rfl ?_ hHeld ?_
         rotate_left
         · intro w' h; (try dsimp only at h); go_simp <;> with_reducible rfl
         try simp only [tda, tdb, tdc, Act.put, tdd, tde, tdf]
         refine Kept.tk 8 (v := ?_) rfl ?_ hHeld ?_
         rotate_left
         · intro w' h; (try dsimp only at h); go_simp <;> with_reducible rfl
         try simp only [tda, tdb, tdc, Act.put, tdd, tde, tdf]
         refine Kept.take (i := 9) (v := undef) rfl (by kernel_rfl) (by kernel_rfl) (by kernel_rfl) (fun _ _ _ h => h) (Or.inr ⟨by kernel_rfl, rfl⟩) hHeld ?_
         try simp only [tda, tdb, tdc, Act.put, tdd, tde, tdf]
         refine Kept.take (i := 10) (v := undef) rfl (by kernel_rfl) (by kernel_rfl) (by kernel_rfl) (fun _ _ _ h => h) (Or.inr ⟨by kernel_rfl, rfl⟩) hHeld ?_
         try simp only [tda, tdb, tdc, Act.put, tdd, tde, tdf]
         refine Kept.take (i := 11) (v := undef) rfl (by kernel_rfl) (by kernel_rfl) (by kernel_rfl) (fun _ _ _ h => h) (Or.inr ⟨by kernel_rfl, rfl⟩) hHeld ?_
         try simp only [tda, tdb, tdc, Act.put, tdd, tde, tdf]
         refine Kept.take (i := 12) (v := undef) rfl (by kernel_rfl) (by kernel_rfl) (by kernel_rfl) (fun _ _ _ h => h) (Or.inr ⟨by kernel_rfl, rfl⟩) hHeld ?_
         try simp only [tda, tdb, tdc, Act.put, tdd, tde, tdf]
         refine Kept.take (i := 13) (v := undef) rfl (by kernel_rfl) (by kernel_rfl) (by kernel_rfl) (fun _ _ _ h => h) (Or.inr ⟨by kernel_rfl, rfl⟩) hHeld ?_
         try simp only [tda, tdb, tdc, Act.put, tdd, tde, tdf]
         refine Kept.take (i := 14) (v := undef) rfl (by kernel_rfl) (by kernel_rfl) (by kernel_rfl) (fun _ _ _ h => h) (Or.inr ⟨by kernel_rfl, rfl⟩) hHeld ?_
         try simp only [tda, tdb, tdc, Act.put, tdd, tde, tdf]
         refine Kept.take (i := 15) (v := undef) rfl (by kernel_rfl) (by kernel_rfl) (by kernel_rfl) (fun _ _ _ h => h) (Or.inr ⟨by kernel_rfl, rfl⟩) hHeld ?_
         try simp only [tda, tdb, tdc, Act.put, tdd, tde, tdf]
         refine Kept.take (i := 16) (v := undef) rfl (by kernel_rfl) (by kernel_rfl) (by kernel_rfl) (fun _ _ _ h => h) (Or.inr ⟨by kernel_rfl, rfl⟩) hHeld ?_
         try simp only [tda, tdb, tdc, Act.put, tdd, tde, tdf]
         refine Kept.take (i := 17) (v := undef) rfl (by kernel_rfl) (by kernel_rfl) (by kernel_rfl) (fun _ _ _ h => h) (Or.inr ⟨by kernel_rfl, rfl⟩) hHeld ?_
         try simp only [tda, tdb, tdc, Act.put, tdd, tde, tdf]
         refine Kept.take (i := 18) (v := undef) rfl (by kernel_rfl) (by kernel_rfl) (by kernel_rfl) (fun _ _ _ h => h) (Or.inr ⟨by kernel_rfl, rfl⟩) hHeld ?_
         try simp only [tda, tdb, tdc, Act.put, tdd, tde, tdf]
         refine Kept.take (i := 19) (v := undef) rfl (by kernel_rfl) (by kernel_rfl) (by kernel_rfl) (fun _ _ _ h => h) (Or.inr ⟨by kernel_rfl, rfl⟩) hHeld ?_
         try simp only [tda, tdb, tdc, Act.put, tdd, tde, tdf]
         refine Kept.only (i := 20) (by kernel_rfl) rfl (fun K hK => ?_)
         go_simp
         refine hK.out _ _ hHeld (fun hHeld2 => ?_)
         clear hK K
         clear hHeld2
         try simp only [tda, tdb, tdc, Act.put, tdd, tde, tdf]
         refine Kept.take (i := 21) (v := undef) rfl (by kernel_rfl) (by kernel_rfl) (by kernel_rfl) (fun _ _ _ h => h) (Or.inr ⟨by kernel_rfl, rfl⟩) hHeld ?_
         try simp only [tda, tdb, tdc, Act.put, tdd, tde, tdf]
         refine Kept.only (i := 22) (by kernel_rfl) rfl (fun K hK => ?_)
         go_simp
         refine hK.out _ _ hHeld (fun hHeld2 => ?_)
         clear hK K
         clear hHeld2
         refine Kept.done (by kernel_rfl) ?_
         try simp only [tda, tdb, tdc, Act.put, tdd, tde, tdf]
         clear hHeld
         go_wp2_with fail
         exact ⟨⟨k + 1, by omega, by push_cast; rfl, by rw [HSN.out]; exact HO.out.below (bl_drew _), bl_trans HZ.out (bl_drew _)⟩, by simp only [intOf]; omega⟩
       subst hy1
       obtain ⟨er, her⟩ : ∃ er, er = oE (RF k ++ [xs]) := ⟨_, rfl⟩
       have HER := Lib.hid her
       have HSI := Lib.hid (HS2.out.below HZ.out (Nat.le_refl _))
       have HOS := Lib.hid (HO.out.ss (by omega))
       have HSZ := Lib.hid HZ.out.size
       have HXB : Hid (0 < xs.length → ∀ g, (Value.slice (some xd) N ck).ownBlock = some g → g < wc.heap.size) := hid' fun h0 g hg => HS2.out.lt h0 hg
       have HCR := Lib.hid hcr; have HYC := Lib.hid hyc
       clear her
       by_cases her0 : er = 0
       · have e1 : (er == 0) = true := by rw [beq_iff_eq]; exact her0
         have HSY : Hid (RF (k + 1) = RF k ++ [xs]) := hid' (by rw [HSK.out, if_pos ⟨rfl, by rw [← HER.out]; exact her0⟩])
         clear her0
         go_wp2_with fail
         refine Kept.start (S := fun w' => w'.cell? ⟨w.heap.size, 0, none⟩ = some (.int .i64 P) ∧ w'.cell? ⟨w.heap.size, 1, none⟩ = some (.int .i64 M) ∧ w'.cell? ⟨w.heap.size, 2, none⟩ = some mv ∧ w'.cell? ⟨w.heap.size, 3, none⟩ = some (.int .i64 (N : Int)) ∧ w'.cell? ⟨w.heap.size, 4, none⟩ = some (.slice GA gl gc) ∧ w'.cell? (ad.add k) = some (.slice (some xd) N ck) ∧ w'.cell? (xd.add I) = some (.int .i64 1)) (by kernel_rfl) (⟨c0, c1, c2, c3, c4, hcr, hyc⟩) (fun hHeld => ?_)
         change Kept _ _ _ _ 23 _ _ _
         have hdrew := bl_drew wr
         generalize wr.drew = wq13 at hdrew hHeld ⊢
         have HBB := Lib.hid hdrew
         clear c0 c1 c2 c3 c4 hcr hyc
         clear hdrew
         refine Kept.tk 0 (v := ?_) rfl ?_ hHeld ?_
         rotate_left
         · intro w' h; (try dsimp only at h); go_simp <;> with_reducible rfl
         try simp only [tda, tdb, tdc, Act.put, tdd, tde, tdf]
         refine Kept.tk 1 (v := ?_) rfl ?_ hHeld ?_
         rotate_left
         · intro w' h; (try dsimp only at h); go_simp <;> with_reducible rfl
         try simp only [tda, tdb, tdc, Act.put, tdd, tde, tdf]
         refine Kept.tk 2 (v := ?_) rfl ?_ hHeld ?_
         rotate_left
         · intro w' h; (try dsimp only at h); go_simp <;> with_reducible rfl
         try simp only [tda, tdb, tdc, Act.put, tdd, tde, tdf]
         refine Kept.tk 3 (v := ?_) rfl ?_ hHeld ?_
         rotate_left
         · intro w' h; (try dsimp only at h); go_simp <;> with_reducible rfl
         try simp only [tda, tdb, tdc, Act.put, tdd, tde, tdf]
         refine Kept.tk 4 (v := ?_) rfl ?_ hHeld ?_
         rotate_left
         · intro w' h; (try dsimp only at h); go_simp <;> with_reducible rfl
         try simp only [tda, tdb, tdc, Act.put, tdd, tde, tdf]
         refine Kept.tk 5 (v := ?_) rfl ?_ hHeld ?_
         rotate_left
         · intro w' h; (try dsimp only at h); go_simp <;> with_reducible rfl
         try simp only [tda, tdb, tdc, Act.put, tdd, tde, tdf]
         refine Kept.tk 6 (v := ?_) rfl ?_ hHeld ?_
         rotate_left
         · intro w' h; (try dsimp only at h); go_simp <;> with_reducible rfl
         try simp only [tda, tdb, tdc, Act.put, tdd, tde, tdf]
         refine Kept.tk 7 (v := ?_) rfl ?_ hHeld ?_
         rotate_left
         · intro w' h; (try dsimp only at h); go_simp <;> with_reducible rfl
         try simp only [tda, tdb, tdc, Act.put, tdd, tde, tdf]
         refine Kept.tk 8 (v := ?_) rfl ?_ hHeld ?_
         rotate_left
         · intro w' h; (try dsimp only at h); go_simp <;> with_reducible rfl
         try simp only [tda, tdb, tdc, Act.put, tdd, tde, tdf]
         refine Kept.tk 9 (v := ?_) rfl ?_ hHeld ?_
         rotate_left
         · intro w' h; (try dsimp only at h); go_simp <;> with_reducible rfl
         try simp only [tda, tdb, tdc, Act.put, tdd, tde, tdf]
         refine Kept.tk 10 (v := ?_) rfl ?_ hHeld ?_
         rotate_left
         · intro w' h; (try dsimp only at h); go_simp <;> with_reducible rfl
         try simp only [tda, tdb, tdc, Act.put, tdd, tde, tdf]
         refine Kept.tk 12 (v := ?_) rfl ?_ hHeld ?_
         rotate_left
         · intro w' h; (try dsimp only at h); go_simp <;> with_reducible rfl
         try simp only [tda, tdb, tdc, Act.put, tdd, tde, tdf]
         refine Kept.tk 14 (v := ?_) rfl ?_ hHeld ?_
         rotate_left
         · intro w' h; (try dsimp only at h); go_simp <;> with_reducible rfl
         try simp only [tda, tdb, tdc, Act.put, tdd, tde, tdf]
         refine Kept.tk 15 (v := ?_) rfl ?_ hHeld ?_
         rotate_left
         · intro w' h; (try dsimp only at h); go_simp <;> with_reducible rfl
         try simp only [tda, tdb, tdc, Act.put, tdd, tde, tdf]
         refine Kept.tk 16 (v := ?_) rfl ?_ hHeld ?_
         rotate_left
         · intro w' h; (try dsimp only at h); go_simp <;> with_reducible rfl
         try simp only [tda, tdb, tdc, Act.put, tdd, tde, tdf]
         refine Kept.tk 17 (v := ?_) rfl ?_ hHeld ?_
         rotate_left
         · intro w' h; (try dsimp only at h); go_simp <;> with_reducible rfl
         try simp only [tda, tdb, tdc, Act.put, tdd, tde, tdf]
         refine Kept.two (i := 11) (j := 18) (oi := ?opa14) (oj := ?opb14) (by kernel_rfl) ?hoa14 ?hob14 (fun K hK => ?way114) (fun K hK => ?way214)
         case hoa14 => (conv => lhs; simp only [tdg, tdh, tdi])
         case hob14 => (conv => lhs; simp only [tdg, tdh, tdi])
         case way114 =>
           go_simp
           obtain ⟨wq15, ge, e1, e2, hR, hb⟩ := mk_emptyW wq13
           have HGE : Hid (wr.heap.size ≤ ge) := hid' (by rw [← e2]; exact HBB.out.size)
           have HEM := Lib.hid (hR.mono HBB.out.size)
           rw [e1, e2]
           replace HBB := Lib.hid (bl_trans HBB.out hb)
           clear e1 e2 hR hb
           refine hK.out _ _ (⟨(HFr.out.on HBB.out).c0, (HFr.out.on HBB.out).c1, (HFr.out.on HBB.out).c2, (HFr.out.on HBB.out).c3, (HFr.out.on HBB.out).c4, cb HBB HCR, cb HBB HYC⟩) (fun hHeld2 => ?_)
           clear hK K
           replace hHeld := hHeld2
           clear hHeld2
           try simp only [tda, tdb, tdc, Act.put, tdd, tde, tdf]
           refine Kept.two (i := 13) (j := 18) (oi := ?opa16) (oj := ?opb16) (by kernel_rfl) ?hoa16 ?hob16 (fun K hK => ?way116) (fun K hK => ?way216)
           case hoa16 => (conv => lhs; simp only [tdg, tdh, tdi])
           case hob16 => (conv => lhs; simp only [tdg, tdh, tdi])
           case way116 =>
             refine step_catG (by simp [go_sem, Region.wanted, yielded]) _ _ rfl wr.heap.size wr _ _ [] (RF k) rfl HEM.out rfl HOS.out HBB.out (Nat.le_refl _) (by rw [List.length_nil]; omega) HBB.out.size ?_
             intro u13 wq17 ho13 hg13
             rw [List.nil_append] at ho13
             have HCT := Lib.hid ho13
             replace HBB := Lib.hid (HEM.out.bgrown HBB.out HBB.out.size hg13)
             clear ho13 hg13 HEM
             refine hK.out _ _ (⟨(HFr.out.on HBB.out).c0, (HFr.out.on HBB.out).c1, (HFr.out.on HBB.out).c2, (HFr.out.on HBB.out).c3, (HFr.out.on HBB.out).c4, cb HBB HCR, cb HBB HYC⟩) (fun hHeld2 => ?_)
             clear hK K
             replace hHeld := hHeld2
             clear hHeld2
             try simp only [tda, tdb, tdc, Act.put, tdd, tde, tdf]
             refine Kept.only (i := 18) (o := ?op18) (by kernel_rfl) ?ho18 (fun K hK => ?_)
             case ho18 => (conv => lhs; simp only [tdg, tdh, tdi])
             go_simp
             obtain ⟨wq19, gX, e1, e2, hX, hb⟩ := mk_box wq17 22 [.slice (some xd) N ck]
             rw [e1, e2]
             have HBX := Lib.hid hX
             replace HCT := Lib.hid (HCT.out.below hb) 
             replace HBB := Lib.hid (bl_trans HBB.out hb)
             clear e1 e2 hX hb
             refine hK.out _ _ (⟨(HFr.out.on HBB.out).c0, (HFr.out.on HBB.out).c1, (HFr.out.on HBB.out).c2, (HFr.out.on HBB.out).c3, (HFr.out.on HBB.out).c4, cb HBB HCR, cb HBB HYC⟩) (fun hHeld2 => ?_)
             clear hK K
             replace hHeld := hHeld2
             clear hHeld2
             try simp only [tda, tdb, tdc, Act.put, tdd, tde, tdf]
             refine Kept.only (i := 19) (o := ?op20) (by kernel_rfl) ?ho20 (fun K hK => ?_)
             case ho20 => (conv => lhs; simp only [tdg, tdh, tdi])
             refine step_pushG (by simp [go_sem, Region.wanted, yielded]) _ _ rfl wr.heap.size (fun _ => False) _ (RF k) rfl HCT.out gX 1 _ xs rfl (HBX.out.cell 0) (HSI.out.below HBB.out (Nat.le_refl _)) (fun h0 g hg => ⟨fun e => by have h1 := (HCT.out.lt e).1; have h2 := HXB.out h0 g hg; have h3 := HSZ.out; omega, fun h => h⟩) (by omega) HBB.out.size ?_
             intro u19 wq21 ho19 hg19 hv19
             have HPU := Lib.hid ho19
             replace HBB := Lib.hid (HCT.out.bgrown HBB.out HBB.out.size hg19)
             clear ho19 hg19 hv19
             refine hK.out _ _ (⟨(HFr.out.on HBB.out).c0, (HFr.out.on HBB.out).c1, (HFr.out.on HBB.out).c2, (HFr.out.on HBB.out).c3, (HFr.out.on HBB.out).c4, cb HBB HCR, cb HBB HYC⟩) (fun hHeld2 => ?_)
             clear hK K
             replace hHeld := hHeld2
             clear hHeld2
             try simp only [tda, tdb, tdc, Act.put, tdd, tde, tdf]
             refine Kept.only (i := 20) (o := ?op22) (by kernel_rfl) ?ho22 (fun K hK => ?_)
             case ho22 => (conv => lhs; simp only [tdg, tdh, tdi])
             go_simp
             refine (HOR.out _ _ (RF k ++ [xs]) (bl_trans HFr.out.bel HBB.out) (HPU.out.ss (by rw [List.length_append, List.length_singleton]; omega))).mono ?_
             rintro e wq23 ⟨rfl, hb⟩
             rw [← HER.out]
             replace HBB := Lib.hid (bl_trans HBB.out hb)
             clear hb
             refine hK.out _ _ (⟨(HFr.out.on HBB.out).c0, (HFr.out.on HBB.out).c1, (HFr.out.on HBB.out).c2, (HFr.out.on HBB.out).c3, (HFr.out.on HBB.out).c4, cb HBB HCR, cb HBB HYC⟩) (fun hHeld2 => ?_)
             clear hK K
             replace hHeld := hHeld2
             clear hHeld2
             try simp only [tda, tdb, tdc, Act.put, tdd, tde, tdf]
             refine Kept.tk 21 (v := ?_) rfl ?_ hHeld ?_
             rotate_left
             · intro w' h; (try dsimp only at h); go_simp <;> with_reducible rfl
             try simp only [tda, tdb, tdc, Act.put, tdd, tde, tdf]
             refine Kept.only (i := 22) (by kernel_rfl) rfl (fun K hK => ?_)
             go_simp
             refine hK.out _ _ hHeld (fun hHeld2 => ?_)
             clear hK K
             clear hHeld2
             refine Kept.done (by kernel_rfl) ?_
             try simp only [tda, tdb, tdc, Act.put, tdd, tde, tdf]
             clear hHeld
             have hcz := cb HBB HCR
             go_wp2_with (at_builtin; refine wpList_pushS rfl _ _ rfl wc.heap.size (fun _ => False) _ (RF k) rfl ((HO.out.below HBB.out).alloc (.cells #[.slice (some xd) N ck] 22)) wq23.heap.size 1 _ xs rfl (box1 (w := wq23) (u := .slice (some xd) N ck) (t := 22)) (HSI.out.below (bl_trans HBB.out (bl_alloc wq23 (.cells #[.slice (some xd) N ck] 22))) (Nat.le_refl _)) (fun h0 g hg => ⟨fun e => by have h1 := (HO.out.lt e).1; have h2 := HXB.out h0 g hg; omega, fun h => h⟩) (by omega) (up_alloc (w := wq23) (B := wc.heap.size) (Nat.le_trans HSZ.out HBB.out.size) (.cells #[.slice (some xd) N ck] 22)) ?_; (intro v5 w5 ho5 hg5 hv5); go_must (have HZ5 := Lib.hid (((HO.out.below HBB.out).alloc (.cells #[.slice (some xd) N ck] 22)).bgrown (bl_trans HZ.out (bl_trans HBB.out (bl_alloc wq23 (.cells #[.slice (some xd) N ck] 22)))) (up_alloc (w := wq23) (B := wc.heap.size) (Nat.le_trans HSZ.out HBB.out.size) (.cells #[.slice (some xd) N ck] 22)) hg5); rw [← HSY.out] at ho5; have HO5 := Lib.hid ho5; clear ho5 hg5 hv5))
             exact ⟨⟨k + 1, by omega, by push_cast; rfl, HO5, HZ5⟩, by simp only [intOf]; omega⟩
           case way216 =>
             go_simp
             obtain ⟨wq24, gX, e1, e2, hX, hb⟩ := mk_box wq15 22 [.slice (some xd) N ck]
             rw [e1, e2]
             have HBX := Lib.hid hX
             have HNE : Hid (gX ≠ ge) := hid' (by have h1 := (HEM.out.lt (g := ge) rfl).2; omega)  
             replace HEM := Lib.hid (HEM.out.below hb)  
             replace HBB := Lib.hid (bl_trans HBB.out hb)
             clear e1 e2 hX hb
             refine hK.out _ _ (⟨(HFr.out.on HBB.out).c0, (HFr.out.on HBB.out).c1, (HFr.out.on HBB.out).c2, (HFr.out.on HBB.out).c3, (HFr.out.on HBB.out).c4, cb HBB HCR, cb HBB HYC⟩) (fun hHeld2 => ?_)
             clear hK K
             replace hHeld := hHeld2
             clear hHeld2
             try simp only [tda, tdb, tdc, Act.put, tdd, tde, tdf]
             refine Kept.only (i := 13) (o := ?op25) (by kernel_rfl) ?ho25 (fun K hK => ?_)
             case ho25 => (conv => lhs; simp only [tdg, tdh, tdi])
             refine step_catG (by simp [go_sem, Region.wanted, yielded]) _ _ rfl wr.heap.size wr _ _ [] (RF k) rfl HEM.out rfl HOS.out HBB.out (Nat.le_refl _) (by rw [List.length_nil]; omega) HBB.out.size ?_
             intro u13 wq26 ho13 hg13
             rw [List.nil_append] at ho13
             replace HBX := Lib.hid (HBX.out.grown hg13 (by intro e; have h1 : gX = ge := Option.some.inj e; exact HNE.out h1)) 
             have HCT := Lib.hid ho13
             replace HBB := Lib.hid (HEM.out.bgrown HBB.out HBB.out.size hg13)
             clear ho13 hg13 HEM
             refine hK.out _ _ (⟨(HFr.out.on HBB.out).c0, (HFr.out.on HBB.out).c1, (HFr.out.on HBB.out).c2, (HFr.out.on HBB.out).c3, (HFr.out.on HBB.out).c4, cb HBB HCR, cb HBB HYC⟩) (fun hHeld2 => ?_)
             clear hK K
             replace hHeld := hHeld2
             clear hHeld2
             try simp only [tda, tdb, tdc, Act.put, tdd, tde, tdf]
             refine Kept.only (i := 19) (o := ?op27) (by kernel_rfl) ?ho27 (fun K hK => ?_)
             case ho27 => (conv => lhs; simp only [tdg, tdh, tdi])
             refine step_pushG (by simp [go_sem, Region.wanted, yielded]) _ _ rfl wr.heap.size (fun _ => False) _ (RF k) rfl HCT.out gX 1 _ xs rfl (HBX.out.cell 0) (HSI.out.below HBB.out (Nat.le_refl _)) (fun h0 g hg => ⟨fun e => by have h1 := (HCT.out.lt e).1; have h2 := HXB.out h0 g hg; have h3 := HSZ.out; omega, fun h => h⟩) (by omega) HBB.out.size ?_
             intro u19 wq28 ho19 hg19 hv19
             have HPU := Lib.hid ho19
             replace HBB := Lib.hid (HCT.out.bgrown HBB.out HBB.out.size hg19)
             clear ho19 hg19 hv19
             refine hK.out _ _ (⟨(HFr.out.on HBB.out).c0, (HFr.out.on HBB.out).c1, (HFr.out.on HBB.out).c2, (HFr.out.on HBB.out).c3, (HFr.out.on HBB.out).c4, cb HBB HCR, cb HBB HYC⟩) (fun hHeld2 => ?_)
             clear hK K
             replace hHeld := hHeld2
             clear hHeld2
             try simp only [tda, tdb, tdc, Act.put, tdd, tde, tdf]
             refine Kept.only (i := 20) (o := ?op29) (by kernel_rfl) ?ho29 (fun K hK => ?_)
             case ho29 => (conv => lhs; simp only [tdg, tdh, tdi])
             go_simp
             refine (HOR.out _ _ (RF k ++ [xs]) (bl_trans HFr.out.bel HBB.out) (HPU.out.ss (by rw [List.length_append, List.length_singleton]; omega))).mono ?_
             rintro e wq30 ⟨rfl, hb⟩
             rw [← HER.out]
             replace HBB := Lib.hid (bl_trans HBB.out hb)
             clear hb
             refine hK.out _ _ (⟨(HFr.out.on HBB.out).c0, (HFr.out.on HBB.out).c1, (HFr.out.on HBB.out).c2, (HFr.out.on HBB.out).c3, (HFr.out.on HBB.out).c4, cb HBB HCR, cb HBB HYC⟩) (fun hHeld2 => ?_)
             clear hK K
             replace hHeld := hHeld2
             clear hHeld2
             try simp only [tda, tdb, tdc, Act.put, tdd, tde, tdf]
             refine Kept.tk 21 (v := ?_) rfl ?_ hHeld ?_
             rotate_left
             · intro w' h; (try dsimp only at h); go_simp <;> with_reducible rfl
             try simp only [tda, tdb, tdc, Act.put, tdd, tde, tdf]
             refine Kept.only (i := 22) (by kernel_rfl) rfl (fun K hK => ?_)
             go_simp
             refine hK.out _ _ hHeld (fun hHeld2 => ?_)
             clear hK K
             clear hHeld2
             refine Kept.done (by kernel_rfl) ?_
             try simp only [tda, tdb, tdc, Act.put, tdd, tde, tdf]
             clear hHeld
             have hcz := cb HBB HCR
             go_wp2_with (at_builtin; refine wpList_pushS rfl _ _ rfl wc.heap.size (fun _ => False) _ (RF k) rfl ((HO.out.below HBB.out).alloc (.cells #[.slice (some xd) N ck] 22)) wq30.heap.size 1 _ xs rfl (box1 (w := wq30) (u := .slice (some xd) N ck) (t := 22)) (HSI.out.below (bl_trans HBB.out (bl_alloc wq30 (.cells #[.slice (some xd) N ck] 22))) (Nat.le_refl _)) (fun h0 g hg => ⟨fun e => by have h1 := (HO.out.lt e).1; have h2 := HXB.out h0 g hg; omega, fun h => h⟩) (by omega) (up_alloc (w := wq30) (B := wc.heap.size) (Nat.le_trans HSZ.out HBB.out.size) (.cells #[.slice (some xd) N ck] 22)) ?_; (intro v5 w5 ho5 hg5 hv5); go_must (have HZ5 := Lib.hid (((HO.out.below HBB.out).alloc (.cells #[.slice (some xd) N ck] 22)).bgrown (bl_trans HZ.out (bl_trans HBB.out (bl_alloc wq30 (.cells #[.slice (some xd) N ck] 22)))) (up_alloc (w := wq30) (B := wc.heap.size) (Nat.le_trans HSZ.out HBB.out.size) (.cells #[.slice (some xd) N ck] 22)) hg5); rw [← HSY.out] at ho5; have HO5 := Lib.hid ho5; clear ho5 hg5 hv5))
             exact ⟨⟨k + 1, by omega, by push_cast; rfl, HO5, HZ5⟩, by simp only [intOf]; omega⟩
         case way214 =>
           go_simp
           obtain ⟨wq31, gX, e1, e2, hX, hb⟩ := mk_box wq13 22 [.slice (some xd) N ck]
           rw [e1, e2]
           have HBX := Lib.hid hX
           replace HBB := Lib.hid (bl_trans HBB.out hb)
           clear e1 e2 hX hb
           refine hK.out _ _ (⟨(HFr.out.on HBB.out).c0, (HFr.out.on HBB.out).c1, (HFr.out.on HBB.out).c2, (HFr.out.on HBB.out).c3, (HFr.out.on HBB.out).c4, cb HBB HCR, cb HBB HYC⟩) (fun hHeld2 => ?_)
           clear hK K
           replace hHeld := hHeld2
           clear hHeld2
           try simp only [tda, tdb, tdc, Act.put, tdd, tde, tdf]
           refine Kept.only (i := 11) (o := ?op32) (by kernel_rfl) ?ho32 (fun K hK => ?_)
           case ho32 => (conv => lhs; simp only [tdg, tdh, tdi])
           go_simp
           obtain ⟨wq33, ge, e1, e2, hR, hb⟩ := mk_emptyW wq31
           have HGE : Hid (wr.heap.size ≤ ge) := hid' (by rw [← e2]; exact HBB.out.size)
           have HEM := Lib.hid (hR.mono HBB.out.size)
           rw [e1, e2]
           have HNE : Hid (gX ≠ ge) := hid' (by have h1 := HBX.out.lt; omega) 
           replace HBX := Lib.hid (HBX.out.belowS hb) 
           replace HBB := Lib.hid (bl_trans HBB.out hb)
           clear e1 e2 hR hb
           refine hK.out _ _ (⟨(HFr.out.on HBB.out).c0, (HFr.out.on HBB.out).c1, (HFr.out.on HBB.out).c2, (HFr.out.on HBB.out).c3, (HFr.out.on HBB.out).c4, cb HBB HCR, cb HBB HYC⟩) (fun hHeld2 => ?_)
           clear hK K
           replace hHeld := hHeld2
           clear hHeld2
           try simp only [tda, tdb, tdc, Act.put, tdd, tde, tdf]
           refine Kept.only (i := 13) (o := ?op34) (by kernel_rfl) ?ho34 (fun K hK => ?_)
           case ho34 => (conv => lhs; simp only [tdg, tdh, tdi])
           refine step_catG (by simp [go_sem, Region.wanted, yielded]) _ _ rfl wr.heap.size wr _ _ [] (RF k) rfl HEM.out rfl HOS.out HBB.out (Nat.le_refl _) (by rw [List.length_nil]; omega) HBB.out.size ?_
           intro u13 wq35 ho13 hg13
           rw [List.nil_append] at ho13
           replace HBX := Lib.hid (HBX.out.grown hg13 (by intro e; have h1 : gX = ge := Option.some.inj e; exact HNE.out h1)) 
           have HCT := Lib.hid ho13
           replace HBB := Lib.hid (HEM.out.bgrown HBB.out HBB.out.size hg13)
           clear ho13 hg13 HEM
           refine hK.out _ _ (⟨(HFr.out.on HBB.out).c0, (HFr.out.on HBB.out).c1, (HFr.out.on HBB.out).c2, (HFr.out.on HBB.out).c3, (HFr.out.on HBB.out).c4, cb HBB HCR, cb HBB HYC⟩) (fun hHeld2 => ?_)
           clear hK K
           replace hHeld := hHeld2
           clear hHeld2
           try simp only [tda, tdb, tdc, Act.put, tdd, tde, tdf]
           refine Kept.only (i := 19) (o := ?op36) (by kernel_rfl) ?ho36 (fun K hK => ?_)
           case ho36 => (conv => lhs; simp only [tdg, tdh, tdi])
           refine step_pushG (by simp [go_sem, Region.wanted, yielded]) _ _ rfl wr.heap.size (fun _ => False) _ (RF k) rfl HCT.out gX 1 _ xs rfl (HBX.out.cell 0) (HSI.out.below HBB.out (Nat.le_refl _)) (fun h0 g hg => ⟨fun e => by have h1 := (HCT.out.lt e).1; have h2 := HXB.out h0 g hg; have h3 := HSZ.out; omega, fun h => h⟩) (by omega) HBB.out.size ?_
           intro u19 wq37 ho19 hg19 hv19
           have HPU := Lib.hid ho19
           replace HBB := Lib.hid (HCT.out.bgrown HBB.out HBB.out.size hg19)
           clear ho19 hg19 hv19
           refine hK.out _ _ (⟨(HFr.out.on HBB.out).c0, (HFr.out.on HBB.out).c1, (HFr.out.on HBB.out).c2, (HFr.out.on HBB.out).c3, (HFr.out.on HBB.out).c4, cb HBB HCR, cb HBB HYC⟩) (fun hHeld2 => ?_)
           clear hK K
           replace hHeld := hHeld2
           clear hHeld2
           try simp only [tda, tdb, tdc, Act.put, tdd, tde, tdf]
           refine Kept.only (i := 20) (o := ?op38) (by kernel_rfl) ?ho38 (fun K hK => ?_)
           case ho38 => (conv => lhs; simp only [tdg, tdh, tdi])
           go_simp
           refine (HOR.out _ _ (RF k ++ [xs]) (bl_trans HFr.out.bel HBB.out) (HPU.out.ss (by rw [List.length_append, List.length_singleton]; omega))).mono ?_
           rintro e wq39 ⟨rfl, hb⟩
           rw [← HER.out]
           replace HBB := Lib.hid (bl_trans HBB.out hb)
           clear hb
           refine hK.out _ _ (⟨(HFr.out.on HBB.out).c0, (HFr.out.on HBB.out).c1, (HFr.out.on HBB.out).c2, (HFr.out.on HBB.out).c3, (HFr.out.on HBB.out).c4, cb HBB HCR, cb HBB HYC⟩) (fun hHeld2 => ?_)
           clear hK K
           replace hHeld := hHeld2
           clear hHeld2
           try simp only [tda, tdb, tdc, Act.put, tdd, tde, tdf]
           refine Kept.tk 21 (v := ?_) rfl ?_ hHeld ?_
           rotate_left
           · intro w' h; (try dsimp only at h); go_simp <;> with_reducible rfl
           try simp only [tda, tdb, tdc, Act.put, tdd, tde, tdf]
           refine Kept.only (i := 22) (by kernel_rfl) rfl (fun K hK => ?_)
           go_simp
           refine hK.out _ _ hHeld (fun hHeld2 => ?_)
           clear hK K
           clear hHeld2
           refine Kept.done (by kernel_rfl) ?_
           try simp only [tda, tdb, tdc, Act.put, tdd, tde, tdf]
           clear hHeld
           have hcz := cb HBB HCR
           go_wp2_with (at_builtin; refine wpList_pushS rfl _ _ rfl wc.heap.size (fun _ => False) _ (RF k) rfl ((HO.out.below HBB.out).alloc (.cells #[.slice (some xd) N ck] 22)) wq39.heap.size 1 _ xs rfl (box1 (w := wq39) (u := .slice (some xd) N ck) (t := 22)) (HSI.out.below (bl_trans HBB.out (bl_alloc wq39 (.cells #[.slice (some xd) N ck] 22))) (Nat.le_refl _)) (fun h0 g hg => ⟨fun e => by have h1 := (HO.out.lt e).1; have h2 := HXB.out h0 g hg; omega, fun h => h⟩) (by omega) (up_alloc (w := wq39) (B := wc.heap.size) (Nat.le_trans HSZ.out HBB.out.size) (.cells #[.slice (some xd) N ck] 22)) ?_; (intro v5 w5 ho5 hg5 hv5); go_must (have HZ5 := Lib.hid (((HO.out.below HBB.out).alloc (.cells #[.slice (some xd) N ck] 22)).bgrown (bl_trans HZ.out (bl_trans HBB.out (bl_alloc wq39 (.cells #[.slice (some xd) N ck] 22)))) (up_alloc (w := wq39) (B := wc.heap.size) (Nat.le_trans HSZ.out HBB.out.size) (.cells #[.slice (some xd) N ck] 22)) hg5); rw [← HSY.out] at ho5; have HO5 := Lib.hid ho5; clear ho5 hg5 hv5))
           exact ⟨⟨k + 1, by omega, by push_cast; rfl, HO5, HZ5⟩, by simp only [intOf]; omega⟩
       · have e1 : (er == 0) = false := by rw [beq_eq_false_iff_ne]; exact her0
         have HSN : Hid (RF (k + 1) = RF k) := hid' (by rw [HSK.out, if_neg (fun h => her0 (by rw [HER.out]; exact h.2))])
         clear her0
         go_wp2_with fail
         refine Kept.start (S := fun w' => w'.cell? ⟨w.heap.size, 0, none⟩ = some (.int .i64 P) ∧ w'.cell? ⟨w.heap.size, 1, none⟩ = some (.int .i64 M) ∧ w'.cell? ⟨w.heap.size, 2, none⟩ = some mv ∧ w'.cell? ⟨w.heap.size, 3, none⟩ = some (.int .i64 (N : Int)) ∧ w'.cell? ⟨w.heap.size, 4, none⟩ = some (.slice GA gl gc) ∧ w'.cell? (ad.add k) = some (.slice (some xd) N ck) ∧ w'.cell? (xd.add I) = some (.int .i64 1)) (by kernel_rfl) (⟨c0, c1, c2, c3, c4, hcr, hyc⟩) (fun hHeld => ?_)
         change Kept _ _ _ _ 23 _ _ _
         have hdrew := bl_drew wr
         generalize wr.drew = wq40 at hdrew hHeld ⊢
         have HBB := Lib.hid hdrew
         clear c0 c1 c2 c3 c4 hcr hyc
         clear hdrew
         refine Kept.tk 0 (v := ?_) rfl ?_ hHeld ?_
         rotate_left
         · intro w' h; (try dsimp only at h); go_simp <;> with_reducible rfl
         try simp only [tda, tdb, tdc, Act.put, tdd, tde, tdf]
         refine Kept.tk 1 (v := ?_) rfl ?_ hHeld ?_
         rotate_left
         · intro w' h; (try dsimp only at h); go_simp <;> with_reducible rfl
         try simp only [tda, tdb, tdc, Act.put, tdd, tde, tdf]
         refine Kept.tk 2 (v := ?_) rfl ?_ hHeld ?_
         rotate_left
         · intro w' h; (try dsimp only at h); go_simp <;> with_reducible rfl
         try simp only [tda, tdb, tdc, Act.put, tdd, tde, tdf]
         refine Kept.tk 3 (v := ?_) rfl ?_ hHeld ?_
         rotate_left
         · intro w' h; (try dsimp only at h); go_simp <;> with_reducible rfl
         try simp only [tda, tdb, tdc, Act.put, tdd, tde, tdf]
         refine Kept.tk 4 (v := ?_) rfl ?_ hHeld ?_
         rotate_left
         · intro w' h; (try dsimp only at h); go_simp <;> with_reducible rfl
         try simp only [tda, tdb, tdc, Act.put, tdd, tde, tdf]
         refine Kept.tk 5 (v := ?_) rfl ?_ hHeld ?_
         rotate_left
         · intro w' h; (try dsimp only at h); go_simp <;> with_reducible rfl
         try simp only [tda, tdb, tdc, Act.put, tdd, tde, tdf]
         refine Kept.tk 6 (v := ?_) rfl ?_ hHeld ?_
         rotate_left
         · intro w' h; (try dsimp only at h); go_simp <;> with_reducible rfl
         try simp only [tda, tdb, tdc, Act.put, tdd, tde, tdf]
         refine Kept.tk 7 (v := ?_) rfl ?_ hHeld ?_
         rotate_left
         · intro w' h; (try dsimp only at h); go_simp <;> with_reducible rfl
         try simp only [tda, tdb, tdc, Act.put, tdd, tde, tdf]
         refine Kept.tk 8 (v := ?_) rfl ?_ hHeld ?_
         rotate_left
         · intro w' h; (try dsimp only at h); go_simp <;> with_reducible rfl
         try simp only [tda, tdb, tdc, Act.put, tdd, tde, tdf]
         refine Kept.tk 9 (v := ?_) rfl ?_ hHeld ?_
         rotate_left
         · intro w' h; (try dsimp only at h); go_simp <;> with_reducible rfl
         try simp only [tda, tdb, tdc, Act.put, tdd, tde, tdf]
         refine Kept.tk 10 (v := ?_) rfl ?_ hHeld ?_
         rotate_left
         · intro w' h; (try dsimp only at h); go_simp <;> with_reducible rfl
         try simp only [tda, tdb, tdc, Act.put, tdd, tde, tdf]
         refine Kept.tk 12 (v := ?_) rfl ?_ hHeld ?_
         rotate_left
         · intro w' h; (try dsimp only at h); go_simp <;> with_reducible rfl
         try simp only [tda, tdb, tdc, Act.put, tdd, tde, tdf]
         refine Kept.tk 14 (v := ?_) rfl ?_ hHeld ?_
         rotate_left
         · intro w' h; (try dsimp only at h); go_simp <;> with_reducible rfl
         try simp only [tda, tdb, tdc, Act.put, tdd, tde, tdf]
         refine Kept.tk 15 (v := ?_) rfl ?_ hHeld ?_
         rotate_left
         · intro w' h; (try dsimp only at h); go_simp <;> with_reducible rfl
         try simp only [tda, tdb, tdc, Act.put, tdd, tde, tdf]
         refine Kept.tk 16 (v := ?_) rfl ?_ hHeld ?_
         rotate_left
         · intro w' h; (try dsimp only at h); go_simp <;> with_reducible rfl
         try simp only [tda, tdb, tdc, Act.put, tdd, tde, tdf]
         refine Kept.tk 17 (v := ?_) rfl ?_ hHeld ?_
         rotate_left
         · intro w' h; (try dsimp only at h); go_simp <;> with_reducible rfl
         try simp only [tda, tdb, tdc, Act.put, tdd, tde, tdf]
         refine Kept.two (i := 11) (j := 18) (oi := ?opa41) (oj := ?opb41) (by kernel_rfl) ?hoa41 ?hob41 (fun K hK => ?way141) (fun K hK => ?way241)
         case hoa41 => (conv => lhs; simp only [tdg, tdh, tdi])
         case hob41 => (conv => lhs; simp only [tdg, tdh, tdi])
         case way141 =>
           go_simp
           obtain ⟨wq42, ge, e1, e2, hR, hb⟩ := mk_emptyW wq40
           have HGE : Hid (wr.heap.size ≤ ge) := hid' (by rw [← e2]; exact HBB.out.size)
           have HEM := Lib.hid (hR.mono HBB.out.size)
           rw [e1, e2]
           replace HBB := Lib.hid (bl_trans HBB.out hb)
           clear e1 e2 hR hb
           refine hK.out _ _ (⟨(HFr.out.on HBB.out).c0, (HFr.out.on HBB.out).c1, (HFr.out.on HBB.out).c2, (HFr.out.on HBB.out).c3, (HFr.out.on HBB.out).c4, cb HBB HCR, cb HBB HYC⟩) (fun hHeld2 => ?_)
           clear hK K
           replace hHeld := hHeld2
           clear hHeld2
           try simp only [tda, tdb, tdc, Act.put, tdd, tde, tdf]
           refine Kept.two (i := 13) (j := 18) (oi := ?opa43) (oj := ?opb43) (by kernel_rfl) ?hoa43 ?hob43 (fun K hK => ?way143) (fun K hK => ?way243)
           case hoa43 => (conv => lhs; simp only [tdg, tdh, tdi])
           case hob43 => (conv => lhs; simp only [tdg, tdh, tdi])
           case way143 =>
             refine step_catG (by simp [go_sem, Region.wanted, yielded]) _ _ rfl wr.heap.size wr _ _ [] (RF k) rfl HEM.out rfl HOS.out HBB.out (Nat.le_refl _) (by rw [List.length_nil]; omega) HBB.out.size ?_
             intro u13 wq44 ho13 hg13
             rw [List.nil_append] at ho13
             have HCT := Lib.hid ho13
             replace HBB := Lib.hid (HEM.out.bgrown HBB.out HBB.out.size hg13)
             clear ho13 hg13 HEM
             refine hK.out _ _ (⟨(HFr.out.on HBB.out).c0, (HFr.out.on HBB.out).c1, (HFr.out.on HBB.out).c2, (HFr.out.on HBB.out).c3, (HFr.out.on HBB.out).c4, cb HBB HCR, cb HBB HYC⟩) (fun hHeld2 => ?_)
             clear hK K
             replace hHeld := hHeld2
             clear hHeld2
             try simp only [tda, tdb, tdc, Act.put, tdd, tde, tdf]
             refine Kept.only (i := 18) (o := ?op45) (by kernel_rfl) ?ho45 (fun K hK => ?_)
             case ho45 => (conv => lhs; simp only [tdg, tdh, tdi])
             go_simp
             obtain ⟨wq46, gX, e1, e2, hX, hb⟩ := mk_box wq44 22 [.slice (some xd) N ck]
             rw [e1, e2]
             have HBX := Lib.hid hX
             replace HCT := Lib.hid (HCT.out.below hb) 
             replace HBB := Lib.hid (bl_trans HBB.out hb)
             clear e1 e2 hX hb
             refine hK.out _ _ (⟨(HFr.out.on HBB.out).c0, (HFr.out.on HBB.out).c1, (HFr.out.on HBB.out).c2, (HFr.out.on HBB.out).c3, (HFr.out.on HBB.out).c4, cb HBB HCR, cb HBB HYC⟩) (fun hHeld2 => ?_)
             clear hK K
             replace hHeld := hHeld2
             clear hHeld2
             try simp only [tda, tdb, tdc, Act.put, tdd, tde, tdf]
             refine Kept.only (i := 19) (o := ?op47) (by kernel_rfl) ?ho47 (fun K hK => ?_)
             case ho47 => (conv => lhs; simp only [tdg, tdh, tdi])
             refine step_pushG (by simp [go_sem, Region.wanted, yielded]) _ _ rfl wr.heap.size (fun _ => False) _ (RF k) rfl HCT.out gX 1 _ xs rfl (HBX.out.cell 0) (HSI.out.below HBB.out (Nat.le_refl _)) (fun h0 g hg => ⟨fun e => by have h1 := (HCT.out.lt e).1; have h2 := HXB.out h0 g hg; have h3 := HSZ.out; omega, fun h => h⟩) (by omega) HBB.out.size ?_
             intro u19 wq48 ho19 hg19 hv19
             have HPU := Lib.hid ho19
             replace HBB := Lib.hid (HCT.out.bgrown HBB.out HBB.out.size hg19)
             clear ho19 hg19 hv19
             refine hK.out _ _ (⟨(HFr.out.on HBB.out).c0, (HFr.out.on HBB.out).c1, (HFr.out.on HBB.out).c2, (HFr.out.on HBB.out).c3, (HFr.out.on HBB.out).c4, cb HBB HCR, cb HBB HYC⟩) (fun hHeld2 => ?_)
             clear hK K
             replace hHeld := hHeld2
             clear hHeld2
             try simp only [tda, tdb, tdc, Act.put, tdd, tde, tdf]
             refine Kept.only (i := 20) (o := ?op49) (by kernel_rfl) ?ho49 (fun K hK => ?_)
             case ho49 => (conv => lhs; simp only [tdg, tdh, tdi])
             go_simp
             refine (HOR.out _ _ (RF k ++ [xs]) (bl_trans HFr.out.bel HBB.out) (HPU.out.ss (by rw [List.length_append, List.length_singleton]; omega))).mono ?_
             rintro e wq50 ⟨rfl, hb⟩
             rw [← HER.out]
             replace HBB := Lib.hid (bl_trans HBB.out hb)
             clear hb
             refine hK.out _ _ (⟨(HFr.out.on HBB.out).c0, (HFr.out.on HBB.out).c1, (HFr.out.on HBB.out).c2, (HFr.out.on HBB.out).c3, (HFr.out.on HBB.out).c4, cb HBB HCR, cb HBB HYC⟩) (fun hHeld2 => ?_)
             clear hK K
             replace hHeld := hHeld2
             clear hHeld2
             try simp only [tda, tdb, tdc, Act.put, tdd, tde, tdf]
             refine Kept.tk 21 (v := ?_) rfl ?_ hHeld ?_
             rotate_left
             · intro w' h; (try dsimp only at h); go_simp <;> with_reducible rfl
             try simp only [tda, tdb, tdc, Act.put, tdd, tde, tdf]
             refine Kept.only (i := 22) (by kernel_rfl) rfl (fun K hK => ?_)
             go_simp
             refine hK.out _ _ hHeld (fun hHeld2 => ?_)
             clear hK K
             clear hHeld2
             refine Kept.done (by kernel_rfl) ?_
             try simp only [tda, tdb, tdc, Act.put, tdd, tde, tdf]
             clear hHeld
             go_wp2_with fail
             exact ⟨⟨k + 1, by omega, by push_cast; rfl, by rw [HSN.out]; exact HO.out.below HBB.out, bl_trans HZ.out HBB.out⟩, by simp only [intOf]; omega⟩
           case way243 =>
             go_simp
             obtain ⟨wq51, gX, e1, e2, hX, hb⟩ := mk_box wq42 22 [.slice (some xd) N ck]
             rw [e1, e2]
             have HBX := Lib.hid hX
             have HNE : Hid (gX ≠ ge) := hid' (by have h1 := (HEM.out.lt (g := ge) rfl).2; omega)  
             replace HEM := Lib.hid (HEM.out.below hb)  
             replace HBB := Lib.hid (bl_trans HBB.out hb)
             clear e1 e2 hX hb
             refine hK.out _ _ (⟨(HFr.out.on HBB.out).c0, (HFr.out.on HBB.out).c1, (HFr.out.on HBB.out).c2, (HFr.out.on HBB.out).c3, (HFr.out.on HBB.out).c4, cb HBB HCR, cb HBB HYC⟩) (fun hHeld2 => ?_)
             clear hK K
             replace hHeld := hHeld2
             clear hHeld2
             try simp only [tda, tdb, tdc, Act.put, tdd, tde, tdf]
             refine Kept.only (i := 13) (o := ?op52) (by kernel_rfl) ?ho52 (fun K hK => ?_)
             case ho52 => (conv => lhs; simp only [tdg, tdh, tdi])
             refine step_catG (by simp [go_sem, Region.wanted, yielded]) _ _ rfl wr.heap.size wr _ _ [] (RF k) rfl HEM.out rfl HOS.out HBB.out (Nat.le_refl _) (by rw [List.length_nil]; omega) HBB.out.size ?_
             intro u13 wq53 ho13 hg13
             rw [List.nil_append] at ho13
             replace HBX := Lib.hid (HBX.out.grown hg13 (by intro e; have h1 : gX = ge := Option.some.inj e; exact HNE.out h1)) 
             have HCT := Lib.hid ho13
             replace HBB := Lib.hid (HEM.out.bgrown HBB.out HBB.out.size hg13)
             clear ho13 hg13 HEM
             refine hK.out _ _ (⟨(HFr.out.on HBB.out).c0, (HFr.out.on HBB.out).c1, (HFr.out.on HBB.out).c2, (HFr.out.on HBB.out).c3, (HFr.out.on HBB.out).c4, cb HBB HCR, cb HBB HYC⟩) (fun hHeld2 => ?_)
             clear hK K
             replace hHeld := hHeld2
             clear hHeld2
             try simp only [tda, tdb, tdc, Act.put, tdd, tde, tdf]
             refine Kept.only (i := 19) (o := ?op54) (by kernel_rfl) ?ho54 (fun K hK => ?_)
             case ho54 => (conv => lhs; simp only [tdg, tdh, tdi])
             refine step_pushG (by simp [go_sem, Region.wanted, yielded]) _ _ rfl wr.heap.size (fun _ => False) _ (RF k) rfl HCT.out gX 1 _ xs rfl (HBX.out.cell 0) (HSI.out.below HBB.out (Nat.le_refl _)) (fun h0 g hg => ⟨fun e => by have h1 := (HCT.out.lt e).1; have h2 := HXB.out h0 g hg; have h3 := HSZ.out; omega, fun h => h⟩) (by omega) HBB.out.size ?_
             intro u19 wq55 ho19 hg19 hv19
             have HPU := Lib.hid ho19
             replace HBB := Lib.hid (HCT.out.bgrown HBB.out HBB.out.size hg19)
             clear ho19 hg19 hv19
             refine hK.out _ _ (⟨(HFr.out.on HBB.out).c0, (HFr.out.on HBB.out).c1, (HFr.out.on HBB.out).c2, (HFr.out.on HBB.out).c3, (HFr.out.on HBB.out).c4, cb HBB HCR, cb HBB HYC⟩) (fun hHeld2 => ?_)
             clear hK K
             replace hHeld := hHeld2
             clear hHeld2
             try simp only [tda, tdb, tdc, Act.put, tdd, tde, tdf]
             refine Kept.only (i := 20) (o := ?op56) (by kernel_rfl) ?ho56 (fun K hK => ?_)
             case ho56 => (conv => lhs; simp only [tdg, tdh, tdi])
             go_simp
             refine (HOR.out _ _ (RF k ++ [xs]) (bl_trans HFr.out.bel HBB.out) (HPU.out.ss (by rw [List.length_append, List.length_singleton]; omega))).mono ?_
             rintro e wq57 ⟨rfl, hb⟩
             rw [← HER.out]
             replace HBB := Lib.hid (bl_trans HBB.out hb)
             clear hb
             refine hK.out _ _ (⟨(HFr.out.on HBB.out).c0, (HFr.out.on HBB.out).c1, (HFr.out.on HBB.out).c2, (HFr.out.on HBB.out).c3, (HFr.out.on HBB.out).c4, cb HBB HCR, cb HBB HYC⟩) (fun hHeld2 => ?_)
             clear hK K
             replace hHeld := hHeld2
             clear hHeld2
             try simp only [tda, tdb, tdc, Act.put, tdd, tde, tdf]
             refine Kept.tk 21 (v := ?_) rfl ?_ hHeld ?_
             rotate_left
             · intro w' h; (try dsimp only at h); go_simp <;> with_reducible rfl
             try simp only [tda, tdb, tdc, Act.put, tdd, tde, tdf]
             refine Kept.only (i := 22) (by kernel_rfl) rfl (fun K hK => ?_)
             go_simp
             refine hK.out _ _ hHeld (fun hHeld2 => ?_)
             clear hK K
             clear hHeld2
             refine Kept.done (by kernel_rfl) ?_
             try simp only [tda, tdb, tdc, Act.put, tdd, tde, tdf]
             clear hHeld
             go_wp2_with fail
             exact ⟨⟨k + 1, by omega, by push_cast; rfl, by rw [HSN.out]; exact HO.out.below HBB.out, bl_trans HZ.out HBB.out⟩, by simp only [intOf]; omega⟩
         case way241 =>
           go_simp
           obtain ⟨wq58, gX, e1, e2, hX, hb⟩ := mk_box wq40 22 [.slice (some xd) N ck]
           rw [e1, e2]
           have HBX := Lib.hid hX
           replace HBB := Lib.hid (bl_trans HBB.out hb)
           clear e1 e2 hX hb
           refine hK.out _ _ (⟨(HFr.out.on HBB.out).c0, (HFr.out.on HBB.out).c1, (HFr.out.on HBB.out).c2, (HFr.out.on HBB.out).c3, (HFr.out.on HBB.out).c4, cb HBB HCR, cb HBB HYC⟩) (fun hHeld2 => ?_)
           clear hK K
           replace hHeld := hHeld2
           clear hHeld2
           try simp only [tda, tdb, tdc, Act.put, tdd, tde, tdf]
           refine Kept.only (i := 11) (o := ?op59) (by kernel_rfl) ?ho59 (fun K hK => ?_)
           case ho59 => (conv => lhs; simp only [tdg, tdh, tdi])
           go_simp
           obtain ⟨wq60, ge, e1, e2, hR, hb⟩ := mk_emptyW wq58
           have HGE : Hid (wr.heap.size ≤ ge) := hid' (by rw [← e2]; exact HBB.out.size)
           have HEM := Lib.hid (hR.mono HBB.out.size)
           rw [e1, e2]
           have HNE : Hid (gX ≠ ge) := hid' (by have h1 := HBX.out.lt; omega) 
           replace HBX := Lib.hid (HBX.out.belowS hb) 
           replace HBB := Lib.hid (bl_trans HBB.out hb)
           clear e1 e2 hR hb
           refine hK.out _ _ (⟨(HFr.out.on HBB.out).c0, (HFr.out.on HBB.out).c1, (HFr.out.on HBB.out).c2, (HFr.out.on HBB.out).c3, (HFr.out.on HBB.out).c4, cb HBB HCR, cb HBB HYC⟩) (fun hHeld2 => ?_)
           clear hK K
           replace hHeld := hHeld2
           clear hHeld2
           try simp only [tda, tdb, tdc, Act.put, tdd, tde, tdf]
           refine Kept.only (i := 13) (o := ?op61) (by kernel_rfl) ?ho61 (fun K hK => ?_)
           case ho61 => (conv => lhs; simp only [tdg, tdh, tdi])
           refine step_catG (by simp [go_sem, Region.wanted, yielded]) _ _ rfl wr.heap.size wr _ _ [] (RF k) rfl HEM.out rfl HOS.out HBB.out (Nat.le_refl _) (by rw [List.length_nil]; omega) HBB.out.size ?_
           intro u13 wq62 ho13 hg13
           rw [List.nil_append] at ho13
           replace HBX := Lib.hid (HBX.out.grown hg13 (by intro e; have h1 : gX = ge := Option.some.inj e; exact HNE.out h1)) 
           have HCT := Lib.hid ho13
           replace HBB := Lib.hid (HEM.out.bgrown HBB.out HBB.out.size hg13)
           clear ho13 hg13 HEM
           refine hK.out _ _ (⟨(HFr.out.on HBB.out).c0, (HFr.out.on HBB.out).c1, (HFr.out.on HBB.out).c2, (HFr.out.on HBB.out).c3, (HFr.out.on HBB.out).c4, cb HBB HCR, cb HBB HYC⟩) (fun hHeld2 => ?_)
           clear hK K
           replace hHeld := hHeld2
           clear hHeld2
           try simp only [tda, tdb, tdc, Act.put, tdd, tde, tdf]
           refine Kept.only (i := 19) (o := ?op63) (by kernel_rfl) ?ho63 (fun K hK => ?_)
           case ho63 => (conv => lhs; simp only [tdg, tdh, tdi])
           refine step_pushG (by simp [go_sem, Region.wanted, yielded]) _ _ rfl wr.heap.size (fun _ => False) _ (RF k) rfl HCT.out gX 1 _ xs rfl (HBX.out.cell 0) (HSI.out.below HBB.out (Nat.le_refl _)) (fun h0 g hg => ⟨fun e => by have h1 := (HCT.out.lt e).1; have h2 := HXB.out h0 g hg; have h3 := HSZ.out; omega, fun h => h⟩) (by omega) HBB.out.size ?_
           intro u19 wq64 ho19 hg19 hv19
           have HPU := Lib.hid ho19
           replace HBB := Lib.hid (HCT.out.bgrown HBB.out HBB.out.size hg19)
           clear ho19 hg19 hv19
           refine hK.out _ _ (⟨(HFr.out.on HBB.out).c0, (HFr.out.on HBB.out).c1, (HFr.out.on HBB.out).c2, (HFr.out.on HBB.out).c3, (HFr.out.on HBB.out).c4, cb HBB HCR, cb HBB HYC⟩) (fun hHeld2 => ?_)
           clear hK K
           replace hHeld := hHeld2
           clear hHeld2
           try simp only [tda, tdb, tdc, Act.put, tdd, tde, tdf]
           refine Kept.only (i := 20) (o := ?op65) (by kernel_rfl) ?ho65 (fun K hK => ?_)
           case ho65 => (conv => lhs; simp only [tdg, tdh, tdi])
           go_simp
           refine (HOR.out _ _ (RF k ++ [xs]) (bl_trans HFr.out.bel HBB.out) (HPU.out.ss (by rw [List.length_append, List.length_singleton]; omega))).mono ?_
           rintro e wq66 ⟨rfl, hb⟩
           rw [← HER.out]
           replace HBB := Lib.hid (bl_trans HBB.out hb)
           clear hb
           refine hK.out _ _ (⟨(HFr.out.on HBB.out).c0, (HFr.out.on HBB.out).c1, (HFr.out.on HBB.out).c2, (HFr.out.on HBB.out).c3, (HFr.out.on HBB.out).c4, cb HBB HCR, cb HBB HYC⟩) (fun hHeld2 => ?_)
           clear hK K
           replace hHeld := hHeld2
           clear hHeld2
           try simp only [tda, tdb, tdc, Act.put, tdd, tde, tdf]
           refine Kept.tk 21 (v := ?_) rfl ?_ hHeld ?_
           rotate_left
           · intro w' h; (try dsimp only at h); go_simp <;> with_reducible rfl
           try simp only [tda, tdb, tdc, Act.put, tdd, tde, tdf]
           refine Kept.only (i := 22) (by kernel_rfl) rfl (fun K hK => ?_)
           go_simp
           refine hK.out _ _ hHeld (fun hHeld2 => ?_)
           clear hK K
           clear hHeld2
           refine Kept.done (by kernel_rfl) ?_
           try simp only [tda, tdb, tdc, Act.put, tdd, tde, tdf]
           clear hHeld
           go_wp2_with fail
           exact ⟨⟨k + 1, by omega, by push_cast; rfl, by rw [HSN.out]; exact HO.out.below HBB.out, bl_trans HZ.out HBB.out⟩, by simp only [intOf]; omega⟩
     · obtain rfl : c = k := by omega
       go_wp2_with fail
       go_ret2
       exact ⟨_, rfl, HO.out.mono HSW.out, bl_trans HF3.out.bel HZ.out⟩
def NoPan (Q : Exit → Act → World → Prop) : Exit → Act → World → Prop
 | .panic _, _, _ => False
 | .normal, a, w => Q .normal a w
 | .ret, a, w => Q .ret a w
 | .exit id, a, w => Q (.exit id) a w
 | .goto t, a, w => Q (.goto t) a w
 | .outgrown, a, w => Q .outgrown a w
theorem NoPan.wp {P : Program} {c : Code} {Q : Exit → Act → World → Prop} {a : Act} {w : World} (h : c.wp P (NoPan Q) a w) : c.wp P Q a w :=
 Code.wp_mono (fun e a w h => by cases e <;> first | exact h | exact False.elim h) h
variable {nb sz : Nat} {wz w5 : World}
end Go.Proofs.YtlofhnmpbpjigaaGreat
