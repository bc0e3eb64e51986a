/- Texts of a claim, merged: words, plain facts and walks that the last of its texts uses. -/
import Derived.Test.YtodgdoglhecolaaGreatZA4
import Derived.Test.YtodgdoglhecolaaGreatZA14
import Derived.Test.YtodgdoglhecolaaGreatZA15
import Derived.Test.YtodgdoglhecolaaGreatZA16
import Derived.Test.YtodgdoglhecolaaGreatZA18
set_option linter.unusedSimpArgs false
set_option linter.unusedVariables false

namespace Go.Proofs.YtodgdoglhecolaaGreat
open Go.RowKit
set_option maxRecDepth 100000
set_option maxHeartbeats 8000000 in
theorem rCDual_no (w : World) (P M n : Int) (mv gv : Value) (Mod : List Int) (gen : List (List Int)) (hm : SI w mv Mod) (hg : SS w gv gen) (hE : codeE P M Mod n gen ≠ 0) :
  Calls Tryz.prog 35 #[.agg #[.int .i64 P, .int .i64 M, mv, .int .i64 n, gv]] w (RetCE w 0 0 [] 0 [] (codeE P M Mod n gen)) := by
 have HCK := Lib.hid (fun (w' : World) (hb : Below w.heap.size w w') => rCCheck_any w' P M n mv gv Mod gen (hm.below hb (Nat.le_refl _)) (hg.below hb (Nat.le_refl _)))
 have e2 : (codeE P M Mod n gen != 0) = true := by rw [bne_iff_ne]; exact hE
 generalize codeE P M Mod n gen = er at *
 clear hm hg hE
 obtain ⟨w1, e1, hq⟩ := CCQ.mk' w P M mv n gv
 have HQ := Lib.hid hq; have HE1 := Lib.hid e1; clear hq e1
 go_enter Tryz.func35, Tryz.ntmps35
 go_upto_region 1 with fail
 rw [HE1.out]
 clear HE1
 have c0 := HQ.out.cb.c0; have c1 := HQ.out.cb.c1; have c2 := HQ.out.cb.c2; have c3 := HQ.out.cb.c3; have c4 := HQ.out.cb.c4
 go_wp2_with fail
 refine (HCK.out w1 HQ.out.cb.bel).mono ?_
 rintro e w2 ⟨rfl, hb2⟩
 have HQ2 := Lib.hid (HQ.out.on hb2)
 clear hb2 c0 c1 c2 c3 c4
 obtain ⟨d0, d1, d2, d3, d4, f0, f1, f2, f3, f4⟩ := HQ2.out.q.five
 go_wp2_with fail
 obtain ⟨w9, h9, HL⟩ := lay5 (x := .int .i64 0) (y := .int .i64 0) (z := .slice none 0 0) (u := .int .i64 0) (v := .slice none 0 0) HQ2.out.q
 rw [h9]
 have q0 := HL.c0; have q1 := HL.c1; have q2 := HL.c2; have q3 := HL.c3; have q4 := HL.c4
 refine bodyPost_ret (v := .tuple #[.agg #[.int .i64 0, .int .i64 0, .slice none 0 0, .int .i64 0, .slice none 0 0], .int .i64 er]) (by simp [results, Tryz.results35, go_sem, q0, q1, q2, q3, q4]) rfl ?_
 exact ⟨_, _, rfl, (SI.nilSep _ _).and (SS.nilSep _ _), HL.below HQ2.out.cb.bel HQ2.out.cb.bel.size (by omega)⟩
set_option maxHeartbeats 8000000 in
theorem rSum12_no (w : World) (P M n P2 M2 n2 : Int) (mv gv mv2 gv2 : Value) (Mod Mod2 : List Int) (gen gen2 : List (List Int)) (hm : SI w mv Mod) (hg : SS w gv gen) (hm2 : SI w mv2 Mod2) (hg2 : SS w gv2 gen2) (hE : fitE P M Mod n gen P2 M2 Mod2 n2 gen2 ≠ 0) :
  Calls Tryz.prog 54 #[.agg #[.int .i64 P, .int .i64 M, mv, .int .i64 n, gv], .agg #[.int .i64 P2, .int .i64 M2, mv2, .int .i64 n2, gv2]] w (RetCE w 0 0 [] 0 [] (fitE P M Mod n gen P2 M2 Mod2 n2 gen2)) := by
 have HCK := Lib.hid (fun (w' : World) (hb : Below w.heap.size w w') => rFit_any w' P M n P2 M2 n2 mv gv mv2 gv2 Mod Mod2 gen gen2 (hm.below hb (Nat.le_refl _)) (hg.below hb (Nat.le_refl _)) (hm2.below hb (Nat.le_refl _)) (hg2.below hb (Nat.le_refl _)))
 have e2 : (fitE P M Mod n gen P2 M2 Mod2 n2 gen2 != 0) = true := by rw [bne_iff_ne]; exact hE
 generalize fitE P M Mod n gen P2 M2 Mod2 n2 gen2 = er at *
 clear hm hg hm2 hg2 hE
 obtain ⟨w1, e1, hq⟩ := C3B.mk' w P M mv n gv P2 M2 mv2 n2 gv2
 have HQ := Lib.hid hq; have HE1 := Lib.hid e1; clear hq e1
 go_enter Tryz.func54, Tryz.ntmps54
 go_upto_region 1 with fail
 rw [HE1.out]
 clear HE1
 have c0 := HQ.out.cc.b1.cell 0; have c1 := HQ.out.cc.b1.cell 1; have c2 := HQ.out.cc.b1.cell 2; have c3 := HQ.out.cc.b1.cell 3; have c4 := HQ.out.cc.b1.cell 4
 have d0 := HQ.out.cc.b2.cell 0; have d1 := HQ.out.cc.b2.cell 1; have d2 := HQ.out.cc.b2.cell 2; have d3 := HQ.out.cc.b2.cell 3; have d4 := HQ.out.cc.b2.cell 4
 go_wp2_with fail
 refine (HCK.out w1 HQ.out.cc.bel).mono ?_
 rintro e w2 ⟨rfl, hb2⟩
 have HQ2 := Lib.hid (HQ.out.on hb2)
 clear hb2 c0 c1 c2 c3 c4 d0 d1 d2 d3 d4
 obtain ⟨d0, d1, d2, d3, d4, f0, f1, f2, f3, f4⟩ := HQ2.out.q.five
 go_wp2_with fail
 obtain ⟨w9, h9, HL⟩ := lay5 (x := .int .i64 0) (y := .int .i64 0) (z := .slice none 0 0) (u := .int .i64 0) (v := .slice none 0 0) HQ2.out.q
 rw [h9]
 have q0 := HL.c0; have q1 := HL.c1; have q2 := HL.c2; have q3 := HL.c3; have q4 := HL.c4
 refine bodyPost_ret (v := .tuple #[.agg #[.int .i64 0, .int .i64 0, .slice none 0 0, .int .i64 0, .slice none 0 0], .int .i64 er]) (by simp [results, Tryz.results54, go_sem, q0, q1, q2, q3, q4]) rfl ?_
 exact ⟨_, _, rfl, (SI.nilSep _ _).and (SS.nilSep _ _), HL.below HQ2.out.cc.bel HQ2.out.cc.bel.size (by omega)⟩
set_option maxHeartbeats 8000000 in
theorem rMeet12_no (w : World) (P M n P2 M2 n2 : Int) (mv gv mv2 gv2 : Value) (Mod Mod2 : List Int) (gen gen2 : List (List Int)) (hm : SI w mv Mod) (hg : SS w gv gen) (hm2 : SI w mv2 Mod2) (hg2 : SS w gv2 gen2) (hE : fitE P M Mod n gen P2 M2 Mod2 n2 gen2 ≠ 0) :
  Calls Tryz.prog 55 #[.agg #[.int .i64 P, .int .i64 M, mv, .int .i64 n, gv], .agg #[.int .i64 P2, .int .i64 M2, mv2, .int .i64 n2, gv2]] w (RetCE w 0 0 [] 0 [] (fitE P M Mod n gen P2 M2 Mod2 n2 gen2)) := by
 have HCK := Lib.hid (fun (w' : World) (hb : Below w.heap.size w w') => rFit_any w' P M n P2 M2 n2 mv gv mv2 gv2 Mod Mod2 gen gen2 (hm.below hb (Nat.le_refl _)) (hg.below hb (Nat.le_refl _)) (hm2.below hb (Nat.le_refl _)) (hg2.below hb (Nat.le_refl _)))
 have e2 : (fitE P M Mod n gen P2 M2 Mod2 n2 gen2 != 0) = true := by rw [bne_iff_ne]; exact hE
 generalize fitE P M Mod n gen P2 M2 Mod2 n2 gen2 = er at *
 clear hm hg hm2 hg2 hE
 obtain ⟨w1, e1, hq⟩ := C3B.mk' w P M mv n gv P2 M2 mv2 n2 gv2
 have HQ := Lib.hid hq; have HE1 := Lib.hid e1; clear hq e1
 go_enter Tryz.func55, Tryz.ntmps55
 go_upto_region 1 with fail
 rw [HE1.out]
 clear HE1
 have c0 := HQ.out.cc.b1.cell 0; have c1 := HQ.out.cc.b1.cell 1; have c2 := HQ.out.cc.b1.cell 2; have c3 := HQ.out.cc.b1.cell 3; have c4 := HQ.out.cc.b1.cell 4
 have d0 := HQ.out.cc.b2.cell 0; have d1 := HQ.out.cc.b2.cell 1; have d2 := HQ.out.cc.b2.cell 2; have d3 := HQ.out.cc.b2.cell 3; have d4 := HQ.out.cc.b2.cell 4
 go_wp2_with fail
 refine (HCK.out w1 HQ.out.cc.bel).mono ?_
 rintro e w2 ⟨rfl, hb2⟩
 have HQ2 := Lib.hid (HQ.out.on hb2)
 clear hb2 c0 c1 c2 c3 c4 d0 d1 d2 d3 d4
 obtain ⟨d0, d1, d2, d3, d4, f0, f1, f2, f3, f4⟩ := HQ2.out.q.five
 go_wp2_with fail
 obtain ⟨w9, h9, HL⟩ := lay5 (x := .int .i64 0) (y := .int .i64 0) (z := .slice none 0 0) (u := .int .i64 0) (v := .slice none 0 0) HQ2.out.q
 rw [h9]
 have q0 := HL.c0; have q1 := HL.c1; have q2 := HL.c2; have q3 := HL.c3; have q4 := HL.c4
 refine bodyPost_ret (v := .tuple #[.agg #[.int .i64 0, .int .i64 0, .slice none 0 0, .int .i64 0, .slice none 0 0], .int .i64 er]) (by simp [results, Tryz.results55, go_sem, q0, q1, q2, q3, q4]) rfl ?_
 exact ⟨_, _, rfl, (SI.nilSep _ _).and (SS.nilSep _ _), HL.below HQ2.out.cc.bel HQ2.out.cc.bel.size (by omega)⟩
set_option maxHeartbeats 8000000 in
theorem rInside12_no (w : World) (P M n P2 M2 n2 : Int) (mv gv mv2 gv2 : Value) (Mod Mod2 : List Int) (gen gen2 : List (List Int)) (hm : SI w mv Mod) (hg : SS w gv gen) (hm2 : SI w mv2 Mod2) (hg2 : SS w gv2 gen2) (hE : fitE P M Mod n gen P2 M2 Mod2 n2 gen2 ≠ 0) :
  Calls Tryz.prog 57 #[.agg #[.int .i64 P, .int .i64 M, mv, .int .i64 n, gv], .agg #[.int .i64 P2, .int .i64 M2, mv2, .int .i64 n2, gv2]] w (RetZE w (.bool false) (fitE P M Mod n gen P2 M2 Mod2 n2 gen2)) := by
 have HCK := Lib.hid (fun (w' : World) (hb : Below w.heap.size w w') => rFit_any w' P M n P2 M2 n2 mv gv mv2 gv2 Mod Mod2 gen gen2 (hm.below hb (Nat.le_refl _)) (hg.below hb (Nat.le_refl _)) (hm2.below hb (Nat.le_refl _)) (hg2.below hb (Nat.le_refl _)))
 have e2 : (fitE P M Mod n gen P2 M2 Mod2 n2 gen2 != 0) = true := by rw [bne_iff_ne]; exact hE
 generalize fitE P M Mod n gen P2 M2 Mod2 n2 gen2 = er at *
 clear hm hg hm2 hg2 hE
 obtain ⟨w1, e1, hq⟩ := C2B.mk' w P M mv n gv P2 M2 mv2 n2 gv2
 have HQ := Lib.hid hq; have HE1 := Lib.hid e1; clear hq e1
 go_enter Tryz.func57, Tryz.ntmps57
 go_upto_region 1 with fail
 rw [HE1.out]
 clear HE1
 have c0 := HQ.out.b1.cell 0; have c1 := HQ.out.b1.cell 1; have c2 := HQ.out.b1.cell 2; have c3 := HQ.out.b1.cell 3; have c4 := HQ.out.b1.cell 4
 have d0 := HQ.out.b2.cell 0; have d1 := HQ.out.b2.cell 1; have d2 := HQ.out.b2.cell 2; have d3 := HQ.out.b2.cell 3; have d4 := HQ.out.b2.cell 4
 go_wp2_with fail
 refine (HCK.out w1 HQ.out.bel).mono ?_
 rintro e w2 ⟨rfl, hb2⟩
 have HQ2 := Lib.hid (HQ.out.on hb2)
 clear hb2 c0 c1 c2 c3 c4 d0 d1 d2 d3 d4
 go_wp2_with fail
 go_ret2
 exact ⟨rfl, HQ2.out.bel⟩
set_option maxHeartbeats 32000000 in
theorem rSum12_ok (w : World) (P M : Int) (n : Nat) (mv gv mv2 gv2 : Value) (Mod : List Int) (gen gen2 : List (List Int)) (hm : SI w mv Mod) (hg : SS w gv gen) (hm2 : SI w mv2 Mod) (hg2 : SS w gv2 gen2) (hE : codeE P M Mod n gen = 0) (hE2 : codeE P M Mod n gen2 = 0) :
  Calls Tryz.prog 54 #[.agg #[.int .i64 P, .int .i64 M, mv, .int .i64 (n : Int), gv], .agg #[.int .i64 P, .int .i64 M, mv2, .int .i64 (n : Int), gv2]] w (RetCE w P M Mod n (sumS (refOps P M Mod) gen gen2 n) 0) := by
 have HCK := Lib.hid (fun (w' : World) (hb : Below w.heap.size w w') => rFit_any w' P M n P M n mv gv mv2 gv2 Mod Mod gen gen2 (hm.below hb (Nat.le_refl _)) (hg.below hb (Nat.le_refl _)) (hm2.below hb (Nat.le_refl _)) (hg2.below hb (Nat.le_refl _)))
 rw [fitE_self hE hE2] at HCK
 have hSA := SpP.of (codeE_sp hE); have hSB := SpP.of (codeE_sp hE2)
 have hO := hSA.hO; have hf := hSA.fld; have hn := hSA.n256
 have hrA := hSA.r256; have hrB := hSB.r256
 have HMK := Lib.hid (fun (w' : World) (u : Value) (hb : Below w.heap.size w w') (hs : SS w' u (gen ++ gen2)) => rMake_any w' P M n mv u Mod _ (hm.below hb (Nat.le_refl _)) hs hf.ord hf.modp (hSA.rref.rows.app hSB.rref.rows) (by omega) (by rw [List.length_append]; omega))
 have HCP := Lib.hid (fun (w' : World) (hb : Below w.heap.size w w') => rCopy_any w' gv gen (hg.below hb (Nat.le_refl _)) (by omega) (fun k hk => by have := (hSA.rref.rows k hk).1; omega))
 have HU := Lib.hid hg2
 have HAB : Hid (gen.length + gen2.length ≤ 512) := by show _ ≤ _; omega
 have HSE : Hid (canonL (refOps P M Mod) (gen ++ gen2) n = sumS (refOps P M Mod) gen gen2 n) := rfl
 rw [HSE.out] at HMK
 unfold RetC at HMK
 obtain ⟨GA, gc, rfl, _⟩ := hg
 obtain ⟨GB, kc, rfl, _⟩ := hg2
 clear hm hm2 hE hE2 hSA hSB hO hf hrA hrB HSE
 obtain ⟨gl, hrr⟩ : ∃ r, r = gen.length := ⟨_, rfl⟩
 obtain ⟨kl, hss⟩ : ∃ s, s = gen2.length := ⟨_, rfl⟩
 rw [← hrr] at HCK HCP HAB ⊢
 rw [← hss] at HCK HU HAB ⊢
 have HRR := Lib.hid hrr; have HSS := Lib.hid hss
 clear hrr hss
 generalize sumS (refOps P M Mod) gen gen2 n = D at *
 obtain ⟨dl, hdl⟩ : ∃ k, k = D.length := ⟨_, rfl⟩
 have HDL := Lib.hid hdl; clear hdl
 obtain ⟨ml, hml⟩ : ∃ k, k = Mod.length := ⟨_, rfl⟩
 have HML := Lib.hid hml; clear hml
 obtain ⟨w1, e1, hq⟩ := C3B.mk' w P M mv n (.slice GA gl gc) P M mv2 n (.slice GB kl kc)
 have HQ := Lib.hid hq; have HE1 := Lib.hid e1; clear hq e1
 go_enter Tryz.func54, Tryz.ntmps54
 go_upto_region 1 with fail
 rw [HE1.out]
 clear HE1
 have c0 := HQ.out.cc.b1.cell 0; have c1 := HQ.out.cc.b1.cell 1; have c2 := HQ.out.cc.b1.cell 2; have c3 := HQ.out.cc.b1.cell 3; have c4 := HQ.out.cc.b1.cell 4
 have d0 := HQ.out.cc.b2.cell 0; have d1 := HQ.out.cc.b2.cell 1; have d2 := HQ.out.cc.b2.cell 2; have d3 := HQ.out.cc.b2.cell 3; have d4 := HQ.out.cc.b2.cell 4
 go_wp2_with fail
 refine (HCK.out w1 HQ.out.cc.bel).mono ?_
 rintro e w2 ⟨rfl, hb2⟩
 have HQ2 := Lib.hid (HQ.out.on hb2)
 clear hb2 c0 c1 c2 c3 c4 d0 d1 d2 d3 d4
 have c0 := HQ2.out.cc.b1.cell 0; have c1 := HQ2.out.cc.b1.cell 1; have c2 := HQ2.out.cc.b1.cell 2; have c3 := HQ2.out.cc.b1.cell 3; have c4 := HQ2.out.cc.b1.cell 4
 have d0 := HQ2.out.cc.b2.cell 0; have d1 := HQ2.out.cc.b2.cell 1; have d2 := HQ2.out.cc.b2.cell 2; have d3 := HQ2.out.cc.b2.cell 3; have d4 := HQ2.out.cc.b2.cell 4
 go_upto_region 4 with fail
 refine Kept.start (S := fun w' => w'.cell? ⟨w.heap.size, 0, none⟩ = some (.int .i64 P) ∧ w'.cell? ⟨w.heap.size, 1, none⟩ = some (.int .i64 M) ∧ w'.cell? ⟨w.heap.size, 2, none⟩ = some mv ∧ w'.cell? ⟨w.heap.size, 3, none⟩ = some (.int .i64 (n : Int)) ∧ w'.cell? ⟨w.heap.size, 4, none⟩ = some (.slice GA gl gc) ∧ w'.cell? ⟨w.heap.size + 1, 0, none⟩ = some (.int .i64 P) ∧ w'.cell? ⟨w.heap.size + 1, 1, none⟩ = some (.int .i64 M) ∧ w'.cell? ⟨w.heap.size + 1, 2, none⟩ = some mv2 ∧ w'.cell? ⟨w.heap.size + 1, 3, none⟩ = some (.int .i64 (n : Int)) ∧ w'.cell? ⟨w.heap.size + 1, 4, none⟩ = some (.slice GB kl kc)) (by kernel_rfl) (⟨c0, c1, c2, c3, c4, d0, d1, d2, d3, d4⟩) (fun hHeld => ?_)
 change Kept _ _ _ _ 13 _ _ _
 refine Kept.tk 0 (v := ?_) rfl ?_ hHeld ?_
 rotate_left
 ·intro w' h; (try dsimp only at h); go_simp <;> with_reducible rfl
 try simp only [tda, tdb, tdc, Act.put, tdd, tde, tdf]
 refine Kept.tk 1 (v := ?_) rfl ?_ hHeld ?_
 rotate_left
 ·intro w' h; (try dsimp only at h); go_simp <;> with_reducible rfl
 try simp only [tda, tdb, tdc, Act.put, tdd, tde, tdf]
 refine Kept.tk 2 (v := ?_) rfl ?_ hHeld ?_
 rotate_left
 ·intro w' h; (try dsimp only at h); go_simp <;> with_reducible rfl
 try simp only [tda, tdb, tdc, Act.put, tdd, tde, tdf]
 refine Kept.tk 3 (v := ?_) rfl ?_ hHeld ?_
 rotate_left
 ·intro w' h; (try dsimp only at h); go_simp <;> with_reducible rfl
 try simp only [tda, tdb, tdc, Act.put, tdd, tde, tdf]
 refine Kept.tk 5 (v := ?_) rfl ?_ hHeld ?_
 rotate_left
 ·intro w' h; (try dsimp only at h); go_simp <;> with_reducible rfl
 try simp only [tda, tdb, tdc, Act.put, tdd, tde, tdf]
 refine Kept.tk 6 (v := ?_) rfl ?_ hHeld ?_
 rotate_left
 ·intro w' h; (try dsimp only at h); go_simp <;> with_reducible rfl
 try simp only [tda, tdb, tdc, Act.put, tdd, tde, tdf]
 refine Kept.tk 8 (v := ?_) rfl ?_ hHeld ?_
 rotate_left
 ·intro w' h; (try dsimp only at h); go_simp <;> with_reducible rfl
 try simp only [tda, tdb, tdc, Act.put, tdd, tde, tdf]
 refine Kept.tk 9 (v := ?_) rfl ?_ hHeld ?_
 rotate_left
 ·intro w' h; (try dsimp only at h); go_simp <;> with_reducible rfl
 try simp only [tda, tdb, tdc, Act.put, tdd, tde, tdf]
 refine Kept.only (i := 4) (by kernel_rfl) rfl (fun K hK => ?_)
 go_simp
 refine (HCP.out _ (bl_trans HQ2.out.cc.bel (bl_drew w2))).mono ?_; rintro e w5 ⟨u5, rfl, ho5, hb5⟩; have HB5 := Lib.hid (bl_trans (bl_drew w2) hb5); have HO5 : Hid (OS w2.heap.size (fun _ => False) w5 u5 gen) := hid' (ho5.names (fun _ _ h => h.elim)); have HQ5 := Lib.hid (HQ2.out.on HB5.out); clear ho5 hb5
 refine hK.out _ _ (⟨HQ5.out.cc.b1.cell 0, HQ5.out.cc.b1.cell 1, HQ5.out.cc.b1.cell 2, HQ5.out.cc.b1.cell 3, HQ5.out.cc.b1.cell 4, HQ5.out.cc.b2.cell 0, HQ5.out.cc.b2.cell 1, HQ5.out.cc.b2.cell 2, HQ5.out.cc.b2.cell 3, HQ5.out.cc.b2.cell 4⟩) (fun hHeld2 => ?_)
 clear hK K
 replace hHeld := hHeld2
 clear hHeld2
 try simp only [tda, tdb, tdc, Act.put, tdd, tde, tdf]
 refine Kept.only (i := 7) (o := ?op1) (by kernel_rfl) ?ho1 (fun K hK => ?_)
 case ho1 => (conv => lhs; simp only [tdg, tdh, tdi])
 refine step_catO rfl _ _ rfl w2.heap.size w u5 (.slice GB kl kc) gen gen2 rfl HO5.out rfl HU.out HQ5.out.cc.bel HQ2.out.cc.bel.size (by rw [← HRR.out, ← HSS.out]; have := HAB.out; omega) HB5.out.size ?_; intro v6 w6 ho6 hg6; have HB6 := Lib.hid (HO5.out.bgrown HB5.out HB5.out.size hg6); have HS6 := Lib.hid (ho6.ss (by rw [List.length_append, ← HRR.out, ← HSS.out]; have := HAB.out; omega)); have HQ6 := Lib.hid (HQ2.out.on HB6.out); have HZ6 := Lib.hid HB6.out.size; clear ho6 hg6
 refine hK.out _ _ (⟨HQ6.out.cc.b1.cell 0, HQ6.out.cc.b1.cell 1, HQ6.out.cc.b1.cell 2, HQ6.out.cc.b1.cell 3, HQ6.out.cc.b1.cell 4, HQ6.out.cc.b2.cell 0, HQ6.out.cc.b2.cell 1, HQ6.out.cc.b2.cell 2, HQ6.out.cc.b2.cell 3, HQ6.out.cc.b2.cell 4⟩) (fun hHeld2 => ?_)
 clear hK K
 replace hHeld := hHeld2
 clear hHeld2
 try simp only [tda, tdb, tdc, Act.put, tdd, tde, tdf]
 refine Kept.only (i := 10) (by kernel_rfl) rfl (fun K hK => ?_)
 go_simp
 refine (HMK.out _ _ HQ6.out.cc.bel HS6.out).mono ?_; rintro e w8 ⟨u8, g8, rfl, hx8, hb8⟩; obtain ⟨⟨MA, mc, rfl, _⟩, ⟨DA, dc, rfl, _⟩⟩ := hx8.out; rw [← HDL.out, ← HML.out] at hx8 ⊢; have HX8 := Lib.hid hx8; have HQ8 := Lib.hid (HQ6.out.on hb8); clear hx8 hb8
 refine hK.out _ _ (⟨HQ8.out.cc.b1.cell 0, HQ8.out.cc.b1.cell 1, HQ8.out.cc.b1.cell 2, HQ8.out.cc.b1.cell 3, HQ8.out.cc.b1.cell 4, HQ8.out.cc.b2.cell 0, HQ8.out.cc.b2.cell 1, HQ8.out.cc.b2.cell 2, HQ8.out.cc.b2.cell 3, HQ8.out.cc.b2.cell 4⟩) (fun hHeld2 => ?_)
 clear hK K
 replace hHeld := hHeld2
 clear hHeld2
 try simp only [tda, tdb, tdc, Act.put, tdd, tde, tdf]
 refine Kept.only (i := 11) (o := ?op2) (by kernel_rfl) ?ho2 (fun K hK => ?_)
 case ho2 => (conv => lhs; simp only [tdg, tdh, tdi])
 obtain ⟨y0, y1, y2, y3, y4, f0, f1, f2, f3, f4⟩ := HQ8.out.q.five; go_simp; obtain ⟨w9, hz, HL⟩ := lay5 (x := .int .i64 P) (y := .int .i64 M) (z := .slice MA ml mc) (u := .int .i64 (n : Int)) (v := .slice DA dl dc) HQ8.out.q; rw [hz]; have q0 := HL.c0; have q1 := HL.c1; have q2 := HL.c2; have q3 := HL.c3; have q4 := HL.c4; have hql := HQ2.out.q.lt; have hqs := HQ6.out.cc.bel.size; have hqt : w2.heap.size ≤ w6.heap.size := HZ6.out; have HB1 := Lib.hid (HQ8.out.cc.b1.grown HL.gr (by intro e; have := Option.some.inj e; omega)); have HB2 := Lib.hid (HQ8.out.cc.b2.grown HL.gr (by intro e; have := Option.some.inj e; omega)); have HX5 := Lib.hid (HX8.out.grown HL.gr (by rintro b e; cases e; omega)); have HBZ := Lib.hid (HL.below HQ8.out.cc.bel HQ8.out.cc.bel.size (by omega)); clear hz y0 y1 y2 y3 y4 f0 f1 f2 f3 f4 HL
 refine hK.out _ _ (⟨HB1.out.cell 0, HB1.out.cell 1, HB1.out.cell 2, HB1.out.cell 3, HB1.out.cell 4, HB2.out.cell 0, HB2.out.cell 1, HB2.out.cell 2, HB2.out.cell 3, HB2.out.cell 4⟩) (fun hHeld2 => ?_)
 clear hK K
 replace hHeld := hHeld2
 clear hHeld2
 try simp only [tda, tdb, tdc, Act.put, tdd, tde, tdf]
 refine Kept.only (i := 12) (by kernel_rfl) rfl (fun K hK => ?_)
 go_simp
 refine hK.out _ _ hHeld (fun hHeld2 => ?_)
 clear hK K
 clear hHeld2
 refine Kept.done (by kernel_rfl) ?_
 try simp only [tda, tdb, tdc, Act.put, tdd, tde, tdf]
 clear hHeld
 clear c0 c1 c2 c3 c4 d0 d1 d2 d3 d4
 go_wp2_with fail
 refine bodyPost_ret (v := .tuple #[.agg #[.int .i64 P, .int .i64 M, .slice MA ml mc, .int .i64 (n : Int), .slice DA dl dc], .int .i64 0]) (by simp [results, Tryz.results54, go_sem, q0, q1, q2, q3, q4]) rfl ?_
 have hsz := HQ6.out.cc.bel.size
 exact ⟨_, _, rfl, HX5.out.mono hsz, HBZ.out⟩
set_option maxHeartbeats 32000000 in
theorem rMeet12_ok (w : World) (P M : Int) (n : Nat) (mv gv mv2 gv2 : Value) (Mod : List Int) (gen gen2 : List (List Int)) (hm : SI w mv Mod) (hg : SS w gv gen) (hm2 : SI w mv2 Mod) (hg2 : SS w gv2 gen2) (hE : codeE P M Mod n gen = 0) (hE2 : codeE P M Mod n gen2 = 0) :
  Calls Tryz.prog 55 #[.agg #[.int .i64 P, .int .i64 M, mv, .int .i64 (n : Int), gv], .agg #[.int .i64 P, .int .i64 M, mv2, .int .i64 (n : Int), gv2]] w (RetCE w P M Mod n (meetS (refOps P M Mod) gen gen2 n) 0) := by
 have HCK := Lib.hid (fun (w' : World) (hb : Below w.heap.size w w') => rFit_any w' P M n P M n mv gv mv2 gv2 Mod Mod gen gen2 (hm.below hb (Nat.le_refl _)) (hg.below hb (Nat.le_refl _)) (hm2.below hb (Nat.le_refl _)) (hg2.below hb (Nat.le_refl _)))
 rw [fitE_self hE hE2] at HCK
 have hSA := SpP.of (codeE_sp hE); have hSB := SpP.of (codeE_sp hE2)
 have hO := hSA.hO; have hf := hSA.fld; have hn := hSA.n256
 have hrA := hSA.r256; have hrB := hSB.r256
 have hNA := Cn.null hO hSA.rref.rows; have hNB := Cn.null hO hSB.rref.rows
 have hlA := hNA.le; have hlB := hNB.le
 have hCM := meetS_cn hO hSA.rref.rows hSB.rref.rows
 have hlM := hCM.le
 have HN1 := Lib.hid (fun (w' : World) (hb : Below w.heap.size w w') => rPar_ok w' P M n mv gv Mod gen (hm.below hb (Nat.le_refl _)) (hg.below hb (Nat.le_refl _)) hE)
 have HN2 := Lib.hid (fun (w' : World) (hb : Below w.heap.size w w') => rPar_ok w' P M n mv2 gv2 Mod gen2 (hm2.below hb (Nat.le_refl _)) (hg2.below hb (Nat.le_refl _)) hE2)
 have HN3 := Lib.hid (fun (w' : World) (u : Value) (hb : Below w.heap.size w w') (hs : SS w' u (nullL (refOps P M Mod) gen n ++ nullL (refOps P M Mod) gen2 n)) => rNull_any w' P M n mv u Mod _ (hm.below hb (Nat.le_refl _)) hs hO hf.ord hf.modp (hNA.rows.app hNB.rows) (by omega) (by rw [List.length_append]; omega))
 have HSE : Hid (nullL (refOps P M Mod) (nullL (refOps P M Mod) gen n ++ nullL (refOps P M Mod) gen2 n) n = meetS (refOps P M Mod) gen gen2 n) := rfl
 rw [HSE.out] at HN3
 have HAB : Hid ((nullL (refOps P M Mod) gen n).length + (nullL (refOps P M Mod) gen2 n).length ≤ 512) := by show _ ≤ _; omega
 have HMK := Lib.hid (fun (w' : World) (u : Value) (hb : Below w.heap.size w w') (hs : SS w' u (meetS (refOps P M Mod) gen gen2 n)) => rMake_any w' P M n mv u Mod _ (hm.below hb (Nat.le_refl _)) hs hf.ord hf.modp hCM.rows (by omega) (by omega))
 rw [hCM.self hO] at HMK
 unfold RetC at HMK
 unfold RetNu at HN1 HN2 HN3
 obtain ⟨GA, gc, rfl, _⟩ := hg
 obtain ⟨GB, kc, rfl, _⟩ := hg2
 clear hm hm2 hE hE2 hSA hSB hO hf hrA hrB HSE hNA hNB hlA hlB hCM hlM
 generalize gen.length = gl at *
 generalize gen2.length = kl at *
 generalize nullL (refOps P M Mod) gen n = NA at *
 generalize nullL (refOps P M Mod) gen2 n = NB at *
 generalize meetS (refOps P M Mod) gen gen2 n = D at *
 obtain ⟨dl, hdl⟩ : ∃ k, k = D.length := ⟨_, rfl⟩
 have HDL := Lib.hid hdl; clear hdl
 obtain ⟨ml, hml⟩ : ∃ k, k = Mod.length := ⟨_, rfl⟩
 have HML := Lib.hid hml; clear hml
 obtain ⟨w1, e1, hq⟩ := C3B.mk' w P M mv n (.slice GA gl gc) P M mv2 n (.slice GB kl kc)
 have HQ := Lib.hid hq; have HE1 := Lib.hid e1; clear hq e1
 go_enter Tryz.func55, Tryz.ntmps55
 go_upto_region 1 with fail
 rw [HE1.out]
 clear HE1
 have c0 := HQ.out.cc.b1.cell 0; have c1 := HQ.out.cc.b1.cell 1; have c2 := HQ.out.cc.b1.cell 2; have c3 := HQ.out.cc.b1.cell 3; have c4 := HQ.out.cc.b1.cell 4
 have d0 := HQ.out.cc.b2.cell 0; have d1 := HQ.out.cc.b2.cell 1; have d2 := HQ.out.cc.b2.cell 2; have d3 := HQ.out.cc.b2.cell 3; have d4 := HQ.out.cc.b2.cell 4
 go_wp2_with fail
 refine (HCK.out w1 HQ.out.cc.bel).mono ?_
 rintro e w2 ⟨rfl, hb2⟩
 have HQ2 := Lib.hid (HQ.out.on hb2)
 clear hb2 c0 c1 c2 c3 c4 d0 d1 d2 d3 d4
 have c0 := HQ2.out.cc.b1.cell 0; have c1 := HQ2.out.cc.b1.cell 1; have c2 := HQ2.out.cc.b1.cell 2; have c3 := HQ2.out.cc.b1.cell 3; have c4 := HQ2.out.cc.b1.cell 4
 have d0 := HQ2.out.cc.b2.cell 0; have d1 := HQ2.out.cc.b2.cell 1; have d2 := HQ2.out.cc.b2.cell 2; have d3 := HQ2.out.cc.b2.cell 3; have d4 := HQ2.out.cc.b2.cell 4
 go_upto_region 4 with fail
 refine Kept.start (S := fun w' => w'.cell? ⟨w.heap.size, 0, none⟩ = some (.int .i64 P) ∧ w'.cell? ⟨w.heap.size, 1, none⟩ = some (.int .i64 M) ∧ w'.cell? ⟨w.heap.size, 2, none⟩ = some mv ∧ w'.cell? ⟨w.heap.size, 3, none⟩ = some (.int .i64 (n : Int)) ∧ w'.cell? ⟨w.heap.size, 4, none⟩ = some (.slice GA gl gc) ∧ w'.cell? ⟨w.heap.size + 1, 0, none⟩ = some (.int .i64 P) ∧ w'.cell? ⟨w.heap.size + 1, 1, none⟩ = some (.int .i64 M) ∧ w'.cell? ⟨w.heap.size + 1, 2, none⟩ = some mv2 ∧ w'.cell? ⟨w.heap.size + 1, 3, none⟩ = some (.int .i64 (n : Int)) ∧ w'.cell? ⟨w.heap.size + 1, 4, none⟩ = some (.slice GB kl kc)) (by kernel_rfl) (⟨c0, c1, c2, c3, c4, d0, d1, d2, d3, d4⟩) (fun hHeld => ?_)
 change Kept _ _ _ _ 17 _ _ _
 refine Kept.tk 0 (v := ?_) rfl ?_ hHeld ?_
 rotate_left
 ·intro w' h; (try dsimp only at h); go_simp <;> with_reducible rfl
 try simp only [tda, tdb, tdc, Act.put, tdd, tde, tdf]
 refine Kept.tk 1 (v := ?_) rfl ?_ hHeld ?_
 rotate_left
 ·intro w' h; (try dsimp only at h); go_simp <;> with_reducible rfl
 try simp only [tda, tdb, tdc, Act.put, tdd, tde, tdf]
 refine Kept.tk 2 (v := ?_) rfl ?_ hHeld ?_
 rotate_left
 ·intro w' h; (try dsimp only at h); go_simp <;> with_reducible rfl
 try simp only [tda, tdb, tdc, Act.put, tdd, tde, tdf]
 refine Kept.tk 3 (v := ?_) rfl ?_ hHeld ?_
 rotate_left
 ·intro w' h; (try dsimp only at h); go_simp <;> with_reducible rfl
 try simp only [tda, tdb, tdc, Act.put, tdd, tde, tdf]
 refine Kept.tk 4 (v := ?_) rfl ?_ hHeld ?_
 rotate_left
 ·intro w' h; (try dsimp only at h); go_simp <;> with_reducible rfl
 try simp only [tda, tdb, tdc, Act.put, tdd, tde, tdf]
 refine Kept.tk 6 (v := ?_) rfl ?_ hHeld ?_
 rotate_left
 ·intro w' h; (try dsimp only at h); go_simp <;> with_reducible rfl
 try simp only [tda, tdb, tdc, Act.put, tdd, tde, tdf]
 refine Kept.tk 9 (v := ?_) rfl ?_ hHeld ?_
 rotate_left
 ·intro w' h; (try dsimp only at h); go_simp <;> with_reducible rfl
 try simp only [tda, tdb, tdc, Act.put, tdd, tde, tdf]
 refine Kept.tk 10 (v := ?_) rfl ?_ hHeld ?_
 rotate_left
 ·intro w' h; (try dsimp only at h); go_simp <;> with_reducible rfl
 try simp only [tda, tdb, tdc, Act.put, tdd, tde, tdf]
 refine Kept.tk 12 (v := ?_) rfl ?_ hHeld ?_
 rotate_left
 ·intro w' h; (try dsimp only at h); go_simp <;> with_reducible rfl
 try simp only [tda, tdb, tdc, Act.put, tdd, tde, tdf]
 refine Kept.tk 13 (v := ?_) rfl ?_ hHeld ?_
 rotate_left
 ·intro w' h; (try dsimp only at h); go_simp <;> with_reducible rfl
 try simp only [tda, tdb, tdc, Act.put, tdd, tde, tdf]
 refine Kept.only (i := 5) (by kernel_rfl) rfl (fun K hK => ?_)
 go_simp
 refine (HN1.out _ (bl_trans HQ2.out.cc.bel (bl_drew w2))).mono ?_; rintro e w5 ⟨u5, rfl, _, ho5, hb5⟩; have HB5 := Lib.hid (bl_trans (bl_drew w2) hb5); have HO5 : Hid (OS w2.heap.size (fun g => g < w2.heap.size) w5 u5 NA) := hid' ho5; have HQ5 := Lib.hid (HQ2.out.on HB5.out); clear ho5 hb5
 refine hK.out _ _ (⟨HQ5.out.cc.b1.cell 0, HQ5.out.cc.b1.cell 1, HQ5.out.cc.b1.cell 2, HQ5.out.cc.b1.cell 3, HQ5.out.cc.b1.cell 4, HQ5.out.cc.b2.cell 0, HQ5.out.cc.b2.cell 1, HQ5.out.cc.b2.cell 2, HQ5.out.cc.b2.cell 3, HQ5.out.cc.b2.cell 4⟩) (fun hHeld2 => ?_)
 clear hK K
 replace hHeld := hHeld2
 clear hHeld2
 try simp only [tda, tdb, tdc, Act.put, tdd, tde, tdf]
 refine Kept.only (i := 7) (by kernel_rfl) rfl (fun K hK => ?_)
 go_simp
 refine (HN2.out _ HQ5.out.cc.bel).mono ?_; rintro e w6 ⟨u6, rfl, _, ho6, hb6⟩; have HU6 := Lib.hid (catS_src ho6 HO5.out (fun g hg => Nat.lt_of_lt_of_le hg HB5.out.size)); have HO6 := Lib.hid (HO5.out.below hb6); have HB6 := Lib.hid (bl_trans HB5.out hb6); have HQ6 := Lib.hid (HQ2.out.on HB6.out); clear ho6 hb6
 refine hK.out _ _ (⟨HQ6.out.cc.b1.cell 0, HQ6.out.cc.b1.cell 1, HQ6.out.cc.b1.cell 2, HQ6.out.cc.b1.cell 3, HQ6.out.cc.b1.cell 4, HQ6.out.cc.b2.cell 0, HQ6.out.cc.b2.cell 1, HQ6.out.cc.b2.cell 2, HQ6.out.cc.b2.cell 3, HQ6.out.cc.b2.cell 4⟩) (fun hHeld2 => ?_)
 clear hK K
 replace hHeld := hHeld2
 clear hHeld2
 try simp only [tda, tdb, tdc, Act.put, tdd, tde, tdf]
 refine Kept.only (i := 8) (o := ?op3) (by kernel_rfl) ?ho3 (fun K hK => ?_)
 case ho3 => (conv => lhs; simp only [tdg, tdh, tdi])
 refine step_catN rfl _ _ rfl w2.heap.size w5.heap.size (fun g => g < w2.heap.size) u5 u6 NA NB rfl HO6.out rfl HU6.out (by have := HAB.out; omega) HB6.out.size ?_; intro v4 w4 ho4 hg4 _; have HB4 := Lib.hid (HO6.out.bgrown HB6.out HB6.out.size hg4); have HS4 := Lib.hid (ho4.ss (by rw [List.length_append]; have := HAB.out; omega)); have HQ4 := Lib.hid (HQ2.out.on HB4.out); clear ho4 hg4
 refine hK.out _ _ (⟨HQ4.out.cc.b1.cell 0, HQ4.out.cc.b1.cell 1, HQ4.out.cc.b1.cell 2, HQ4.out.cc.b1.cell 3, HQ4.out.cc.b1.cell 4, HQ4.out.cc.b2.cell 0, HQ4.out.cc.b2.cell 1, HQ4.out.cc.b2.cell 2, HQ4.out.cc.b2.cell 3, HQ4.out.cc.b2.cell 4⟩) (fun hHeld2 => ?_)
 clear hK K
 replace hHeld := hHeld2
 clear hHeld2
 try simp only [tda, tdb, tdc, Act.put, tdd, tde, tdf]
 refine Kept.only (i := 11) (by kernel_rfl) rfl (fun K hK => ?_)
 go_simp
 refine (HN3.out _ v4 HQ4.out.cc.bel HS4.out).mono ?_; rintro e w7 ⟨u7, rfl, hx7, _, hb7⟩; have HB7 := Lib.hid (bl_trans HB4.out hb7); have HS7 := Lib.hid hx7.out; have HQ7 := Lib.hid (HQ2.out.on HB7.out); have HZ7 := Lib.hid HB7.out.size; clear hx7 hb7
 refine hK.out _ _ (⟨HQ7.out.cc.b1.cell 0, HQ7.out.cc.b1.cell 1, HQ7.out.cc.b1.cell 2, HQ7.out.cc.b1.cell 3, HQ7.out.cc.b1.cell 4, HQ7.out.cc.b2.cell 0, HQ7.out.cc.b2.cell 1, HQ7.out.cc.b2.cell 2, HQ7.out.cc.b2.cell 3, HQ7.out.cc.b2.cell 4⟩) (fun hHeld2 => ?_)
 clear hK K
 replace hHeld := hHeld2
 clear hHeld2
 try simp only [tda, tdb, tdc, Act.put, tdd, tde, tdf]
 refine Kept.only (i := 14) (by kernel_rfl) rfl (fun K hK => ?_)
 go_simp
 refine (HMK.out _ _ HQ7.out.cc.bel HS7.out).mono ?_; rintro e w8 ⟨u8, g8, rfl, hx8, hb8⟩; obtain ⟨⟨MA, mc, rfl, _⟩, ⟨DA, dc, rfl, _⟩⟩ := hx8.out; rw [← HDL.out, ← HML.out] at hx8 ⊢; have HX8 := Lib.hid hx8; have HQ8 := Lib.hid (HQ7.out.on hb8); clear hx8 hb8
 refine hK.out _ _ (⟨HQ8.out.cc.b1.cell 0, HQ8.out.cc.b1.cell 1, HQ8.out.cc.b1.cell 2, HQ8.out.cc.b1.cell 3, HQ8.out.cc.b1.cell 4, HQ8.out.cc.b2.cell 0, HQ8.out.cc.b2.cell 1, HQ8.out.cc.b2.cell 2, HQ8.out.cc.b2.cell 3, HQ8.out.cc.b2.cell 4⟩) (fun hHeld2 => ?_)
 clear hK K
 replace hHeld := hHeld2
 clear hHeld2
 try simp only [tda, tdb, tdc, Act.put, tdd, tde, tdf]
 refine Kept.only (i := 15) (o := ?op4) (by kernel_rfl) ?ho4 (fun K hK => ?_)
 case ho4 => (conv => lhs; simp only [tdg, tdh, tdi])
 obtain ⟨y0, y1, y2, y3, y4, f0, f1, f2, f3, f4⟩ := HQ8.out.q.five; go_simp; obtain ⟨w9, hz, HL⟩ := lay5 (x := .int .i64 P) (y := .int .i64 M) (z := .slice MA ml mc) (u := .int .i64 (n : Int)) (v := .slice DA dl dc) HQ8.out.q; rw [hz]; have q0 := HL.c0; have q1 := HL.c1; have q2 := HL.c2; have q3 := HL.c3; have q4 := HL.c4; have hql := HQ2.out.q.lt; have hqs := HQ7.out.cc.bel.size; have hqt : w2.heap.size ≤ w7.heap.size := HZ7.out; have HB1 := Lib.hid (HQ8.out.cc.b1.grown HL.gr (by intro e; have := Option.some.inj e; omega)); have HB2 := Lib.hid (HQ8.out.cc.b2.grown HL.gr (by intro e; have := Option.some.inj e; omega)); have HX5 := Lib.hid (HX8.out.grown HL.gr (by rintro b e; cases e; omega)); have HBZ := Lib.hid (HL.below HQ8.out.cc.bel HQ8.out.cc.bel.size (by omega)); clear hz y0 y1 y2 y3 y4 f0 f1 f2 f3 f4 HL
 refine hK.out _ _ (⟨HB1.out.cell 0, HB1.out.cell 1, HB1.out.cell 2, HB1.out.cell 3, HB1.out.cell 4, HB2.out.cell 0, HB2.out.cell 1, HB2.out.cell 2, HB2.out.cell 3, HB2.out.cell 4⟩) (fun hHeld2 => ?_)
 clear hK K
 replace hHeld := hHeld2
 clear hHeld2
 try simp only [tda, tdb, tdc, Act.put, tdd, tde, tdf]
 refine Kept.only (i := 16) (by kernel_rfl) rfl (fun K hK => ?_)
 go_simp
 refine hK.out _ _ hHeld (fun hHeld2 => ?_)
 clear hK K
 clear hHeld2
 refine Kept.done (by kernel_rfl) ?_
 try simp only [tda, tdb, tdc, Act.put, tdd, tde, tdf]
 clear hHeld
 clear c0 c1 c2 c3 c4 d0 d1 d2 d3 d4
 go_wp2_with fail
 refine bodyPost_ret (v := .tuple #[.agg #[.int .i64 P, .int .i64 M, .slice MA ml mc, .int .i64 (n : Int), .slice DA dl dc], .int .i64 0]) (by simp [results, Tryz.results55, go_sem, q0, q1, q2, q3, q4]) rfl ?_
 have hsz := HQ7.out.cc.bel.size
 exact ⟨_, _, rfl, HX5.out.mono hsz, HBZ.out⟩
set_option maxHeartbeats 16000000 in
theorem rInside12_ok (w : World) (P M : Int) (n : Nat) (mv gv mv2 gv2 : Value) (Mod : List Int) (gen gen2 : List (List Int)) (hm : SI w mv Mod) (hg : SS w gv gen) (hm2 : SI w mv2 Mod) (hg2 : SS w gv2 gen2) (hE : codeE P M Mod n gen = 0) (hE2 : codeE P M Mod n gen2 = 0) :
   Calls Tryz.prog 57 #[.agg #[.int .i64 P, .int .i64 M, mv, .int .i64 (n : Int), gv], .agg #[.int .i64 P, .int .i64 M, mv2, .int .i64 (n : Int), gv2]] w (RetZE w (.bool (insB (refOps P M Mod) gen gen2)) 0) := by
 have HCK := Lib.hid (fun (w' : World) (hb : Below w.heap.size w w') => rFit_any w' P M n P M n mv gv mv2 gv2 Mod Mod gen gen2 (hm.below hb (Nat.le_refl _)) (hg.below hb (Nat.le_refl _)) (hm2.below hb (Nat.le_refl _)) (hg2.below hb (Nat.le_refl _)))
 rw [fitE_self hE hE2] at HCK
 have hSA := SpP.of (codeE_sp hE); have hSB := SpP.of (codeE_sp hE2)
 have HIN := Lib.hid (fun (w' : World) (xv : Value) (k : Nat) (hk : k < gen.length) (hb : Below w.heap.size w w') (hx : SI w' xv (gen.getD k [])) => rIn_sp w' P M n mv gv2 xv Mod (gen.getD k []) gen2 hSB (hm.below hb (Nat.le_refl _)) hx (hg2.below hb (Nat.le_refl _)) (hSA.rref.rows k hk).1 (hSA.rref.rows k hk).2)
 have HV := Lib.hid hg
 have hrA := hSA.r256
 obtain ⟨GA, gc, rfl, _⟩ := hg
 obtain ⟨GB, kc, rfl, _⟩ := hg2
 clear hm hm2 hE hE2 hSA hSB
 obtain ⟨r, hrr⟩ : ∃ r, r = gen.length := ⟨_, rfl⟩
 rw [← hrr] at HCK HIN HV hrA ⊢
 have HRR := Lib.hid hrr; clear hrr
 generalize gen2.length = kl at *
 obtain ⟨w1, e1, hq⟩ := C2B.mk' w P M mv n (.slice GA r gc) P M mv2 n (.slice GB kl kc)
 have HQ := Lib.hid hq; have HE1 := Lib.hid e1; clear hq e1
 go_enter Tryz.func57, Tryz.ntmps57
 go_upto_region 1 with fail
 rw [HE1.out]
 clear HE1
 have c0 := HQ.out.b1.cell 0; have c1 := HQ.out.b1.cell 1; have c2 := HQ.out.b1.cell 2; have c3 := HQ.out.b1.cell 3; have c4 := HQ.out.b1.cell 4
 have d0 := HQ.out.b2.cell 0; have d1 := HQ.out.b2.cell 1; have d2 := HQ.out.b2.cell 2; have d3 := HQ.out.b2.cell 3; have d4 := HQ.out.b2.cell 4
 go_wp2_with fail
 refine (HCK.out w1 HQ.out.bel).mono ?_
 rintro e w3 ⟨rfl, hb3⟩
 have HQ3 := Lib.hid (HQ.out.on hb3)
 clear hb3 c0 c1 c2 c3 c4 d0 d1 d2 d3 d4
 go_wp2_with fail
 go_loopw [7] (fun i wr => ∃ k : Nat, k ≤ r ∧ i = .int .i64 (k : Int) ∧ Hid (∀ j, j < k → inL (refOps P M Mod) gen2 (gen.getD j []) = true) ∧ Hid (Below w3.heap.size w3 wr)) (fun i _ => r - (intOf i).toNat)
 case atStart => exact ⟨0, Nat.zero_le _, rfl, hid' fun j hj => absurd hj (Nat.not_lt_zero _), bl_refl _⟩
 case round =>
   obtain ⟨k, hk, rfl, HK, HB⟩ := hrel
   have HQ4 := Lib.hid (HQ3.out.on HB.out)
   by_cases hlt : k < r
   · obtain ⟨ad, Ak, ck, x, rfl, hcc, HX, HXE⟩ := (HV.out.below HQ4.out.bel (Nat.le_refl _)).eltA (k := k) (by rw [← HRR.out]; exact hlt)
     have HCI := Lib.hid (HIN.out wr.drew (.slice Ak x.length ck) k hlt (bl_trans HQ4.out.bel (bl_drew wr)) (by rw [HXE.out]; exact HX.out.si.below (bl_drew wr) (Nat.le_refl _)))
     rw [HXE.out] at HCI
     have HC := Lib.hid hcc
     have c0 := HQ4.out.b1.cell 0; have c1 := HQ4.out.b1.cell 1; have c2 := HQ4.out.b1.cell 2; have c4 := HQ4.out.b1.cell 4; have d4 := HQ4.out.b2.cell 4
     go_wp2_with fail
     refine Kept.start (S := fun w' => w'.cell? ⟨w.heap.size, 0, none⟩ = some (.int .i64 P) ∧ w'.cell? ⟨w.heap.size, 1, none⟩ = some (.int .i64 M) ∧ w'.cell? ⟨w.heap.size, 2, none⟩ = some mv ∧ w'.cell? ⟨w.heap.size, 4, none⟩ = some (.slice (some ad) r gc) ∧ w'.cell? ⟨w.heap.size + 1, 4, none⟩ = some (.slice GB kl kc) ∧ w'.cell? (ad.add k) = some (.slice Ak x.length ck)) (by kernel_rfl) (⟨c0, c1, c2, c4, d4, hcc⟩) (fun hHeld => ?_)
     change Kept _ _ _ _ 11 _ _ _
     refine Kept.tk 0 (v := ?_) rfl ?_ hHeld ?_
     rotate_left
     · intro w' h; (try dsimp only at h); go_simp <;> with_reducible rfl
     try simp only [tda, tdb, tdc, Act.put, tdd, tde, tdf]
     refine Kept.tk 1 (v := ?_) rfl ?_ hHeld ?_
     rotate_left
     · intro w' h; (try dsimp only at h); go_simp <;> with_reducible rfl
     try simp only [tda, tdb, tdc, Act.put, tdd, tde, tdf]
     refine Kept.tk 2 (v := ?_) rfl ?_ hHeld ?_
     rotate_left
     · intro w' h; (try dsimp only at h); go_simp <;> with_reducible rfl
     try simp only [tda, tdb, tdc, Act.put, tdd, tde, tdf]
     refine Kept.tk 3 (v := ?_) rfl ?_ hHeld ?_
     rotate_left
     · intro w' h; (try dsimp only at h); go_simp <;> with_reducible rfl
     try simp only [tda, tdb, tdc, Act.put, tdd, tde, tdf]
     refine Kept.tk 4 (v := ?_) rfl ?_ hHeld ?_
     rotate_left
     · intro w' h; (try dsimp only at h); go_simp <;> with_reducible rfl
     try simp only [tda, tdb, tdc, Act.put, tdd, tde, tdf]
     refine Kept.tk 5 (v := ?_) rfl ?_ hHeld ?_
     rotate_left
     · intro w' h; (try dsimp only at h); go_simp <;> with_reducible rfl
     try simp only [tda, tdb, tdc, Act.put, tdd, tde, tdf]
     refine Kept.tk 6 (v := ?_) rfl ?_ hHeld ?_
     rotate_left
     · intro w' h; (try dsimp only at h); go_simp <;> with_reducible rfl
     try simp only [tda, tdb, tdc, Act.put, tdd, tde, tdf]
     refine Kept.tk 7 (v := ?_) rfl ?_ hHeld ?_
     rotate_left
     · intro w' h; (try dsimp only at h); go_simp <;> with_reducible rfl
     try simp only [tda, tdb, tdc, Act.put, tdd, tde, tdf]
     refine Kept.tk 8 (v := ?_) rfl ?_ hHeld ?_
     rotate_left
     · intro w' h; (try dsimp only at h); go_simp <;> with_reducible rfl
     try simp only [tda, tdb, tdc, Act.put, tdd, tde, tdf]
     refine Kept.only (i := 9) (by kernel_rfl) rfl (fun K hK => ?_)
     go_simp
     refine HCI.out.mono ?_; rintro e w5 ⟨rfl, hb5⟩; have HB5 := Lib.hid (bl_trans (bl_drew wr) hb5); have HQ5 := Lib.hid (HQ4.out.on HB5.out); have hc5 := cell_below HB5.out HC.out; clear hb5
     refine hK.out _ _ (⟨HQ5.out.b1.cell 0, HQ5.out.b1.cell 1, HQ5.out.b1.cell 2, HQ5.out.b1.cell 4, HQ5.out.b2.cell 4, hc5⟩) (fun hHeld2 => ?_)
     clear hK K
     replace hHeld := hHeld2
     clear hHeld2
     try simp only [tda, tdb, tdc, Act.put, tdd, tde, tdf]
     refine Kept.only (i := 10) (by kernel_rfl) rfl (fun K hK => ?_)
     go_simp
     refine hK.out _ _ hHeld (fun hHeld2 => ?_)
     clear hK K
     clear hHeld2
     refine Kept.done (by kernel_rfl) ?_
     try simp only [tda, tdb, tdc, Act.put, tdd, tde, tdf]
     clear hHeld
     have HB6 := Lib.hid (bl_trans HB.out HB5.out)
     clear c0 c1 c2 c4 d4 hcc hc5
     cases hx : inL (refOps P M Mod) gen2 x
     · have HE : Hid (insB (refOps P M Mod) gen gen2 = false) := by
         show _ = _
         unfold insB
         exact all_not (k := k) (by rw [← HRR.out]; exact hlt) (by rw [HXE.out]; exact hx)
       clear hx
       go_wp2_with fail
       go_ret2
       exact ⟨by rw [HE.out]; rfl, HQ5.out.bel⟩
     · have HXX := Lib.hid hx; clear hx
       go_wp2_with fail
       exact ⟨⟨k + 1, by omega, by push_cast; rfl, hid' (fun j hj => by
         by_cases e : j = k
         · subst e; rw [HXE.out]; exact HXX.out
         · exact HK.out j (by omega)), HB6⟩, by simp only [intOf]; omega⟩
   · obtain rfl : r = k := by omega
     have HE : Hid (insB (refOps P M Mod) gen gen2 = true) := by
       show _ = _
       unfold insB
       exact all_of_getD fun j hj => HK.out j (by rw [HRR.out]; exact hj)
     have c4 := HQ4.out.b1.cell 4
     go_wp2_with fail
     go_ret2
     exact ⟨by rw [HE.out]; rfl, HQ4.out.bel⟩
set_option maxHeartbeats 16000000 in
theorem r12Hull_ok (w : World) (P M : Int) (n : Nat) (mv gv : Value) (Mod : List Int) (gen : List (List Int)) (hm : SI w mv Mod) (hg : SS w gv gen) (hE : codeE P M Mod n gen = 0) :
  Calls Tryz.prog 38 #[.agg #[.int .i64 P, .int .i64 M, mv, .int .i64 (n : Int), gv]] w (RetCE w P M Mod n (meetS (refOps P M Mod) gen (nullL (refOps P M Mod) gen n) n) 0) := by
 have HDU := Lib.hid (fun (w' : World) (hb : Below w.heap.size w w') => rCDual_ok w' P M n mv gv Mod gen (hm.below hb (Nat.le_refl _)) (hg.below hb (Nat.le_refl _)) hE)
 have HME := Lib.hid (fun (w' : World) (u g2 : Value) (hb : Below w.heap.size w w') (hu : SI w' u Mod) (hs : SS w' g2 (nullL (refOps P M Mod) gen n)) => rMeet12_ok w' P M n mv gv u g2 Mod gen _ (hm.below hb (Nat.le_refl _)) (hg.below hb (Nat.le_refl _)) hu hs hE (codeE_null hE))
 unfold RetCE at HDU HME
 obtain ⟨GA, gc, rfl, _⟩ := hg
 generalize gen.length = gl at *
 clear hm hE
 generalize meetS (refOps P M Mod) gen (nullL (refOps P M Mod) gen n) n = S at *
 generalize nullL (refOps P M Mod) gen n = C at *
 obtain ⟨k, hk⟩ : ∃ k, k = C.length := ⟨_, rfl⟩
 have HK := Lib.hid hk; clear hk
 obtain ⟨ml, hml⟩ : ∃ k, k = Mod.length := ⟨_, rfl⟩
 have HML := Lib.hid hml; clear hml
 obtain ⟨sl, hsl⟩ : ∃ k, k = S.length := ⟨_, rfl⟩
 have HSL := Lib.hid hsl; clear hsl
 obtain ⟨w1, e1, hq⟩ := CCQ.mk' w P M mv n (.slice GA gl gc)
 have HQ := Lib.hid hq; have HE1 := Lib.hid e1; clear hq e1
 go_enter Tryz.func38, Tryz.ntmps38
 go_upto_region 1 with fail
 rw [HE1.out]
 clear HE1
 have c0 := HQ.out.cb.c0; have c1 := HQ.out.cb.c1; have c2 := HQ.out.cb.c2; have c3 := HQ.out.cb.c3; have c4 := HQ.out.cb.c4
 go_wp2_with fail
 refine (HDU.out w1 HQ.out.cb.bel).mono ?_
 rintro e w2 ⟨u2, g2, rfl, hx2, hb2⟩
 obtain ⟨⟨MA, mc, rfl, _⟩, ⟨DA, dc, rfl, _⟩⟩ := hx2.out
 rw [← HK.out, ← HML.out] at hx2 ⊢
 have HX2 := Lib.hid hx2
 have HQ2 := Lib.hid (HQ.out.on hb2)
 clear hx2 hb2 c0 c1 c2 c3 c4
 go_upto_region 2 with fail
 obtain ⟨w3, g3, e1, e2, h3, hb3⟩ := mk_box w2 34 [.int .i64 P, .int .i64 M, .slice MA ml mc, .int .i64 (n : Int), .slice DA k dc]
 rw [e1, e2]
 have HQ3 := Lib.hid (HQ2.out.on hb3); have HX3 := Lib.hid (HX2.out.on hb3).out; have HG3 := Lib.hid h3
 clear e1 e2 h3 hb3 HX2 HQ2
 have c0 := HQ3.out.cb.c0; have c1 := HQ3.out.cb.c1; have c2 := HQ3.out.cb.c2; have c3 := HQ3.out.cb.c3; have c4 := HQ3.out.cb.c4
 have x0 := HG3.out.cell 0; have x1 := HG3.out.cell 1; have x2 := HG3.out.cell 2; have x3 := HG3.out.cell 3; have x4 := HG3.out.cell 4
 go_wp2_with fail
 refine (HME.out w3 _ _ HQ3.out.cb.bel HX3.out.1 HX3.out.2).mono ?_
 rintro e w4 ⟨u4, g4, rfl, hx4, hb4⟩
 obtain ⟨⟨MB, nc, rfl, _⟩, ⟨DB, ec, rfl, _⟩⟩ := hx4.out
 rw [← HSL.out, ← HML.out] at hx4 ⊢
 have HX4 := Lib.hid hx4
 have HQ4 := Lib.hid (HQ3.out.on hb4)
 have hs3 := HQ3.out.cb.bel.size
 have hq3 := HQ3.out.q.lt
 clear hx4 hb4 c0 c1 c2 c3 c4 x0 x1 x2 x3 x4
 obtain ⟨y0, y1, y2, y3, y4, f0, f1, f2, f3, f4⟩ := HQ4.out.q.five
 go_wp2_with fail
 obtain ⟨wz, hz, HL⟩ := lay5 (x := .int .i64 P) (y := .int .i64 M) (z := .slice MB ml nc) (u := .int .i64 (n : Int)) (v := .slice DB sl ec) HQ4.out.q
 rw [hz]
 have q0 := HL.c0; have q1 := HL.c1; have q2 := HL.c2; have q3 := HL.c3; have q4 := HL.c4
 refine bodyPost_ret (v := .tuple #[.agg #[.int .i64 P, .int .i64 M, .slice MB ml nc, .int .i64 (n : Int), .slice DB sl ec], .int .i64 0]) (by simp [results, Tryz.results38, go_sem, q0, q1, q2, q3, q4]) rfl ?_
 exact ⟨_, _, rfl, (HX4.out.grown HL.gr (by rintro b e; cases e; omega)).mono hs3, HL.below HQ4.out.cb.bel HQ4.out.cb.bel.size (by omega)⟩
set_option maxHeartbeats 16000000 in
theorem r12Hull_no (w : World) (P M n : Int) (mv gv : Value) (Mod : List Int) (gen : List (List Int)) (hm : SI w mv Mod) (hg : SS w gv gen) (hE : codeE P M Mod n gen ≠ 0) :
  Calls Tryz.prog 38 #[.agg #[.int .i64 P, .int .i64 M, mv, .int .i64 n, gv]] w (RetCE w 0 0 [] 0 [] (codeE P M Mod n gen)) := by
 have HDU := Lib.hid (fun (w' : World) (hb : Below w.heap.size w w') => rCDual_no w' P M n mv gv Mod gen (hm.below hb (Nat.le_refl _)) (hg.below hb (Nat.le_refl _)) hE)
 unfold RetCE at HDU
 have e2 : (codeE P M Mod n gen != 0) = true := by rw [bne_iff_ne]; exact hE
 generalize codeE P M Mod n gen = er at *
 clear hm hg hE
 obtain ⟨w1, e1, hq⟩ := CCQ.mk' w P M mv n gv
 have HQ := Lib.hid hq; have HE1 := Lib.hid e1; clear hq e1
 go_enter Tryz.func38, Tryz.ntmps38
 go_upto_region 1 with fail
 rw [HE1.out]
 clear HE1
 have c0 := HQ.out.cb.c0; have c1 := HQ.out.cb.c1; have c2 := HQ.out.cb.c2; have c3 := HQ.out.cb.c3; have c4 := HQ.out.cb.c4
 go_wp2_with fail
 refine (HDU.out w1 HQ.out.cb.bel).mono ?_
 rintro e w2 ⟨u2, g2, rfl, hx2, hb2⟩
 obtain ⟨⟨MA, mc, rfl, _⟩, ⟨DA, dc, rfl, _⟩⟩ := hx2.out
 have HQ2 := Lib.hid (HQ.out.on hb2)
 clear hx2 hb2 c0 c1 c2 c3 c4
 go_upto_region 2 with fail
 obtain ⟨w3, g3, e1, e2', h3, hb3⟩ := mk_box w2 34 [.int .i64 0, .int .i64 0, .slice MA 0 mc, .int .i64 0, .slice DA 0 dc]
 try simp only [List.length_nil]
 rw [e1, e2']
 have HQ3 := Lib.hid (HQ2.out.on hb3)
 clear e1 e2' h3 hb3 HQ2
 obtain ⟨y0, y1, y2, y3, y4, f0, f1, f2, f3, f4⟩ := HQ3.out.q.five
 go_wp2_with fail
 obtain ⟨w9, h9, HL⟩ := lay5 (x := .int .i64 0) (y := .int .i64 0) (z := .slice none 0 0) (u := .int .i64 0) (v := .slice none 0 0) HQ3.out.q
 rw [h9]
 have q0 := HL.c0; have q1 := HL.c1; have q2 := HL.c2; have q3 := HL.c3; have q4 := HL.c4
 refine bodyPost_ret (v := .tuple #[.agg #[.int .i64 0, .int .i64 0, .slice none 0 0, .int .i64 0, .slice none 0 0], .int .i64 er]) (by simp [results, Tryz.results38, go_sem, q0, q1, q2, q3, q4]) rfl ?_
 exact ⟨_, _, rfl, (SI.nilSep _ _).and (SS.nilSep _ _), HL.below HQ3.out.cb.bel HQ3.out.cb.bel.size (by omega)⟩
theorem dualsC (w : World) (P M n : Int) (mv gv : Value) (Mod : List Int) (gen : List (List Int)) (hm : SI w mv Mod) (hg : SS w gv gen) : ∃ Q R Md k S,
  Hid (∀ w', Below w.heap.size w w' → Calls Tryz.prog 34 #[.agg #[.int .i64 P, .int .i64 M, mv, .int .i64 n, gv]] w' (RetCE w' Q R Md k S (codeE P M Mod n gen))) ∧
   Hid (∀ w', Below w.heap.size w w' → Calls Tryz.prog 35 #[.agg #[.int .i64 P, .int .i64 M, mv, .int .i64 n, gv]] w' (RetCE w' Q R Md k S (codeE P M Mod n gen))) := by
 by_cases hE : codeE P M Mod n gen = 0
 ·obtain ⟨N, rfl, _⟩ := codeE_nat hE
  rw [hE]
  exact ⟨P, M, Mod, N, nullL (refOps P M Mod) gen N, hid' fun w' hb => cDual_ok w' P M N mv gv Mod gen (hm.below hb (Nat.le_refl _)) (hg.below hb (Nat.le_refl _)) hE, hid' fun w' hb => rCDual_ok w' P M N mv gv Mod gen (hm.below hb (Nat.le_refl _)) (hg.below hb (Nat.le_refl _)) hE⟩
 ·exact ⟨0, 0, [], 0, [], hid' fun w' hb => cDual_no w' P M n mv gv Mod gen (hm.below hb (Nat.le_refl _)) (hg.below hb (Nat.le_refl _)) hE, hid' fun w' hb => rCDual_no w' P M n mv gv Mod gen (hm.below hb (Nat.le_refl _)) (hg.below hb (Nat.le_refl _)) hE⟩
theorem hullsC (w : World) (P M n : Int) (mv gv : Value) (Mod : List Int) (gen : List (List Int)) (hm : SI w mv Mod) (hg : SS w gv gen) : ∃ Q R Md k S,
  Hid (∀ w', Below w.heap.size w w' → Calls Tryz.prog 37 #[.agg #[.int .i64 P, .int .i64 M, mv, .int .i64 n, gv]] w' (RetCE w' Q R Md k S (codeE P M Mod n gen))) ∧
   Hid (∀ w', Below w.heap.size w w' → Calls Tryz.prog 38 #[.agg #[.int .i64 P, .int .i64 M, mv, .int .i64 n, gv]] w' (RetCE w' Q R Md k S (codeE P M Mod n gen))) := by
 by_cases hE : codeE P M Mod n gen = 0
 ·obtain ⟨N, rfl, _⟩ := codeE_nat hE
  rw [hE]
  exact ⟨P, M, Mod, N, meetS (refOps P M Mod) gen (nullL (refOps P M Mod) gen N) N, hid' fun w' hb => cHull_ok w' P M N mv gv Mod gen (hm.below hb (Nat.le_refl _)) (hg.below hb (Nat.le_refl _)) hE, hid' fun w' hb => r12Hull_ok w' P M N mv gv Mod gen (hm.below hb (Nat.le_refl _)) (hg.below hb (Nat.le_refl _)) hE⟩
 ·exact ⟨0, 0, [], 0, [], hid' fun w' hb => cHull_no w' P M n mv gv Mod gen (hm.below hb (Nat.le_refl _)) (hg.below hb (Nat.le_refl _)) hE, hid' fun w' hb => r12Hull_no w' P M n mv gv Mod gen (hm.below hb (Nat.le_refl _)) (hg.below hb (Nat.le_refl _)) hE⟩
theorem matsC (w : World) (P M n : Int) (mv gv : Value) (Mod : List Int) (gen : List (List Int)) (hm : SI w mv Mod) (hg : SS w gv gen) : ∃ k S, (codeE P M Mod n gen = 0 → k = n ∧ S = gen) ∧
  Hid (∀ w', Below w.heap.size w w' → Calls Tryz.prog 29 #[.agg #[.int .i64 P, .int .i64 M, mv, .int .i64 n, gv]] w' (RetMA w' k S (codeE P M Mod n gen))) := by
 by_cases hE : codeE P M Mod n gen = 0
 ·obtain ⟨N, rfl, _, _, hS⟩ := codeE_nat hE
  refine ⟨N, canonL (refOps P M Mod) gen N, fun _ => ⟨rfl, hS.cn.self hS.hO⟩, hid' fun w' hb => ?_⟩
  rw [hE]
  exact (cMatrix_ok w' P M N mv gv Mod gen (hm.below hb (Nat.le_refl _)) (hg.below hb (Nat.le_refl _)) hE).mono fun _ _ => RetMx.ma
 ·exact ⟨0, [], fun h => absurd h hE, hid' fun w' hb => (cMatrix_no w' P M n mv gv Mod gen (hm.below hb (Nat.le_refl _)) (hg.below hb (Nat.le_refl _)) hE).mono fun _ _ => RetNo.ma⟩
theorem sumsC (w : World) (P M n P2 M2 n2 : Int) (mv gv mv2 gv2 : Value) (Mod Mod2 : List Int) (gen gen2 : List (List Int)) (hm : SI w mv Mod) (hg : SS w gv gen) (hm2 : SI w mv2 Mod2) (hg2 : SS w gv2 gen2) : ∃ Q R Md k S,
  Hid (∀ w', Below w.heap.size w w' → Calls Tryz.prog 40 #[.agg #[.int .i64 P, .int .i64 M, mv, .int .i64 n, gv], .agg #[.int .i64 P2, .int .i64 M2, mv2, .int .i64 n2, gv2]] w' (RetCE w' Q R Md k S (fitE P M Mod n gen P2 M2 Mod2 n2 gen2))) ∧
   Hid (∀ w', Below w.heap.size w w' → Calls Tryz.prog 54 #[.agg #[.int .i64 P, .int .i64 M, mv, .int .i64 n, gv], .agg #[.int .i64 P2, .int .i64 M2, mv2, .int .i64 n2, gv2]] w' (RetCE w' Q R Md k S (fitE P M Mod n gen P2 M2 Mod2 n2 gen2))) := by
 by_cases hE : fitE P M Mod n gen P2 M2 Mod2 n2 gen2 = 0
 ·obtain ⟨rfl, rfl, rfl, rfl, h1, h2⟩ := fitE_zero hE
  obtain ⟨N, rfl, _⟩ := codeE_nat h1
  rw [hE]
  exact ⟨P, M, Mod, N, sumS (refOps P M Mod) gen gen2 N, hid' fun w' hb => cSum_ok w' P M N mv gv mv2 gv2 Mod gen gen2 (hm.below hb (Nat.le_refl _)) (hg.below hb (Nat.le_refl _)) (hm2.below hb (Nat.le_refl _)) (hg2.below hb (Nat.le_refl _)) h1 h2, hid' fun w' hb => rSum12_ok w' P M N mv gv mv2 gv2 Mod gen gen2 (hm.below hb (Nat.le_refl _)) (hg.below hb (Nat.le_refl _)) (hm2.below hb (Nat.le_refl _)) (hg2.below hb (Nat.le_refl _)) h1 h2⟩
 ·exact ⟨0, 0, [], 0, [], hid' fun w' hb => cSum_no w' P M n P2 M2 n2 mv gv mv2 gv2 Mod Mod2 gen gen2 (hm.below hb (Nat.le_refl _)) (hg.below hb (Nat.le_refl _)) (hm2.below hb (Nat.le_refl _)) (hg2.below hb (Nat.le_refl _)) hE, hid' fun w' hb => rSum12_no w' P M n P2 M2 n2 mv gv mv2 gv2 Mod Mod2 gen gen2 (hm.below hb (Nat.le_refl _)) (hg.below hb (Nat.le_refl _)) (hm2.below hb (Nat.le_refl _)) (hg2.below hb (Nat.le_refl _)) hE⟩
theorem meetsC (w : World) (P M n P2 M2 n2 : Int) (mv gv mv2 gv2 : Value) (Mod Mod2 : List Int) (gen gen2 : List (List Int)) (hm : SI w mv Mod) (hg : SS w gv gen) (hm2 : SI w mv2 Mod2) (hg2 : SS w gv2 gen2) : ∃ Q R Md k S,
  Hid (∀ w', Below w.heap.size w w' → Calls Tryz.prog 41 #[.agg #[.int .i64 P, .int .i64 M, mv, .int .i64 n, gv], .agg #[.int .i64 P2, .int .i64 M2, mv2, .int .i64 n2, gv2]] w' (RetCE w' Q R Md k S (fitE P M Mod n gen P2 M2 Mod2 n2 gen2))) ∧
   Hid (∀ w', Below w.heap.size w w' → Calls Tryz.prog 55 #[.agg #[.int .i64 P, .int .i64 M, mv, .int .i64 n, gv], .agg #[.int .i64 P2, .int .i64 M2, mv2, .int .i64 n2, gv2]] w' (RetCE w' Q R Md k S (fitE P M Mod n gen P2 M2 Mod2 n2 gen2))) := by
 by_cases hE : fitE P M Mod n gen P2 M2 Mod2 n2 gen2 = 0
 ·obtain ⟨rfl, rfl, rfl, rfl, h1, h2⟩ := fitE_zero hE
  obtain ⟨N, rfl, _⟩ := codeE_nat h1
  rw [hE]
  exact ⟨P, M, Mod, N, meetS (refOps P M Mod) gen gen2 N, hid' fun w' hb => cMeet_ok w' P M N mv gv mv2 gv2 Mod gen gen2 (hm.below hb (Nat.le_refl _)) (hg.below hb (Nat.le_refl _)) (hm2.below hb (Nat.le_refl _)) (hg2.below hb (Nat.le_refl _)) h1 h2, hid' fun w' hb => rMeet12_ok w' P M N mv gv mv2 gv2 Mod gen gen2 (hm.below hb (Nat.le_refl _)) (hg.below hb (Nat.le_refl _)) (hm2.below hb (Nat.le_refl _)) (hg2.below hb (Nat.le_refl _)) h1 h2⟩
 ·exact ⟨0, 0, [], 0, [], hid' fun w' hb => cMeet_no w' P M n P2 M2 n2 mv gv mv2 gv2 Mod Mod2 gen gen2 (hm.below hb (Nat.le_refl _)) (hg.below hb (Nat.le_refl _)) (hm2.below hb (Nat.le_refl _)) (hg2.below hb (Nat.le_refl _)) hE, hid' fun w' hb => rMeet12_no w' P M n P2 M2 n2 mv gv mv2 gv2 Mod Mod2 gen gen2 (hm.below hb (Nat.le_refl _)) (hg.below hb (Nat.le_refl _)) (hm2.below hb (Nat.le_refl _)) (hg2.below hb (Nat.le_refl _)) hE⟩
theorem insC (w : World) (P M n P2 M2 n2 : Int) (mv gv mv2 gv2 : Value) (Mod Mod2 : List Int) (gen gen2 : List (List Int)) (hm : SI w mv Mod) (hg : SS w gv gen) (hm2 : SI w mv2 Mod2) (hg2 : SS w gv2 gen2) : ∃ b,
  Hid (∀ w', Below w.heap.size w w' → Calls Tryz.prog 56 #[.agg #[.int .i64 P, .int .i64 M, mv, .int .i64 n, gv], .agg #[.int .i64 P2, .int .i64 M2, mv2, .int .i64 n2, gv2]] w' (RetZE w' (.bool b) (fitE P M Mod n gen P2 M2 Mod2 n2 gen2))) ∧
   Hid (∀ w', Below w.heap.size w w' → Calls Tryz.prog 57 #[.agg #[.int .i64 P, .int .i64 M, mv, .int .i64 n, gv], .agg #[.int .i64 P2, .int .i64 M2, mv2, .int .i64 n2, gv2]] w' (RetZE w' (.bool b) (fitE P M Mod n gen P2 M2 Mod2 n2 gen2))) := by
 by_cases hE : fitE P M Mod n gen P2 M2 Mod2 n2 gen2 = 0
 ·obtain ⟨rfl, rfl, rfl, rfl, h1, h2⟩ := fitE_zero hE
  obtain ⟨N, rfl, _⟩ := codeE_nat h1
  rw [hE]
  exact ⟨insB (refOps P M Mod) gen gen2, hid' fun w' hb => cInside_ok w' P M N mv gv mv2 gv2 Mod gen gen2 (hm.below hb (Nat.le_refl _)) (hg.below hb (Nat.le_refl _)) (hm2.below hb (Nat.le_refl _)) (hg2.below hb (Nat.le_refl _)) h1 h2, hid' fun w' hb => rInside12_ok w' P M N mv gv mv2 gv2 Mod gen gen2 (hm.below hb (Nat.le_refl _)) (hg.below hb (Nat.le_refl _)) (hm2.below hb (Nat.le_refl _)) (hg2.below hb (Nat.le_refl _)) h1 h2⟩
 ·exact ⟨false, hid' fun w' hb => cInside_no w' P M n P2 M2 n2 mv gv mv2 gv2 Mod Mod2 gen gen2 (hm.below hb (Nat.le_refl _)) (hg.below hb (Nat.le_refl _)) (hm2.below hb (Nat.le_refl _)) (hg2.below hb (Nat.le_refl _)) hE, hid' fun w' hb => rInside12_no w' P M n P2 M2 n2 mv gv mv2 gv2 Mod Mod2 gen gen2 (hm.below hb (Nat.le_refl _)) (hg.below hb (Nat.le_refl _)) (hm2.below hb (Nat.le_refl _)) (hg2.below hb (Nat.le_refl _)) hE⟩
theorem siTC (w : World) (u v : Value) (a : List Int) (hu : SI w u a) (hv : SI w v a) : Calls Tryz.prog 21 #[u, v] w (RetB w true) := by
 have k := rSameInts_any w u v a a hu hv
 rw [show decide (a = a) = true from decide_eq_true rfl] at k
 exact k
theorem srTC (w : World) (u v : Value) (a : List (List Int)) (hu : SS w u a) (hv : SS w v a) : Calls Tryz.prog 33 #[u, v] w (RetB w true) := by
 have k := rSameRows_any w u v a a hu hv
 rw [show decide (a = a) = true from decide_eq_true rfl] at k
 exact k
end Go.Proofs.YtodgdoglhecolaaGreat
