/- Texts of a claim, merged: words, plain facts and walks that the last of its texts uses. -/
import Derived.Test.YtodgdoglhecolaaGreatZA2
import Derived.Test.YtodgdoglhecolaaGreatZA15
import Derived.Test.YtodgdoglhecolaaGreatZA16
set_option linter.unusedSimpArgs false
set_option linter.unusedVariables false

namespace Go.Proofs.YtodgdoglhecolaaGreat
open Go.RowKit
set_option maxRecDepth 100000
theorem codeE_mk {P M : Int} {Mod : List Int} {n : Nat} {gen : List (List Int)} (hf : FieldP P M Mod) (h1 : 1 ≤ n) (h2 : n ≤ 64) (hC : Cn (refOps P M Mod) (orderF P M) n gen) : codeE P M Mod n gen = 0 := by
 have h0 := checkF_ok hf
 have hle := hC.le
 have hm : matE P M Mod n gen = 0 := matE_mk hf (by omega) (by omega) hC.rows
 unfold codeE
 rw [if_neg (by rw [h0]; decide), if_pos (by omega)]
 unfold spaceE
 rw [if_neg (by rw [hm]; decide), Int.toNat_natCast, if_pos (hC.self (ref_fld hf))]
theorem codeE_null {P M : Int} {Mod : List Int} {n : Nat} {gen : List (List Int)} (hE : codeE P M Mod n gen = 0) : codeE P M Mod n (nullL (refOps P M Mod) gen n) = 0 := by
 have h64 := (codeE_zero hE).2.2.1
 have h1 := (codeE_zero hE).2.1
 have hS := SpP.of (codeE_sp hE)
 exact codeE_mk hS.fld (by omega) (by omega) (Cn.null hS.hO hS.rref.rows)
set_option maxHeartbeats 16000000 in
theorem cHull_ok (w : World) (P M : Int) (n : Nat) (mv gv : Value) (Mod : List Int) (gen : List (List Int)) (hm : SI w mv Mod) (hg : SS w gv gen) (hE : codeE P M Mod n gen = 0) :
  Calls Tryz.prog 37 #[.agg #[.int .i64 P, .int .i64 M, mv, .int .i64 (n : Int), gv]] w (RetCE w P M Mod n (meetS (refOps P M Mod) gen (nullL (refOps P M Mod) gen n) n) 0) := by
 have HDU := Lib.hid (fun (w' : World) (hb : Below w.heap.size w w') => cDual_ok w' P M n mv gv Mod gen (hm.below hb (Nat.le_refl _)) (hg.below hb (Nat.le_refl _)) hE)
 have HME := Lib.hid (fun (w' : World) (u g2 : Value) (hb : Below w.heap.size w w') (hu : SI w' u Mod) (hs : SS w' g2 (nullL (refOps P M Mod) gen n)) => cMeet_ok w' P M n mv gv u g2 Mod gen _ (hm.below hb (Nat.le_refl _)) (hg.below hb (Nat.le_refl _)) hu hs hE (codeE_null hE))
 unfold RetCE at HDU HME
 obtain ⟨GA, gc, rfl, _⟩ := hg
 generalize gen.length = gl at *
 clear hm hE
 generalize meetS (refOps P M Mod) gen (nullL (refOps P M Mod) gen n) n = S at *
 generalize nullL (refOps P M Mod) gen n = C at *
 obtain ⟨k, hk⟩ : ∃ k, k = C.length := ⟨_, rfl⟩
 have HK := Lib.hid hk; clear hk
 obtain ⟨ml, hml⟩ : ∃ k, k = Mod.length := ⟨_, rfl⟩
 have HML := Lib.hid hml; clear hml
 obtain ⟨sl, hsl⟩ : ∃ k, k = S.length := ⟨_, rfl⟩
 have HSL := Lib.hid hsl; clear hsl
 obtain ⟨w1, e1, hq⟩ := CCQ.mk' w P M mv n (.slice GA gl gc)
 have HQ := Lib.hid hq; have HE1 := Lib.hid e1; clear hq e1
 go_enter Tryz.func37, Tryz.ntmps37
 go_upto_region 1 with fail
 rw [HE1.out]
 clear HE1
 have c0 := HQ.out.cb.c0; have c1 := HQ.out.cb.c1; have c2 := HQ.out.cb.c2; have c3 := HQ.out.cb.c3; have c4 := HQ.out.cb.c4
 go_wp2_with fail
 refine (HDU.out w1 HQ.out.cb.bel).mono ?_
 rintro e w2 ⟨u2, g2, rfl, hx2, hb2⟩
 obtain ⟨⟨MA, mc, rfl, _⟩, ⟨DA, dc, rfl, _⟩⟩ := hx2.out
 rw [← HK.out, ← HML.out] at hx2 ⊢
 have HX2 := Lib.hid hx2
 have HQ2 := Lib.hid (HQ.out.on hb2)
 clear hx2 hb2 c0 c1 c2 c3 c4
 go_upto_region 2 with fail
 obtain ⟨w3, g3, e1, e2, h3, hb3⟩ := mk_box w2 34 [.int .i64 P, .int .i64 M, .slice MA ml mc, .int .i64 (n : Int), .slice DA k dc]
 rw [e1, e2]
 have HQ3 := Lib.hid (HQ2.out.on hb3); have HX3 := Lib.hid (HX2.out.on hb3).out; have HG3 := Lib.hid h3
 clear e1 e2 h3 hb3 HX2 HQ2
 have c0 := HQ3.out.cb.c0; have c1 := HQ3.out.cb.c1; have c2 := HQ3.out.cb.c2; have c3 := HQ3.out.cb.c3; have c4 := HQ3.out.cb.c4
 have x0 := HG3.out.cell 0; have x1 := HG3.out.cell 1; have x2 := HG3.out.cell 2; have x3 := HG3.out.cell 3; have x4 := HG3.out.cell 4
 go_wp2_with fail
 refine (HME.out w3 _ _ HQ3.out.cb.bel HX3.out.1 HX3.out.2).mono ?_
 rintro e w4 ⟨u4, g4, rfl, hx4, hb4⟩
 obtain ⟨⟨MB, nc, rfl, _⟩, ⟨DB, ec, rfl, _⟩⟩ := hx4.out
 rw [← HSL.out, ← HML.out] at hx4 ⊢
 have HX4 := Lib.hid hx4
 have HQ4 := Lib.hid (HQ3.out.on hb4)
 have hs3 := HQ3.out.cb.bel.size
 have hq3 := HQ3.out.q.lt
 clear hx4 hb4 c0 c1 c2 c3 c4 x0 x1 x2 x3 x4
 obtain ⟨y0, y1, y2, y3, y4, f0, f1, f2, f3, f4⟩ := HQ4.out.q.five
 go_wp2_with fail
 obtain ⟨wz, hz, HL⟩ := lay5 (x := .int .i64 P) (y := .int .i64 M) (z := .slice MB ml nc) (u := .int .i64 (n : Int)) (v := .slice DB sl ec) HQ4.out.q
 rw [hz]
 have q0 := HL.c0; have q1 := HL.c1; have q2 := HL.c2; have q3 := HL.c3; have q4 := HL.c4
 refine bodyPost_ret (v := .tuple #[.agg #[.int .i64 P, .int .i64 M, .slice MB ml nc, .int .i64 (n : Int), .slice DB sl ec], .int .i64 0]) (by simp [results, Tryz.results37, go_sem, q0, q1, q2, q3, q4]) rfl ?_
 exact ⟨_, _, rfl, (HX4.out.grown HL.gr (by rintro b e; cases e; omega)).mono hs3, HL.below HQ4.out.cb.bel HQ4.out.cb.bel.size (by omega)⟩
set_option maxHeartbeats 16000000 in
theorem cHull_no (w : World) (P M n : Int) (mv gv : Value) (Mod : List Int) (gen : List (List Int)) (hm : SI w mv Mod) (hg : SS w gv gen) (hE : codeE P M Mod n gen ≠ 0) :
  Calls Tryz.prog 37 #[.agg #[.int .i64 P, .int .i64 M, mv, .int .i64 n, gv]] w (RetCE w 0 0 [] 0 [] (codeE P M Mod n gen)) := by
 have HDU := Lib.hid (fun (w' : World) (hb : Below w.heap.size w w') => cDual_no w' P M n mv gv Mod gen (hm.below hb (Nat.le_refl _)) (hg.below hb (Nat.le_refl _)) hE)
 unfold RetCE at HDU
 have e2 : (codeE P M Mod n gen != 0) = true := by rw [bne_iff_ne]; exact hE
 generalize codeE P M Mod n gen = er at *
 clear hm hg hE
 obtain ⟨w1, e1, hq⟩ := CCQ.mk' w P M mv n gv
 have HQ := Lib.hid hq; have HE1 := Lib.hid e1; clear hq e1
 go_enter Tryz.func37, Tryz.ntmps37
 go_upto_region 1 with fail
 rw [HE1.out]
 clear HE1
 have c0 := HQ.out.cb.c0; have c1 := HQ.out.cb.c1; have c2 := HQ.out.cb.c2; have c3 := HQ.out.cb.c3; have c4 := HQ.out.cb.c4
 go_wp2_with fail
 refine (HDU.out w1 HQ.out.cb.bel).mono ?_
 rintro e w2 ⟨u2, g2, rfl, hx2, hb2⟩
 obtain ⟨⟨MA, mc, rfl, _⟩, ⟨DA, dc, rfl, _⟩⟩ := hx2.out
 have HQ2 := Lib.hid (HQ.out.on hb2)
 clear hx2 hb2 c0 c1 c2 c3 c4
 go_upto_region 2 with fail
 obtain ⟨w3, g3, e1, e2', h3, hb3⟩ := mk_box w2 34 [.int .i64 0, .int .i64 0, .slice MA 0 mc, .int .i64 0, .slice DA 0 dc]
 try simp only [List.length_nil]
 rw [e1, e2']
 have HQ3 := Lib.hid (HQ2.out.on hb3)
 clear e1 e2' h3 hb3 HQ2
 obtain ⟨y0, y1, y2, y3, y4, f0, f1, f2, f3, f4⟩ := HQ3.out.q.five
 go_wp2_with fail
 obtain ⟨w9, h9, HL⟩ := lay5 (x := .int .i64 0) (y := .int .i64 0) (z := .slice none 0 0) (u := .int .i64 0) (v := .slice none 0 0) HQ3.out.q
 rw [h9]
 have q0 := HL.c0; have q1 := HL.c1; have q2 := HL.c2; have q3 := HL.c3; have q4 := HL.c4
 refine bodyPost_ret (v := .tuple #[.agg #[.int .i64 0, .int .i64 0, .slice none 0 0, .int .i64 0, .slice none 0 0], .int .i64 er]) (by simp [results, Tryz.results37, go_sem, q0, q1, q2, q3, q4]) rfl ?_
 exact ⟨_, _, rfl, (SI.nilSep _ _).and (SS.nilSep _ _), HL.below HQ3.out.cb.bel HQ3.out.cb.bel.size (by omega)⟩
end Go.Proofs.YtodgdoglhecolaaGreat
