/- Texts of a claim, merged: words, plain facts and walks that the last of its texts uses. -/
import Derived.Test.YtodgdoglhecolaaGreatZA4
import Derived.Test.YtodgdoglhecolaaGreatZA9
import Derived.Test.YtodgdoglhecolaaGreatZA12
import Derived.Test.YtodgdoglhecolaaGreatZA14
set_option linter.unusedSimpArgs false
set_option linter.unusedVariables false

namespace Go.Proofs.YtodgdoglhecolaaGreat
open Go.RowKit
set_option maxRecDepth 100000
def RetNo (w : World) (er : Int) (e : Ending) (w' : World) : Prop := e = .returned (.tuple #[.agg #[.int .i64 0, .slice none 0 0], .int .i64 er]) ∧ Below w.heap.size w w'
set_option maxHeartbeats 16000000 in
theorem sMeet_ok (w : World) (P M : Int) (n : Nat) (mv rv sv : Value) (Mod : List Int) (A B : List (List Int)) (hm : SI w mv Mod) (hv : SS w rv A) (hu : SS w sv B) (hA : spaceE P M Mod n A = 0) (hB : spaceE P M Mod n B = 0) (hn : n ≤ 128) :
  Calls Tryz.prog 89 #[.agg #[.int .i64 P, .int .i64 M, mv], .agg #[.int .i64 (n : Int), rv], .agg #[.int .i64 (n : Int), sv]] w (RetMx w n (meetS (refOps P M Mod) A B n)) := by
 have hSA := SpP.of hA; have hSB := SpP.of hB
 have hO := hSA.hO
 have hNA := Cn.null hO hSA.rref.rows; have hNB := Cn.null hO hSB.rref.rows
 have hNS := Cn.canon hO (hNA.rows.app hNB.rows)
 have HME : Hid (nullL (refOps P M Mod) (sumS (refOps P M Mod) (nullL (refOps P M Mod) A n) (nullL (refOps P M Mod) B n) n) n = meetS (refOps P M Mod) A B n) := hid' (null_canon hO (hNA.rows.app hNB.rows))
 have HPR := Lib.hid (fun (w' : World) (hb : Below w.heap.size w w') => pair_ok w' P M n mv rv sv Mod A B (hm.below hb (Nat.le_refl _)) (hv.below hb (Nat.le_refl _)) (hu.below hb (Nat.le_refl _)) hA hB)
 have HK1 := Lib.hid (fun (w' : World) (hb : Below w.heap.size w w') => mKernel_ok w' P M n mv _ Mod A (hm.below hb (Nat.le_refl _)) (hv.below hb (Nat.le_refl _)) (spaceE_zero hA).1)
 have HK2 := Lib.hid (fun (w' : World) (hb : Below w.heap.size w w') => mKernel_ok w' P M n mv _ Mod B (hm.below hb (Nat.le_refl _)) (hu.below hb (Nat.le_refl _)) (spaceE_zero hB).1)
 have HSU := Lib.hid (fun (w' : World) (u1 u2 : Value) (hb : Below w.heap.size w w') (h1 : SS w' u1 (nullL (refOps P M Mod) A n)) (h2 : SS w' u2 (nullL (refOps P M Mod) B n)) => sSum_ok w' P M n mv u1 u2 Mod _ _ (hm.below hb (Nat.le_refl _)) h1 h2 (Cn.spaceE hSA.fld (by omega) hNA) (Cn.spaceE hSA.fld (by omega) hNB) hn)
 have HK3 := Lib.hid (fun (w' : World) (u1 : Value) (hb : Below w.heap.size w w') (h1 : SS w' u1 (sumS (refOps P M Mod) (nullL (refOps P M Mod) A n) (nullL (refOps P M Mod) B n) n)) => mKernel_ok w' P M n mv u1 Mod _ (hm.below hb (Nat.le_refl _)) h1 (spaceE_zero (Cn.spaceE hSA.fld (by omega) hNS)).1)
 unfold RetPr at HPR
 unfold RetMx at HK1 HK2 HK3 HSU
 rw [HME.out] at HK3
 obtain ⟨RA, rc, rfl, _⟩ := hv
 obtain ⟨SA, sc, rfl, _⟩ := hu
 clear hm hA hB hSA hSB hO hNA hNB hNS
 generalize A.length = r at *
 generalize B.length = s at *
 obtain ⟨w1, e1, hq, hs1⟩ := FPP.mk' w P M mv n (.slice RA r rc) n (.slice SA s sc)
 have HQ := Lib.hid hq; have HE1 := Lib.hid e1
 clear hq e1
 go_enter Tryz.func89, Tryz.ntmps89
 go_upto_region 1 with fail
 rw [HE1.out]
 clear HE1
 have H3 := Lib.hid (Blk.new w1 27 [.int .i64 0, .slice none 0 0])
 have hb1 := bl_alloc w1 (.cells #[.int .i64 0, .slice none 0 0] 27)
 have hs2 := World.size_alloc w1 (.cells #[.int .i64 0, .slice none 0 0] 27)
 have HQ1 := Lib.hid (HQ.out.on hb1)
 generalize w1.alloc (.cells #[.int .i64 0, .slice none 0 0] 27) = w2 at *
 rw [hs1] at H3 hs2
 clear hb1 HQ
 have c0 := HQ1.out.fb.c0; have c1 := HQ1.out.fb.c1; have c2 := HQ1.out.fb.c2; have d0 := HQ1.out.m1.cell 0; have d1 := HQ1.out.m1.cell 1; have m0 := HQ1.out.m2.cell 0; have m1 := HQ1.out.m2.cell 1
 go_wp2_with fail
 refine (HPR.out w2 HQ1.out.fb.bel).mono ?_
 rintro e w3 ⟨a1, P1, k1, a2, P2, k2, rfl, _, _, hb3⟩
 have HQ3 := Lib.hid (HQ1.out.on hb3); have H33 := Lib.hid (H3.out.belowS hb3)
 have hs3 := hb3.size
 clear hb3 c0 c1 c2 d0 d1 m0 m1
 go_upto_region 2 with fail
 obtain ⟨w4, e4, _, _, hb4, hs4⟩ := boxes2 w3 128 [.pointer (some ⟨a1, 0, none⟩), .int .i64 (n : Int), .slice RA r rc, .slice P1 r k1] [.pointer (some ⟨a2, 0, none⟩), .int .i64 (n : Int), .slice SA s sc, .slice P2 s k2]
 rw [e4]
 have HQ4 := Lib.hid (HQ3.out.on hb4); have H34 := Lib.hid (H33.out.belowS hb4)
 clear e4 hb4 HQ3 H33
 have c0 := HQ4.out.fb.c0; have c1 := HQ4.out.fb.c1; have c2 := HQ4.out.fb.c2; have d0 := HQ4.out.m1.cell 0; have d1 := HQ4.out.m1.cell 1
 go_wp2_with fail
 refine (HK1.out w4 HQ4.out.fb.bel).mono ?_
 rintro e w5 ⟨u1, rfl, hx1, hb5⟩
 obtain ⟨U1, uc1, rfl, _⟩ := hx1.out
 have HX1 := Lib.hid hx1.out
 have HQ5 := Lib.hid (HQ4.out.on hb5); have H35 := Lib.hid (H34.out.belowS hb5)
 have hs5 := hb5.size
 clear hx1 hb5 c0 c1 c2 d0 d1 HQ4 H34
 generalize (nullL (refOps P M Mod) A n).length = l1 at *
 go_upto_region 5 with fail
 obtain ⟨w6, g6, e1, e2, h6, hb6⟩ := mk_box w5 27 [.int .i64 (n : Int), .slice U1 l1 uc1]
 rw [e1, e2]
 have HQ6 := Lib.hid (HQ5.out.on hb6); have H36 := Lib.hid (H35.out.belowS hb6); have HX16 := Lib.hid (HX1.out.below hb6 (Nat.le_refl _)); have HG6 := Lib.hid h6
 have hs6 := hb6.size
 clear e1 e2 h6 hb6 HQ5 H35 HX1
 have c0 := HQ6.out.fb.c0; have c1 := HQ6.out.fb.c1; have c2 := HQ6.out.fb.c2; have d0 := HQ6.out.m2.cell 0; have d1 := HQ6.out.m2.cell 1
 go_wp2_with fail
 refine (HK2.out w6 HQ6.out.fb.bel).mono ?_
 rintro e w7 ⟨u2, rfl, hx2, hb7⟩
 obtain ⟨U2, uc2, rfl, _⟩ := hx2.out
 have HX2 := Lib.hid hx2.out
 have HQ7 := Lib.hid (HQ6.out.on hb7); have H37 := Lib.hid (H36.out.belowS hb7); have HX17 := Lib.hid (HX16.out.below hb7 (Nat.le_refl _)); have HG67 := Lib.hid (HG6.out.belowS hb7)
 have hs7 := hb7.size
 clear hx2 hb7 c0 c1 c2 d0 d1 HQ6 H36 HX16 HG6
 generalize (nullL (refOps P M Mod) B n).length = l2 at *
 go_upto_region 6 with fail
 obtain ⟨w8, g8, e1, e2, h8, hb8⟩ := mk_box w7 27 [.int .i64 (n : Int), .slice U2 l2 uc2]
 rw [e1, e2]
 have HQ8 := Lib.hid (HQ7.out.on hb8); have H38 := Lib.hid (H37.out.belowS hb8); have HX18 := Lib.hid (HX17.out.below hb8 (Nat.le_refl _)); have HX28 := Lib.hid (HX2.out.below hb8 (Nat.le_refl _))
 have hg6 := HG67.out.belowS hb8
 have hs8 := hb8.size
 have x0 : w8.cell? ⟨g6, 0, none⟩ = some (.int .i64 (n : Int)) := hg6.cell 0
 have x1 : w8.cell? ⟨g6, 1, none⟩ = some (.slice U1 l1 uc1) := hg6.cell 1
 have x2 : w8.cell? ⟨g8, 0, none⟩ = some (.int .i64 (n : Int)) := h8.cell 0
 have x3 : w8.cell? ⟨g8, 1, none⟩ = some (.slice U2 l2 uc2) := h8.cell 1
 clear e1 e2 h8 hb8 HQ7 H37 HX17 HX2 hg6 HG67
 have c0 := HQ8.out.fb.c0; have c1 := HQ8.out.fb.c1; have c2 := HQ8.out.fb.c2
 go_wp2_with fail
 refine (HSU.out w8 _ _ HQ8.out.fb.bel HX18.out HX28.out).mono ?_
 rintro e w9 ⟨u3, rfl, hx3, hb9⟩
 obtain ⟨U3, uc3, rfl, _⟩ := hx3.out
 have HX3 := Lib.hid hx3.out
 have HQ9 := Lib.hid (HQ8.out.on hb9); have H39 := Lib.hid (H38.out.belowS hb9)
 have hs9 := hb9.size
 clear hx3 hb9 c0 c1 c2 x0 x1 x2 x3 HQ8 H38 HX18 HX28
 generalize (sumS (refOps P M Mod) (nullL (refOps P M Mod) A n) (nullL (refOps P M Mod) B n) n).length = l3 at *
 go_upto_region 7 with fail
 obtain ⟨w10, g10, e1, e2, h10, hb10⟩ := mk_box w9 27 [.int .i64 (n : Int), .slice U3 l3 uc3]
 rw [e1, e2]
 have HQ10 := Lib.hid (HQ9.out.on hb10); have H310 := Lib.hid (H39.out.belowS hb10); have HX310 := Lib.hid (HX3.out.below hb10 (Nat.le_refl _))
 have hs10 := hb10.size
 have x0 : w10.cell? ⟨g10, 0, none⟩ = some (.int .i64 (n : Int)) := h10.cell 0
 have x1 : w10.cell? ⟨g10, 1, none⟩ = some (.slice U3 l3 uc3) := h10.cell 1
 clear e1 e2 h10 hb10 HQ9 H39 HX3
 have c0 := HQ10.out.fb.c0; have c1 := HQ10.out.fb.c1; have c2 := HQ10.out.fb.c2
 go_wp2_with fail
 refine (HK3.out w10 _ HQ10.out.fb.bel HX310.out).mono ?_
 rintro e w11 ⟨u4, rfl, hx4, hb11⟩
 obtain ⟨U4, uc4, rfl, _⟩ := hx4.out
 have HX4 := Lib.hid hx4
 have HQ11 := Lib.hid (HQ10.out.on hb11); have H311 := Lib.hid (H310.out.belowS hb11)
 have hs11 := hb11.size
 clear hx4 hb11 c0 c1 c2 x0 x1
 generalize (meetS (refOps P M Mod) A B n).length = l4 at *
 obtain ⟨y0, y1, f0, f1⟩ := H311.out.two
 go_wp2_with fail
 obtain ⟨wz, hz, HL⟩ := lay2 (x := .int .i64 (n : Int)) (y := .slice U4 l4 uc4) H311.out
 rw [hz]
 have q0 := HL.c0; have q1 := HL.c1
 refine bodyPost_ret (v := .tuple #[.agg #[.int .i64 (n : Int), .slice U4 l4 uc4], .int .i64 0]) (by simp [results, Tryz.results89, go_sem, q0, q1]) rfl ?_
 exact ⟨_, rfl, (HX4.out.grown HL.gr (by rintro b e; cases e; omega)).mono HQ10.out.fb.bel.size, HL.below HQ11.out.fb.bel HQ11.out.fb.bel.size (by omega)⟩
theorem step_catO {ops : Array Oper} {o : Oper} {a : Act} {w : World} {K : Act → World → Prop} {Q : Exit → Act → World → Prop} {E : Prop} (hg : o.guard = none) (s x : Operand)
  (ho : o.op = .call { callee := .builtin .append, args := #[s, x], argTypes := #[25, 25] })
  (B : Nat) (wA : World) (v u : Value) (xss yss : List (List Int)) (hs : a.eval s = v) (hown : OS B (fun _ => False) w v xss) (hx : a.eval x = u)
  (hu : SS wA u yss) (hbA : Below wA.heap.size wA w) (hAB : wA.heap.size ≤ B)
  (hl : xss.length + yss.length ≤ 4398046511104) (hB : B ≤ w.heap.size)
  (h : ∀ v' w', OS B (fun _ => False) w' v' (xss ++ yss) → w.grownBy w' v.ownBlock → K (a.put o.dst v') w') :
  if Region.wanted o (yielded ops a.tmps) = true then Oper.wp Tryz.prog o a w K Q else E := by
 rw [if_pos (by simp [Region.wanted, hg])]
 exact wp_catO s x ho B wA v u xss yss hs hown hx hu hbA hAB hl hB h
theorem step_catN {ops : Array Oper} {o : Oper} {a : Act} {w : World} {K : Act → World → Prop} {Q : Exit → Act → World → Prop} {E : Prop} (hg : o.guard = none) (s x : Operand)
  (ho : o.op = .call { callee := .builtin .append, args := #[s, x], argTypes := #[25, 25] })
  (B B' : Nat) (X : Nat → Prop) (v u : Value) (xss yss : List (List Int)) (hs : a.eval s = v) (hown : OS B X w v xss) (hx : a.eval x = u)
  (hu : OS B' (fun g => X g ∨ v.ownBlock = some g) w u yss)
  (hl : xss.length + yss.length ≤ 4398046511104) (hB : B ≤ w.heap.size)
  (h : ∀ v' w', OS B X w' v' (xss ++ yss) → w.grownBy w' v.ownBlock → (v'.ownBlock = v.ownBlock ∨ v'.ownBlock = some w.heap.size) → K (a.put o.dst v') w') :
  if Region.wanted o (yielded ops a.tmps) = true then Oper.wp Tryz.prog o a w K Q else E := by
 rw [if_pos (by simp [Region.wanted, hg])]
 exact wp_catS s x ho B B' X v u xss yss hs hown hx hu hl hB h
theorem FieldP.ord {P M : Int} {Mod : List Int} (h : FieldP P M Mod) : orderF P M ≠ 0 := h.1
theorem FieldP.modp {P M : Int} {Mod : List Int} (h : FieldP P M Mod) : ModP P M Mod := h.2.2.1
def vecE (q : Int) (x : List Int) (n : Int) : Int := if (x.length : Int) = n then entriesF q x else 3
set_option maxHeartbeats 4000000 in
theorem word1_any (w : World) (g a : Nat) (P M x : Int) (Mod : List Int) (hG : GF w a P M Mod) (hc : w.cell? ⟨g, 0, none⟩ = some (.pointer (some ⟨a, 0, none⟩))) :
  Calls Tryz.prog 152 #[.int .i64 x, .pointer (some ⟨g, 0, none⟩)] w (fun e w' => e = .returned (.bool (!(isB P M x))) ∧ w = w') := by
 have HG := Lib.hid hG; clear hG
 go_enter Tryz.func152, Tryz.ntmps152
 go_wp2_with fail
 refine (gis_any _ a P M x Mod HG.out).mono ?_
 rintro e w1 ⟨rfl, rfl⟩
 go_wp2_with fail
 go_ret
 exact ⟨rfl, rfl⟩
set_option maxHeartbeats 4000000 in
theorem indexW_any (w : World) (g a : Nat) (P M : Int) (Mod : List Int) (v : Value) (xs : List Int) (hG : GF w a P M Mod) (hc : w.cell? ⟨g, 0, none⟩ = some (.pointer (some ⟨a, 0, none⟩))) (hv : SI w v xs) :
  Calls Tryz.prog 147 #[v, .func (.func 152) #[] #[.pointer (some ⟨g, 0, none⟩)]] w (fun e w' => ∃ z, e = .returned (.int .i64 z) ∧ decide (0 ≤ z) = decide (entriesF (orderF P M) xs ≠ 0) ∧ w = w') := by
 obtain ⟨A, c, rfl, hv⟩ := hv
 have hn := hv.len
 have HV := Lib.hid hv; have HG := Lib.hid hG; have HC := Lib.hid hc; clear hv hG hc
 go_enter Tryz.func147, Tryz.ntmps147
 go_wp2_with fail
 go_loop [8] (fun i => ∃ k : Nat, k ≤ xs.length ∧ i = .int .i64 (k : Int) ∧ Hid (∀ j, j < k → 0 ≤ xs.getD j 0 ∧ xs.getD j 0 < orderF P M)) (fun i => xs.length - (intOf i).toNat)
 case atStart => exact ⟨0, Nat.zero_le _, rfl, hid' fun j hj => absurd hj (Nat.not_lt_zero _)⟩
 case round =>
  obtain ⟨k, hk, rfl, HK⟩ := hrel
  by_cases hlt : k < xs.length
  ·obtain ⟨ad, x, rfl, hcc, _, HX⟩ := HV.out.elt hlt
   go_wp2_with fail
   refine (word1_any _ g a P M x Mod HG.out HC.out).mono ?_
   rintro e w1 ⟨rfl, rfl⟩
   by_cases hx : 0 ≤ x ∧ x < orderF P M
   ·rw [isB_true hx]
    have HXX := Lib.hid hx; clear hx
    go_wp2_with fail
    go_round
    case rel => exact ⟨k + 1, by omega, by go_num, hid' fun j hj => by
     by_cases e : j = k
     ·subst e; rw [HX.out]; exact HXX.out
     ·exact HK.out j (by omega)⟩
    case measure => simp [intOf]; omega
   ·rw [isB_false hx]
    have HE : Hid (entriesF (orderF P M) xs = 2) := entriesF_bad hlt (by rw [HX.out]; exact hx)
    clear hx
    go_wp2_with fail
    go_ret
    refine ⟨_, rfl, ?_, rfl⟩
    rw [HE.out]
    show decide ((0 : Int) ≤ (k : Int)) = true
    rw [decide_eq_true_eq]; omega
  ·obtain rfl : xs.length = k := by omega
   have HE : Hid (entriesF (orderF P M) xs = 0) := entriesF_ok HK.out
   go_wp2_with fail
   go_ret
   refine ⟨_, rfl, ?_, rfl⟩
   rw [HE.out]; rfl
set_option maxHeartbeats 8000000 in
theorem vword_any (w : World) (v rv xv : Value) (P M : Int) (Mod : List Int) (n : Nat) (rows : List (List Int)) (x : List Int) (hV : VW w v P M Mod n rv rows) (hv : SS w rv rows) (hx : SI w xv x) :
  Calls Tryz.prog 127 #[v, xv] w (RetI w (vecE (orderF P M) x n)) := by
 obtain ⟨a, PA, c, rfl, hG, _⟩ := hV
 obtain ⟨RA, rc, rfl, _⟩ := hv
 generalize rows.length = r at *
 have HQ := Blk.new w 128 [.pointer (some ⟨a, 0, none⟩), .int .i64 (n : Int), .slice RA r rc, .slice PA r c]
 have hb0 := bl_alloc w (.cells #[.pointer (some ⟨a, 0, none⟩), .int .i64 (n : Int), .slice RA r rc, .slice PA r c] 128)
 have HB0 := Lib.hid hb0
 have HG := Lib.hid (hG.on hb0)
 have HX := Lib.hid (hx.below hb0 (Nat.le_refl _))
 have HIX : Hid (∀ w1, w1 = w.alloc (.cells #[.pointer (some ⟨a, 0, none⟩), .int .i64 (n : Int), .slice RA r rc, .slice PA r c] 128) → Calls Tryz.prog 116 #[xv, .func (.func 152) #[] #[.pointer (some ⟨w.heap.size, 0, none⟩)]] w1 (fun e w' => e = .returned (.bool (decide (entriesF (orderF P M) x ≠ 0))) ∧ w1 = w')) := hid' fun w1 e1 => by
  subst e1
  have HI := Lib.hid (indexW_any _ w.heap.size a P M Mod xv x HG.out (HQ.cell 0) HX.out)
  clear HQ HG HX
  go_enter Tryz.func116, Tryz.ntmps116
  go_wp2_with fail
  refine HI.out.mono ?_
  rintro e w2 ⟨z, rfl, hz, rfl⟩
  have HZ := Lib.hid hz; clear hz
  go_wp2_with fail
  go_ret
  exact ⟨by rw [← HZ.out]; rfl, rfl⟩
 obtain ⟨XA, xc, rfl, _⟩ := hx
 clear hG hb0 HQ
 by_cases hl : (x.length : Int) = n
 ·have hb : ((x.length : Int) != (n : Int)) = false := by rw [bne_eq_false_iff_eq]; exact hl
  have HE : Hid (vecE (orderF P M) x n = entriesF (orderF P M) x) := by show _ = _; unfold vecE; rw [if_pos hl]
  clear hl
  rcases entriesF_cases (orderF P M) x with h0 | h0
  ·have H0 := Lib.hid h0
   rw [show decide (entriesF (orderF P M) x ≠ 0) = false by rw [h0]; rfl] at HIX
   clear h0
   go_enter Tryz.func127, Tryz.ntmps127
   go_wp2_with fail
   refine (HIX.out _ rfl).mono ?_
   rintro e w2 ⟨rfl, rfl⟩
   go_wp2_with fail
   go_ret
   exact ⟨by rw [HE.out, H0.out]; rfl, HB0.out⟩
  ·have H0 := Lib.hid h0
   rw [show decide (entriesF (orderF P M) x ≠ 0) = true by rw [h0]; rfl] at HIX
   clear h0
   go_enter Tryz.func127, Tryz.ntmps127
   go_wp2_with fail
   refine (HIX.out _ rfl).mono ?_
   rintro e w2 ⟨rfl, rfl⟩
   go_wp2_with fail
   go_ret
   exact ⟨by rw [HE.out, H0.out]; rfl, HB0.out⟩
 ·have hb : ((x.length : Int) != (n : Int)) = true := by rw [bne_iff_ne]; exact hl
  have HE : Hid (vecE (orderF P M) x n = 3) := by show _ = _; unfold vecE; rw [if_neg hl]
  clear hl
  go_enter Tryz.func127, Tryz.ntmps127
  go_wp2_with fail
  go_ret
  exact ⟨by rw [HE.out]; rfl, HB0.out⟩
theorem vecE_zero {q : Int} {x : List Int} {n : Nat} (h : vecE q x n = 0) (hq : 0 < q) : x.length = n ∧ Rng q x := by
 unfold vecE at h
 split at h
 ·rename_i h1
  refine ⟨by omega, fun k => ?_⟩
  by_cases hk : k < x.length
  ·exact entriesF_zero h k hk
  ·rw [getD_len (by omega)]; omega
 ·cases h
def insB (O : FOps) (A B : List (List Int)) : Bool := A.all fun r => inL O B r
set_option maxHeartbeats 4000000 in
theorem cins1_any (w : World) (g : Nat) (xv : Value) (a1 : Nat) (PA : Option Addr) (rr c : Nat) (RA : Option Addr) (rc : Nat) (P M : Int) (Mod : List Int) (n : Nat) (rows : List (List Int)) (x : List Int) (hS : SpP P M Mod n rows)
  (hV : VW w (.agg #[.pointer (some ⟨a1, 0, none⟩), .int .i64 (n : Int), .slice RA rr rc, .slice PA rr c]) P M Mod n (.slice RA rr rc) rows) (hc : Blk w g 128 [.pointer (some ⟨a1, 0, none⟩), .int .i64 (n : Int), .slice RA rr rc, .slice PA rr c])
  (hv : SS w (.slice RA rr rc) rows) (hx : SI w xv x) (hxr : Rng (orderF P M) x) (hxl : x.length = n) :
  Calls Tryz.prog 137 #[xv, .pointer (some ⟨g, 0, none⟩)] w (RetB w (!(inL (refOps P M Mod) rows x))) := by
 have HH := Lib.hid (vhas_any w _ _ xv P M Mod n rows x hS hV hv hx hxr hxl)
 obtain ⟨q0, q1, q2, q3⟩ := hc.four
 clear hS hV hc hv hx hxr hxl
 go_enter Tryz.func137, Tryz.ntmps137
 go_wp2_with fail
 refine HH.out.mono ?_
 rintro e w1 ⟨rfl, hb⟩
 have HB := Lib.hid hb; clear hb
 go_wp2_with fail
 go_ret
 exact ⟨rfl, HB.out⟩
set_option maxHeartbeats 8000000 in
theorem cinsi_any (w : World) (g : Nat) (av : Value) (a1 : Nat) (PA : Option Addr) (rr c : Nat) (RA : Option Addr) (rc : Nat) (P M : Int) (Mod : List Int) (n : Nat) (rows A : List (List Int)) (hS : SpP P M Mod n rows)
   (hV : VW w (.agg #[.pointer (some ⟨a1, 0, none⟩), .int .i64 (n : Int), .slice RA rr rc, .slice PA rr c]) P M Mod n (.slice RA rr rc) rows) (hc : Blk w g 128 [.pointer (some ⟨a1, 0, none⟩), .int .i64 (n : Int), .slice RA rr rc, .slice PA rr c])
   (hv : SS w (.slice RA rr rc) rows) (ha : SS w av A) (hA : Rows (orderF P M) n A) :
   Calls Tryz.prog 136 #[av, .func (.func 137) #[] #[.pointer (some ⟨g, 0, none⟩)]] w (RetB w (!(insB (refOps P M Mod) A rows))) := by
 have HIX : Hid (Calls Tryz.prog 155 #[av, .func (.func 137) #[] #[.pointer (some ⟨g, 0, none⟩)]] w (fun e w' => ∃ z, e = .returned (.int .i64 z) ∧ decide (0 ≤ z) = !(insB (refOps P M Mod) A rows) ∧ Below w.heap.size w w')) := by
   show Calls _ _ _ _ _
   have HC := Lib.hid (fun (w' : World) (xv : Value) (k : Nat) (hk : k < A.length) (hb : Below w.heap.size w w') (hx : SI w' xv (A.getD k [])) => cins1_any w' g xv a1 PA rr c RA rc P M Mod n rows (A.getD k []) hS (hV.on hb) (hc.belowS hb) (hv.below hb (Nat.le_refl _)) hx (hA k hk).2 (hA k hk).1)
   obtain ⟨AA, ac, rfl, ha'⟩ := ha
   have hn := ha'.len
   have HV := Lib.hid (show SS w (.slice AA A.length ac) A from ⟨AA, ac, rfl, ha'⟩)
   clear hS hV hc hv hA ha'
   obtain ⟨m, hm⟩ : ∃ m, m = A.length := ⟨_, rfl⟩
   rw [← hm] at HC HV hn ⊢
   have HM := Lib.hid hm; clear hm
   go_enter Tryz.func155, Tryz.ntmps155
   go_wp2_with fail
   go_loopw [8] (fun i wr => ∃ k : Nat, k ≤ m ∧ i = .int .i64 (k : Int) ∧ Hid (∀ j, j < k → inL (refOps P M Mod) rows (A.getD j []) = true) ∧ Hid (Below w.heap.size w wr)) (fun i _ => m - (intOf i).toNat)
   case atStart => exact ⟨0, Nat.zero_le _, rfl, hid' fun j hj => absurd hj (Nat.not_lt_zero _), bl_refl _⟩
   case round =>
     obtain ⟨k, hk, rfl, HK, HB⟩ := hrel
     by_cases hlt : k < m
     · obtain ⟨ad, Ak, ck, x, rfl, hcc, HX, HXE⟩ := (HV.out.below HB.out (Nat.le_refl _)).eltA (k := k) (by rw [← HM.out]; exact hlt)
       have HCK := Lib.hid (HC.out wr (.slice Ak x.length ck) k hlt HB.out (by rw [HXE.out]; exact HX.out.si))
       rw [HXE.out] at HCK
       go_wp2_with fail
       refine HCK.out.mono ?_
       rintro e w1 ⟨rfl, hb1⟩
       have HB1 := Lib.hid (bl_trans HB.out hb1)
       clear hb1
       cases hx : inL (refOps P M Mod) rows x
       · have HE : Hid (insB (refOps P M Mod) A rows = false) := by
           show _ = _
           unfold insB
           exact all_not (k := k) (by rw [← HM.out]; exact hlt) (by rw [HXE.out]; exact hx)
         clear hx
         go_wp2_with fail
         go_ret
         refine ⟨_, rfl, ?_, HB1.out⟩
         rw [HE.out]
         show decide ((0 : Int) ≤ (k : Int)) = true
         rw [decide_eq_true_eq]; omega
       · have HXX := Lib.hid hx; clear hx
         go_wp2_with fail
         exact ⟨⟨k + 1, by omega, by push_cast; rfl, hid' (fun j hj => by
           by_cases e : j = k
           · subst e; rw [HXE.out]; exact HXX.out
           · exact HK.out j (by omega)), HB1⟩, by simp only [intOf]; omega⟩
     · obtain rfl : m = k := by omega
       have HE : Hid (insB (refOps P M Mod) A rows = true) := by
         show _ = _
         unfold insB
         exact all_of_getD fun j hj => HK.out j (by rw [HM.out]; exact hj)
       go_wp2_with fail
       go_ret
       refine ⟨_, rfl, ?_, HB.out⟩
       rw [HE.out]; rfl
 clear hS hV hc hv ha hA
 go_enter Tryz.func136, Tryz.ntmps136
 go_wp2_with fail
 refine HIX.out.mono ?_
 rintro e w1 ⟨z, rfl, hz, hb⟩
 have HZ := Lib.hid hz; have HB := Lib.hid hb; clear hz hb
 go_wp2_with fail
 go_ret
 exact ⟨by rw [← HZ.out]; rfl, HB.out⟩
def crdL (O : FOps) (rows : List (List Int)) (n : Nat) (x : List Int) : List Int := (List.range rows.length).map fun k => x.getD (pvt (pivL O rows n) k) 0
set_option maxHeartbeats 8000000 in
theorem sHas_ok (w : World) (P M : Int) (n : Nat) (mv rv xv : Value) (Mod : List Int) (A : List (List Int)) (x : List Int) (hm : SI w mv Mod) (hv : SS w rv A) (hx : SI w xv x) (hA : spaceE P M Mod n A = 0) (hxe : vecE (orderF P M) x n = 0) :
  Calls Tryz.prog 95 #[.agg #[.int .i64 P, .int .i64 M, mv], .agg #[.int .i64 (n : Int), rv], xv] w (fun e w' => e = .returned (.tuple #[.bool (inL (refOps P M Mod) A x), .int .i64 0]) ∧ Below w.heap.size w w') := by
 have HO := Lib.hid (fun (w' : World) (hb : Below w.heap.size w w') => sopen_ok w' P M n mv _ Mod A (hm.below hb (Nat.le_refl _)) (hv.below hb (Nat.le_refl _)) hA)
 have hS := SpP.of hA
 have hob := orderF_bounds P M
 have hq0 : 0 < orderF P M := by have := hS.fld.1; omega
 have hvx := vecE_zero hxe hq0
 have HW := Lib.hid (fun (w' : World) (v : Value) (hb : Below w.heap.size w w') (hV : VW w' v P M Mod n rv A) => vword_any w' v rv xv P M Mod n A x hV (hv.below hb (Nat.le_refl _)) (hx.below hb (Nat.le_refl _)))
 have HH := Lib.hid (fun (w' : World) (v : Value) (hb : Below w.heap.size w w') (hV : VW w' v P M Mod n rv A) => vhas_any w' v rv xv P M Mod n A x hS hV (hv.below hb (Nat.le_refl _)) (hx.below hb (Nat.le_refl _)) hvx.2 hvx.1)
 rw [hxe] at HW
 unfold RetVW at HO
 obtain ⟨RA, rc, rfl, _⟩ := hv
 clear hm hA hS hxe hvx hob hq0 hx
 generalize A.length = r at *
 have HF := Lib.hid (FMBox.mk' w P M mv n (.slice RA r rc))
 go_enter Tryz.func95, Tryz.ntmps95
 go_upto_region 1 with fail
 generalize (w.alloc (.cells #[.int .i64 P, .int .i64 M, mv] 24)).alloc (.cells #[.int .i64 (n : Int), .slice RA r rc] 27) = w1 at *
 have c0 := HF.out.fb.c0; have c1 := HF.out.fb.c1; have c2 := HF.out.fb.c2; have d0 := HF.out.d0; have d1 := HF.out.d1
 go_wp2_with fail
 refine (HO.out w1 HF.out.fb.bel).mono ?_
 rintro e w2 ⟨a, PA, c, rfl, hs2, hb2⟩
 have hb3 := bl_alloc w2 (.cells #[.pointer (some ⟨a, 0, none⟩), .int .i64 (n : Int), .slice RA r rc, .slice PA r c] 128)
 have HB3 := Lib.hid (bl_trans (bl_trans HF.out.fb.bel hb2) hb3)
 have HQ3 := Blk.new w2 128 [.pointer (some ⟨a, 0, none⟩), .int .i64 (n : Int), .slice RA r rc, .slice PA r c]
 have HQ := Lib.hid HQ3
 have HV3 := Lib.hid (hs2.out.on hb3)
 clear hb2 hb3 hs2 c0 c1 c2 d0 d1 HQ3
 go_upto_region 2 with fail
 generalize hw3 : w2.alloc (.cells #[.pointer (some ⟨a, 0, none⟩), .int .i64 (n : Int), .slice RA r rc, .slice PA r c] 128) = w3 at *
 clear hw3
 obtain ⟨q0, q1, q2, q3⟩ := HQ.out.four
 go_wp2_with fail
 refine (HW.out w3 _ HB3.out HV3.out).mono ?_
 rintro e w4 ⟨rfl, hb4⟩
 have HB4 := Lib.hid (bl_trans HB3.out hb4)
 have HV4 := Lib.hid (HV3.out.on hb4)
 have HQ4 := Lib.hid (HQ.out.belowS hb4)
 clear hb4 q0 q1 q2 q3 HV3 HQ
 obtain ⟨q0, q1, q2, q3⟩ := HQ4.out.four
 go_wp2_with fail
 refine (HH.out w4 _ HB4.out HV4.out).mono ?_
 rintro e w5 ⟨rfl, hb5⟩
 have HB5 := Lib.hid (bl_trans HB4.out hb5)
 clear hb5 q0 q1 q2 q3
 go_wp2_with fail
 go_ret2
 exact ⟨rfl, HB5.out⟩
def RetIs (w : World) (xs : List Int) (e : Ending) (w' : World) : Prop := ∃ u, e = .returned (.tuple #[u, .int .i64 0]) ∧ OI w.heap.size w' u xs ∧ Below w.heap.size w w'
set_option maxHeartbeats 8000000 in
theorem sCoord_ok (w : World) (P M : Int) (n : Nat) (mv rv xv : Value) (Mod : List Int) (A : List (List Int)) (x : List Int) (hm : SI w mv Mod) (hv : SS w rv A) (hx : SI w xv x) (hA : spaceE P M Mod n A = 0) (hxe : vecE (orderF P M) x n = 0) (hin : inL (refOps P M Mod) A x = true) :
  Calls Tryz.prog 91 #[.agg #[.int .i64 P, .int .i64 M, mv], .agg #[.int .i64 (n : Int), rv], xv] w (RetIs w (crdL (refOps P M Mod) A n x)) := by
 have HO := Lib.hid (fun (w' : World) (hb : Below w.heap.size w w') => sopen_ok w' P M n mv _ Mod A (hm.below hb (Nat.le_refl _)) (hv.below hb (Nat.le_refl _)) hA)
 have hS := SpP.of hA
 have hob := orderF_bounds P M
 have hq0 : 0 < orderF P M := by have := hS.fld.1; omega
 have hvx := vecE_zero hxe hq0
 have HW := Lib.hid (fun (w' : World) (v : Value) (hb : Below w.heap.size w w') (hV : VW w' v P M Mod n rv A) => vword_any w' v rv xv P M Mod n A x hV (hv.below hb (Nat.le_refl _)) (hx.below hb (Nat.le_refl _)))
 have HH := Lib.hid (fun (w' : World) (v : Value) (hb : Below w.heap.size w w') (hV : VW w' v P M Mod n rv A) => vreduce_any w' v rv xv P M Mod n A x hS hV (hv.below hb (Nat.le_refl _)) (hx.below hb (Nat.le_refl _)) hvx.2 hvx.1)
 have HRL : Hid ((restL (refOps P M Mod) A x).length ≤ 256 ∧ ∀ k, I64 ((restL (refOps P M Mod) A x).getD k 0)) := hid' (by
  have h := rest_lt hS.hO hS.rref hvx.2 hvx.1
  exact ⟨by rw [h.1]; exact hS.n256, fun k => by have := h.2 k; exact I64.of_small (by omega) (by omega)⟩)
 have HCD : Hid (crdL (refOps P M Mod) A n x = (List.range A.length).map fun k => x.getD (pvt (pivL (refOps P M Mod) A n) k) 0) := rfl
 have HIN : Hid ((restL (refOps P M Mod) A x).all (· == 0) = true) := hid' hin
 rw [hxe] at HW
 rw [← HCD.out] at HH
 unfold RetVW at HO
 obtain ⟨RA, rc, rfl, _⟩ := hv
 clear hm hA hS hxe hvx hob hq0 hx hin HCD
 generalize A.length = r at *
 have HF := Lib.hid (FMBox.mk' w P M mv n (.slice RA r rc))
 go_enter Tryz.func91, Tryz.ntmps91
 go_upto_region 1 with fail
 generalize (w.alloc (.cells #[.int .i64 P, .int .i64 M, mv] 24)).alloc (.cells #[.int .i64 (n : Int), .slice RA r rc] 27) = w1 at *
 have c0 := HF.out.fb.c0; have c1 := HF.out.fb.c1; have c2 := HF.out.fb.c2; have d0 := HF.out.d0; have d1 := HF.out.d1
 go_wp2_with fail
 refine (HO.out w1 HF.out.fb.bel).mono ?_
 rintro e w2 ⟨a, PA, c, rfl, hs2, hb2⟩
 have hb3 := bl_alloc w2 (.cells #[.pointer (some ⟨a, 0, none⟩), .int .i64 (n : Int), .slice RA r rc, .slice PA r c] 128)
 have HB3 := Lib.hid (bl_trans (bl_trans HF.out.fb.bel hb2) hb3)
 have HQ3 := Blk.new w2 128 [.pointer (some ⟨a, 0, none⟩), .int .i64 (n : Int), .slice RA r rc, .slice PA r c]
 have HQ := Lib.hid HQ3
 have HV3 := Lib.hid (hs2.out.on hb3)
 clear hb2 hb3 hs2 c0 c1 c2 d0 d1 HQ3
 go_upto_region 2 with fail
 generalize hw3 : w2.alloc (.cells #[.pointer (some ⟨a, 0, none⟩), .int .i64 (n : Int), .slice RA r rc, .slice PA r c] 128) = w3 at *
 clear hw3
 obtain ⟨q0, q1, q2, q3⟩ := HQ.out.four
 go_wp2_with fail
 refine (HW.out w3 _ HB3.out HV3.out).mono ?_
 rintro e w4 ⟨rfl, hb4⟩
 have HB4 := Lib.hid (bl_trans HB3.out hb4)
 have HV4 := Lib.hid (HV3.out.on hb4)
 have HQ4 := Lib.hid (HQ.out.belowS hb4)
 clear hb4 q0 q1 q2 q3 HV3 HQ
 obtain ⟨q0, q1, q2, q3⟩ := HQ4.out.four
 go_wp2_with fail
 refine (HH.out w4 _ HB4.out HV4.out).mono ?_
 rintro e w5 ⟨u1, u2, rfl, h1, h2, hb5⟩
 have HB5 := Lib.hid (bl_trans HB4.out hb5)
 have H1 := Lib.hid (h1.si (by have := HRL.out.1; omega) HRL.out.2)
 have H2 := Lib.hid (h2.mono HB4.out.size)
 clear hb5 q0 q1 q2 q3 h1 h2
 go_wp2_with fail
 refine (szero_any _ u1 _ H1.out).mono ?_
 rintro e w6 ⟨rfl, rfl⟩
 rw [HIN.out]
 go_wp2_with fail
 go_ret2
 exact ⟨_, rfl, H2.out, HB5.out⟩
set_option maxHeartbeats 16000000 in
theorem sInside_ok (w : World) (P M : Int) (n : Nat) (mv rv sv : Value) (Mod : List Int) (A B : List (List Int)) (hm : SI w mv Mod) (hv : SS w rv A) (hu : SS w sv B) (hA : spaceE P M Mod n A = 0) (hB : spaceE P M Mod n B = 0) :
  Calls Tryz.prog 104 #[.agg #[.int .i64 P, .int .i64 M, mv], .agg #[.int .i64 (n : Int), rv], .agg #[.int .i64 (n : Int), sv]] w (fun e w' => e = .returned (.tuple #[.bool (insB (refOps P M Mod) A B), .int .i64 0]) ∧ Below w.heap.size w w') := by
 have hSA := SpP.of hA; have hSB := SpP.of hB
 have HPR := Lib.hid (fun (w' : World) (hb : Below w.heap.size w w') => pair_ok w' P M n mv rv sv Mod A B (hm.below hb (Nat.le_refl _)) (hv.below hb (Nat.le_refl _)) (hu.below hb (Nat.le_refl _)) hA hB)
 unfold RetPr at HPR
 have HV := Lib.hid hv; have HU := Lib.hid hu
 obtain ⟨RA, rc, rfl, _⟩ := hv
 obtain ⟨SA, sc, rfl, _⟩ := hu
 have HCI := Lib.hid (fun (w' : World) (g a1 : Nat) (PA : Option Addr) (c : Nat) (hb : Below w.heap.size w w') (hV : VW w' (.agg #[.pointer (some ⟨a1, 0, none⟩), .int .i64 (n : Int), .slice SA B.length sc, .slice PA B.length c]) P M Mod n (.slice SA B.length sc) B) (hc : Blk w' g 128 [.pointer (some ⟨a1, 0, none⟩), .int .i64 (n : Int), .slice SA B.length sc, .slice PA B.length c]) =>
  cinsi_any w' g _ a1 PA B.length c SA sc P M Mod n B A hSB hV hc (HU.out.below hb (Nat.le_refl _)) (HV.out.below hb (Nat.le_refl _)) hSA.rref.rows)
 clear hm hA hB hSA hSB
 generalize A.length = r at *
 generalize B.length = s at *
 obtain ⟨w1, e1, hq, hs1⟩ := FPP.mk' w P M mv n (.slice RA r rc) n (.slice SA s sc)
 have HQ := Lib.hid hq; have HE1 := Lib.hid e1
 clear hq e1
 go_enter Tryz.func104, Tryz.ntmps104
 go_upto_region 1 with fail
 rw [HE1.out]
 clear HE1
 have c0 := HQ.out.fb.c0; have c1 := HQ.out.fb.c1; have c2 := HQ.out.fb.c2; have d0 := HQ.out.m1.cell 0; have d1 := HQ.out.m1.cell 1; have m0 := HQ.out.m2.cell 0; have m1 := HQ.out.m2.cell 1
 go_wp2_with fail
 refine (HPR.out w1 HQ.out.fb.bel).mono ?_
 rintro e w3 ⟨a1, P1, k1, a2, P2, k2, rfl, hw1, hw2, hb3⟩
 have HQ3 := Lib.hid (HQ.out.on hb3)
 have HW2 := Lib.hid hw2
 clear hw1 hw2 hb3 c0 c1 c2 d0 d1 m0 m1
 go_upto_region 2 with fail
 obtain ⟨w4, e4, h8, h9, hb4, hs4⟩ := boxes2 w3 128 [.pointer (some ⟨a1, 0, none⟩), .int .i64 (n : Int), .slice RA r rc, .slice P1 r k1] [.pointer (some ⟨a2, 0, none⟩), .int .i64 (n : Int), .slice SA s sc, .slice P2 s k2]
 have HE4 := Lib.hid e4
 rw [HE4.out]
 have HQ4 := Lib.hid (HQ3.out.on hb4); have H94 := Lib.hid h9
 have HW4 := Lib.hid (HW2.out.on hb4)
 clear e4 HE4 h8 h9 hb4 HQ3 HW2
 have d1 := HQ4.out.m1.cell 1
 go_wp2_with fail
 refine (HCI.out w4 _ _ _ _ HQ4.out.fb.bel HW4.out H94.out).mono ?_
 rintro e w5 ⟨rfl, hb5⟩
 have HB5 := Lib.hid (bl_trans HQ4.out.fb.bel hb5)
 clear hb5 d1
 go_wp2_with fail
 go_ret2
 refine ⟨?_, HB5.out⟩
 cases insB (refOps P M Mod) A B <;> rfl
def RetZE (w : World) (z : Value) (er : Int) (e : Ending) (w' : World) : Prop := e = .returned (.tuple #[z, .int .i64 er]) ∧ Below w.heap.size w w'
set_option maxHeartbeats 8000000 in
theorem sCoord_out (w : World) (P M : Int) (n : Nat) (mv rv xv : Value) (Mod : List Int) (A : List (List Int)) (x : List Int) (hm : SI w mv Mod) (hv : SS w rv A) (hx : SI w xv x) (hA : spaceE P M Mod n A = 0) (hxe : vecE (orderF P M) x n = 0) (hin : inL (refOps P M Mod) A x = false) :
  Calls Tryz.prog 91 #[.agg #[.int .i64 P, .int .i64 M, mv], .agg #[.int .i64 (n : Int), rv], xv] w (RetZE w (.slice none 0 0) 11) := by
 have HO := Lib.hid (fun (w' : World) (hb : Below w.heap.size w w') => sopen_ok w' P M n mv _ Mod A (hm.below hb (Nat.le_refl _)) (hv.below hb (Nat.le_refl _)) hA)
 have hS := SpP.of hA
 have hob := orderF_bounds P M
 have hq0 : 0 < orderF P M := by have := hS.fld.1; omega
 have hvx := vecE_zero hxe hq0
 have HW := Lib.hid (fun (w' : World) (v : Value) (hb : Below w.heap.size w w') (hV : VW w' v P M Mod n rv A) => vword_any w' v rv xv P M Mod n A x hV (hv.below hb (Nat.le_refl _)) (hx.below hb (Nat.le_refl _)))
 have HH := Lib.hid (fun (w' : World) (v : Value) (hb : Below w.heap.size w w') (hV : VW w' v P M Mod n rv A) => vreduce_any w' v rv xv P M Mod n A x hS hV (hv.below hb (Nat.le_refl _)) (hx.below hb (Nat.le_refl _)) hvx.2 hvx.1)
 have HRL : Hid ((restL (refOps P M Mod) A x).length ≤ 256 ∧ ∀ k, I64 ((restL (refOps P M Mod) A x).getD k 0)) := hid' (by
  have h := rest_lt hS.hO hS.rref hvx.2 hvx.1
  exact ⟨by rw [h.1]; exact hS.n256, fun k => by have := h.2 k; exact I64.of_small (by omega) (by omega)⟩)
 have HCD : Hid (crdL (refOps P M Mod) A n x = (List.range A.length).map fun k => x.getD (pvt (pivL (refOps P M Mod) A n) k) 0) := rfl
 have HIN : Hid ((restL (refOps P M Mod) A x).all (· == 0) = false) := hid' hin
 rw [hxe] at HW
 rw [← HCD.out] at HH
 unfold RetVW at HO
 obtain ⟨RA, rc, rfl, _⟩ := hv
 clear hm hA hS hxe hvx hob hq0 hx hin HCD
 generalize A.length = r at *
 have HF := Lib.hid (FMBox.mk' w P M mv n (.slice RA r rc))
 go_enter Tryz.func91, Tryz.ntmps91
 go_upto_region 1 with fail
 generalize (w.alloc (.cells #[.int .i64 P, .int .i64 M, mv] 24)).alloc (.cells #[.int .i64 (n : Int), .slice RA r rc] 27) = w1 at *
 have c0 := HF.out.fb.c0; have c1 := HF.out.fb.c1; have c2 := HF.out.fb.c2; have d0 := HF.out.d0; have d1 := HF.out.d1
 go_wp2_with fail
 refine (HO.out w1 HF.out.fb.bel).mono ?_
 rintro e w2 ⟨a, PA, c, rfl, hs2, hb2⟩
 have hb3 := bl_alloc w2 (.cells #[.pointer (some ⟨a, 0, none⟩), .int .i64 (n : Int), .slice RA r rc, .slice PA r c] 128)
 have HB3 := Lib.hid (bl_trans (bl_trans HF.out.fb.bel hb2) hb3)
 have HQ3 := Blk.new w2 128 [.pointer (some ⟨a, 0, none⟩), .int .i64 (n : Int), .slice RA r rc, .slice PA r c]
 have HQ := Lib.hid HQ3
 have HV3 := Lib.hid (hs2.out.on hb3)
 clear hb2 hb3 hs2 c0 c1 c2 d0 d1 HQ3
 go_upto_region 2 with fail
 generalize hw3 : w2.alloc (.cells #[.pointer (some ⟨a, 0, none⟩), .int .i64 (n : Int), .slice RA r rc, .slice PA r c] 128) = w3 at *
 clear hw3
 obtain ⟨q0, q1, q2, q3⟩ := HQ.out.four
 go_wp2_with fail
 refine (HW.out w3 _ HB3.out HV3.out).mono ?_
 rintro e w4 ⟨rfl, hb4⟩
 have HB4 := Lib.hid (bl_trans HB3.out hb4)
 have HV4 := Lib.hid (HV3.out.on hb4)
 have HQ4 := Lib.hid (HQ.out.belowS hb4)
 clear hb4 q0 q1 q2 q3 HV3 HQ
 obtain ⟨q0, q1, q2, q3⟩ := HQ4.out.four
 go_wp2_with fail
 refine (HH.out w4 _ HB4.out HV4.out).mono ?_
 rintro e w5 ⟨u1, u2, rfl, h1, h2, hb5⟩
 have HB5 := Lib.hid (bl_trans HB4.out hb5)
 have H1 := Lib.hid (h1.si (by have := HRL.out.1; omega) HRL.out.2)
 have H2 := Lib.hid (h2.mono HB4.out.size)
 clear hb5 q0 q1 q2 q3 h1 h2
 go_wp2_with fail
 refine (szero_any _ u1 _ H1.out).mono ?_
 rintro e w6 ⟨rfl, rfl⟩
 rw [HIN.out]
 go_wp2_with fail
 go_ret2
 exact ⟨rfl, HB5.out⟩
set_option maxHeartbeats 8000000 in
theorem mvec_any (w : World) (a : Nat) (P M : Int) (n : Nat) (Mod x : List Int) (xv rv : Value) (rows : List (List Int)) (hG : GF w a P M Mod) (hx : SI w xv x) (hv : SS w rv rows) (hR : Rows (orderF P M) n rows) (hxl : x.length = rows.length) (hn : n ≤ 100000) :
  Calls Tryz.prog 120 #[.pointer (some ⟨a, 0, none⟩), xv, rv, .int .i64 (n : Int)] w (RetO w (combL (refOps P M Mod) x rows n)) := by
 have HG := Lib.hid hG; have HX := Lib.hid hx; have HV := Lib.hid hv; have HR := Lib.hid hR; have HXL := Lib.hid hxl
 have hf := hG.fld
 have HLT := Lib.hid (refOps_lt hf.1 Mod)
 have hob := orderF_bounds P M
 have HCB : Hid (combL (refOps P M Mod) x rows n = combTo (refOps P M Mod) x rows n x.length) := by show _ = _; unfold combL; rw [hxl, Nat.min_self]
 have hrl := hv.len'
 obtain ⟨XA, xc, rfl, _⟩ := hx
 obtain ⟨RA, rc, rfl, _⟩ := hv
 clear hG hR hf
 rw [hxl] at HX HCB ⊢
 clear hxl
 obtain ⟨r, hrr⟩ : ∃ r, r = rows.length := ⟨_, rfl⟩
 rw [← hrr] at HX HV HCB hrl ⊢
 have HRR := Lib.hid hrr; clear hrr
 have hmk := fun (w : World) => run_mkI n (by omega) w
 go_enter Tryz.func120, Tryz.ntmps120
 go_upto_region 2 with fail
 obtain ⟨w1, g, e1, e2, hX, hb⟩ := mk_row w n
 rw [e1, e2]
 have HO0 : Hid (OI w.heap.size w1 (.slice (some ⟨g, 0, none⟩) n n) (combTo (refOps P M Mod) x rows n 0)) := hid' (by
  have h := hX.oi (B := w.heap.size) (by omega) (by simp; omega)
  rw [List.length_replicate] at h
  exact h)
 have HB0 := Lib.hid hb
 have hg : w.heap.size ≤ g := by omega
 clear e1 e2 hX hb hmk
 go_wp2_with fail
 go_loopw [16] (fun i wr => ∃ k : Nat, k ≤ r ∧ i = .int .i64 (k : Int) ∧ Hid (OI w.heap.size wr (.slice (some ⟨g, 0, none⟩) n n) (combTo (refOps P M Mod) x rows n k)) ∧ Hid (Below w.heap.size w wr)) (fun i _ => r - (intOf i).toNat)
 case atStart => exact ⟨0, Nat.zero_le _, rfl, HO0, HB0⟩
 case round =>
  clear HO0 HB0
  obtain ⟨k, hk, rfl, HO, HB⟩ := hrel
  by_cases hkr : k < r
  ·obtain ⟨ad, z, rfl, hc, _, HZ⟩ := (HX.out.below HB.out (Nat.le_refl _)).elt (k := k) (by rw [HXL.out, ← HRR.out]; exact hkr)
   by_cases hz : z = 0
   ·subst hz
    have HNX : Hid (combTo (refOps P M Mod) x rows n (k + 1) = combTo (refOps P M Mod) x rows n k) := by show _ = _; rw [combTo, if_neg (by rw [HZ.out]; simp)]
    go_wp2_with fail
    exact ⟨⟨k + 1, by omega, by push_cast; rfl, by rw [HNX.out]; exact HO, HB⟩, by simp only [intOf]; omega⟩
   ·have hzb : (z != 0) = true := by simpa using hz
    obtain ⟨rd, Ak, ck, row, rfl, hd, HRW, HRE⟩ := (HV.out.below HB.out (Nat.le_refl _)).eltA (k := k) (by rw [← HRR.out]; exact hkr)
    have hrow : row.length = n := by rw [← HRE.out]; exact (HR.out k (by rw [← HRR.out]; exact hkr)).1
    have HNX : Hid (combTo (refOps P M Mod) x rows n (k + 1) = addToL (refOps P M Mod) (combTo (refOps P M Mod) x rows n k) z row) := by show _ = _; rw [combTo, if_pos (by rw [HZ.out]; exact hz), HZ.out, HRE.out]
    have HRB : Hid (0 < n → ∀ b, (Value.slice Ak n ck).ownBlock = some b → b < w.heap.size) := hid' (fun h0 b hb => by
     obtain ⟨rd', Ak', ck', row', e5, hd', hr', hre'⟩ := HV.out.eltA (k := k) (by rw [← HRR.out]; exact hkr)
     injection e5 with e5
     subst e5
     have hd2 := cell_below HB.out hd'
     rw [hd] at hd2
     have h4 := Option.some.inj hd2
     rw [← hre'.out, HRE.out] at h4 hr'
     injection h4 with h5 h6 h7
     subst h5
     subst h7
     have h8 := hr'.out.si
     rw [hrow] at h8
     exact h8.lt (by rw [hrow]; exact h0) hb)
    have HRI := Lib.hid HRW.out.si
    rw [hrow] at HRI hd
    have HCL : Hid ((combTo (refOps P M Mod) x rows n k).length = n) := hid' (combTo_len _ _ _ _ _)
    have HCR : Hid (∀ j, I64 ((combTo (refOps P M Mod) x rows n k).getD j 0)) := hid' (fun j => by
     have h := combTo_rng HLT.out x rows n k j
     exact I64.of_small (by omega) (by omega))
    clear hz
    go_wp2_with fail
    refine (madd_any w wr w.heap.size a g n n 0 P M z Mod _ row Ak ck HG.out HB.out (Nat.le_refl _) HO.out HCL.out HRI.out hrow (fun h0 b hb e => by have := HRB.out h0 b hb; omega) hn HCR.out).mono ?_
    rintro e w5 ⟨rfl, ho5, hg5⟩
    rw [← HNX.out] at ho5
    have HO5 := Lib.hid ho5
    have HB5 := Lib.hid (HB.out.grown hg5 HB.out.size (fun b e => by cases e; exact hg))
    clear ho5 hg5
    go_wp2_with fail
    exact ⟨⟨k + 1, by omega, by push_cast; rfl, HO5, HB5⟩, by simp only [intOf]; omega⟩
  ·obtain rfl : k = r := by omega
   rw [← HCB.out] at HO
   go_wp2_with fail
   go_ret
   exact ⟨_, rfl, HO.out, HB.out⟩
end Go.Proofs.YtodgdoglhecolaaGreat
namespace Go.Proofs.YtodgdoglhecolaaGreat
set_option maxRecDepth 100000
def xA : List (List Int) := [[1, 0, 1], [0, 1, 1]]
def xB : List (List Int) := [[1, 0, 0]]
def xS : List (List Int) := [[1, 0, 0], [0, 1, 0], [0, 0, 1]]
theorem x1 : sumS (refOps 2 1 []) xA xB 3 = xS := by decide +kernel
theorem x2 : meetS (refOps 2 1 []) xA xB 3 = [] := by decide +kernel
theorem x3 : nullL (refOps 2 1 []) xA 3 = [[1, 1, 1]] := by decide +kernel
theorem x4 : crdL (refOps 2 1 []) xA 3 [1, 1, 0] = [1, 1] := by decide +kernel
theorem x5 : restL (refOps 2 1 []) xA [1, 0, 0] = [0, 0, 1] := by decide +kernel
theorem x7 : supL (refOps 2 1 []) xA 3 (othersL [1, 2] 3) = [[0, 1, 1]] := by decide +kernel
theorem x8 : inL (refOps 2 1 []) xA [1, 0, 0] = false := by decide +kernel
theorem x10 : inL (refOps 2 1 []) xA [1, 1, 0] = true := by decide +kernel
theorem x11 : canonL (refOps 2 1 []) xA 3 = xA := by decide +kernel
theorem x12 : canonL (refOps 2 1 []) xB 3 = xB := by decide +kernel
theorem x13 : canonL (refOps 2 1 []) xS 3 = xS := by decide +kernel
theorem rows_of {n : Nat} {l : List (List Int)} (h : (l.all fun r => decide (r.length = n) && r.all fun x => decide (0 ≤ x ∧ x < 2)) = true) : Rows (orderF 2 1) n l := fun k hk => by
 rw [List.all_eq_true] at h
 have hm : l.getD k [] ∈ l := by simp [List.getD, hk]
 have h1 := h _ hm
 rw [Bool.and_eq_true, decide_eq_true_eq, List.all_eq_true] at h1
 refine ⟨h1.1, fun i => ?_⟩
 rw [order21]
 by_cases hi : i < (l.getD k []).length
 ·have h2 := h1.2 _ (getD_mem hi)
  rwa [decide_eq_true_eq] at h2
 ·rw [getD_len (by omega)]; omega
theorem fld21 : FieldP 2 1 [] := ⟨by rw [order21]; decide, ⟨by decide, fun d h1 h2 => by omega⟩, ⟨fun _ => rfl, fun h => absurd rfl h⟩, fun h => absurd rfl h⟩
theorem sp_of {l : List (List Int)} (h : (l.all fun r => decide (r.length = 3) && r.all fun x => decide (0 ≤ x ∧ x < 2)) = true) (h2 : canonL (refOps 2 1 []) l 3 = l) (hl : l.length ≤ 256) : spaceE 2 1 [] 3 l = 0 :=
 spaceE_ok (matE_mk (n := 3) fld21 (by omega) hl (rows_of h)) h2
end Go.Proofs.YtodgdoglhecolaaGreat
namespace Go.Proofs.YtodgdoglhecolaaGreat
open Go.RowKit
set_option maxRecDepth 100000
theorem ss_lit {w : World} {g : Nat} {hs : List Value} {xss : List (List Int)} (h : Blk w g 22 hs) (hl : xss.length ≤ 17592186044416) (hr : ∀ k, k < xss.length → ∃ u, hs[k]? = some u ∧ SI w u (xss.getD k [])) : SS w (.slice (some ⟨g, 0, none⟩) xss.length xss.length) xss := by
 refine ⟨some ⟨g, 0, none⟩, xss.length, rfl, hl, Nat.le_refl _, fun k hk => ?_⟩
 obtain ⟨u, hu, hs⟩ := hr k hk
 refine ⟨_, u, rfl, ?_, hs⟩
 have e2 : (⟨g, 0, none⟩ : Addr).add k = ⟨g, k, none⟩ := by
  unfold Addr.add
  by_cases h0 : k = 0 <;> simp [h0]
 rw [e2, h.cell k]
 exact hu
theorem bits_wf {xs : List Int} (h : (xs.all fun x => x == 0 || x == 1 || x == 2) = true) (k : Nat) : I64 (xs.getD k 0) := by
 by_cases hk : k < xs.length
 ·rw [List.all_eq_true] at h
  have := h _ (getD_mem hk)
  rw [Bool.or_eq_true, Bool.or_eq_true, beq_iff_eq, beq_iff_eq, beq_iff_eq] at this
  rcases this with (h | h) | h <;> rw [h]
  ·exact I64.zero
  ·exact I64.one
  ·exact I64.of_small (by omega) (by omega)
 ·rw [getD_len (by omega)]; exact I64.zero
theorem si_lit {w : World} {g : Nat} {xs : List Int} (h : Blk w g 3 (xs.map (Value.int .i64))) (hl : xs.length ≤ 17592186044416) (hb : (xs.all fun x => x == 0 || x == 1 || x == 2) = true) : SI w (.slice (some ⟨g, 0, none⟩) xs.length xs.length) xs := RI.si (show RI w g xs from h) hl (bits_wf hb)
theorem ss_lit2 {w : World} {g : Nat} {u v : Value} {xs ys : List Int} (h : Blk w g 22 [u, v]) (hu : SI w u xs) (hv : SI w v ys) : SS w (.slice (some ⟨g, 0, none⟩) 2 2) [xs, ys] :=
 ss_lit (xss := [xs, ys]) h (by simp) (fun k hk => by
  match k, hk with
  | 0, _ => exact ⟨_, rfl, hu⟩
  | 1, _ => exact ⟨_, rfl, hv⟩
  | k + 2, hk => exact absurd hk (by simp))
theorem srT (w : World) (u v : Value) (a b : List (List Int)) (hu : SS w u a) (hv : SS w v b) (h : a = b) : Calls Tryz.prog 33 #[u, v] w (RetB w true) := by
 have k := rSameRows_any w u v a b hu hv
 rw [show decide (a = b) = true from decide_eq_true h] at k
 exact k
theorem siT (w : World) (u v : Value) (a b : List Int) (hu : SI w u a) (hv : SI w v b) (h : a = b) : Calls Tryz.prog 21 #[u, v] w (RetB w true) := by
 have k := rSameInts_any w u v a b hu hv
 rw [show decide (a = b) = true from decide_eq_true h] at k
 exact k
theorem eA : spaceE 2 1 [] 3 xA = 0 := sp_of (by decide) x11 (by decide)
theorem eB : spaceE 2 1 [] 3 xB = 0 := sp_of (by decide) x12 (by decide)
theorem eS : spaceE 2 1 [] 3 xS = 0 := sp_of (by decide) x13 (by decide)
theorem ve_of {x : List Int} (hl : (x.length : Int) = 3) (h : (x.all fun y => decide (0 ≤ y ∧ y < 2)) = true) : vecE (orderF 2 1) x 3 = 0 := by
 unfold vecE
 rw [if_pos hl]
 refine entriesF_ok fun k hk => ?_
 rw [order21]
 rw [List.all_eq_true] at h
 have := h _ (getD_mem hk)
 rwa [decide_eq_true_eq] at this
section
variable (w : World) (a b c : Value)
theorem k1 (hA : SS w a xA) (hB : SS w b xB) : Calls Tryz.prog 88 #[.agg #[.int .i64 2, .int .i64 1, .slice none 0 0], .agg #[.int .i64 3, a], .agg #[.int .i64 3, b]] w (RetMx w 3 [[1, 0, 0], [0, 1, 0], [0, 0, 1]]) := by
 have h := sSum_ok w 2 1 3 (.slice none 0 0) a b [] xA xB (SI.none_ w) hA hB eA eB (by omega)
 rw [x1] at h
 exact h
theorem k2 (hA : SS w a xA) (hB : SS w b xB) : Calls Tryz.prog 89 #[.agg #[.int .i64 2, .int .i64 1, .slice none 0 0], .agg #[.int .i64 3, a], .agg #[.int .i64 3, b]] w (RetMx w 3 []) := by
 have h := sMeet_ok w 2 1 3 (.slice none 0 0) a b [] xA xB (SI.none_ w) hA hB eA eB (by omega)
 rw [x2] at h
 exact h
theorem k4 (hA : SS w a xA) (hc : SI w c [1, 1, 0]) : Calls Tryz.prog 91 #[.agg #[.int .i64 2, .int .i64 1, .slice none 0 0], .agg #[.int .i64 3, a], c] w (RetIs w [1, 1]) := by
 have h := sCoord_ok w 2 1 3 (.slice none 0 0) a c [] xA [1, 1, 0] (SI.none_ w) hA hc eA (ve_of rfl (by decide)) x10
 rw [x4] at h
 exact h
theorem k8 (hA : SS w a xA) (hc : SI w c [1, 0, 0]) : Calls Tryz.prog 95 #[.agg #[.int .i64 2, .int .i64 1, .slice none 0 0], .agg #[.int .i64 3, a], c] w (fun e w' => e = .returned (.tuple #[.bool false, .int .i64 0]) ∧ Below w.heap.size w w') := by
 have h := sHas_ok w 2 1 3 (.slice none 0 0) a c [] xA [1, 0, 0] (SI.none_ w) hA hc eA (ve_of rfl (by decide))
 rw [x8] at h
 exact h
end
end Go.Proofs.YtodgdoglhecolaaGreat
