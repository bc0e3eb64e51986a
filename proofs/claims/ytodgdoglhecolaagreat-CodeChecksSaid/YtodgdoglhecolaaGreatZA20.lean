/- Texts of a claim, merged: words, plain facts and walks that the last of its texts uses. -/
import Derived.Test.YtodgdoglhecolaaGreatZA8
import Derived.Test.YtodgdoglhecolaaGreatZA12
import Derived.Test.YtodgdoglhecolaaGreatZA15
import Derived.Test.YtodgdoglhecolaaGreatZA17
import Derived.Test.YtodgdoglhecolaaGreatZA18
import Derived.Test.YtodgdoglhecolaaGreatZA19
set_option linter.unusedSimpArgs false
set_option linter.unusedVariables false

namespace Go.Proofs.YtodgdoglhecolaaGreat
open Go.RowKit
set_option maxRecDepth 100000
set_option maxHeartbeats 8000000 in
theorem cSum_no (w : World) (P M n P2 M2 n2 : Int) (mv gv mv2 gv2 : Value) (Mod Mod2 : List Int) (gen gen2 : List (List Int)) (hm : SI w mv Mod) (hg : SS w gv gen) (hm2 : SI w mv2 Mod2) (hg2 : SS w gv2 gen2) (hE : fitE P M Mod n gen P2 M2 Mod2 n2 gen2 ≠ 0) :
  Calls Tryz.prog 40 #[.agg #[.int .i64 P, .int .i64 M, mv, .int .i64 n, gv], .agg #[.int .i64 P2, .int .i64 M2, mv2, .int .i64 n2, gv2]] w (RetCE w 0 0 [] 0 [] (fitE P M Mod n gen P2 M2 Mod2 n2 gen2)) := by
 have HCK := Lib.hid (fun (w' : World) (hb : Below w.heap.size w w') => cTwo_any w' P M n P2 M2 n2 mv gv mv2 gv2 Mod Mod2 gen gen2 (hm.below hb (Nat.le_refl _)) (hg.below hb (Nat.le_refl _)) (hm2.below hb (Nat.le_refl _)) (hg2.below hb (Nat.le_refl _)))
 have e2 : (fitE P M Mod n gen P2 M2 Mod2 n2 gen2 != 0) = true := by rw [bne_iff_ne]; exact hE
 generalize fitE P M Mod n gen P2 M2 Mod2 n2 gen2 = er at *
 clear hm hg hm2 hg2 hE
 obtain ⟨w1, e1, hq⟩ := C3B.mk' w P M mv n gv P2 M2 mv2 n2 gv2
 have HQ := Lib.hid hq; have HE1 := Lib.hid e1; clear hq e1
 go_enter Tryz.func40, Tryz.ntmps40
 go_upto_region 1 with fail
 rw [HE1.out]
 clear HE1
 have c0 := HQ.out.cc.b1.cell 0; have c1 := HQ.out.cc.b1.cell 1; have c2 := HQ.out.cc.b1.cell 2; have c3 := HQ.out.cc.b1.cell 3; have c4 := HQ.out.cc.b1.cell 4
 have d0 := HQ.out.cc.b2.cell 0; have d1 := HQ.out.cc.b2.cell 1; have d2 := HQ.out.cc.b2.cell 2; have d3 := HQ.out.cc.b2.cell 3; have d4 := HQ.out.cc.b2.cell 4
 go_wp2_with fail
 refine (HCK.out w1 HQ.out.cc.bel).mono ?_
 rintro e w2 ⟨rfl, hb2⟩
 have HQ2 := Lib.hid (HQ.out.on hb2)
 clear hb2 c0 c1 c2 c3 c4 d0 d1 d2 d3 d4
 obtain ⟨d0, d1, d2, d3, d4, f0, f1, f2, f3, f4⟩ := HQ2.out.q.five
 go_wp2_with fail
 obtain ⟨w9, h9, HL⟩ := lay5 (x := .int .i64 0) (y := .int .i64 0) (z := .slice none 0 0) (u := .int .i64 0) (v := .slice none 0 0) HQ2.out.q
 rw [h9]
 have q0 := HL.c0; have q1 := HL.c1; have q2 := HL.c2; have q3 := HL.c3; have q4 := HL.c4
 refine bodyPost_ret (v := .tuple #[.agg #[.int .i64 0, .int .i64 0, .slice none 0 0, .int .i64 0, .slice none 0 0], .int .i64 er]) (by simp [results, Tryz.results40, go_sem, q0, q1, q2, q3, q4]) rfl ?_
 exact ⟨_, _, rfl, (SI.nilSep _ _).and (SS.nilSep _ _), HL.below HQ2.out.cc.bel HQ2.out.cc.bel.size (by omega)⟩
set_option maxHeartbeats 8000000 in
theorem cMeet_no (w : World) (P M n P2 M2 n2 : Int) (mv gv mv2 gv2 : Value) (Mod Mod2 : List Int) (gen gen2 : List (List Int)) (hm : SI w mv Mod) (hg : SS w gv gen) (hm2 : SI w mv2 Mod2) (hg2 : SS w gv2 gen2) (hE : fitE P M Mod n gen P2 M2 Mod2 n2 gen2 ≠ 0) :
  Calls Tryz.prog 41 #[.agg #[.int .i64 P, .int .i64 M, mv, .int .i64 n, gv], .agg #[.int .i64 P2, .int .i64 M2, mv2, .int .i64 n2, gv2]] w (RetCE w 0 0 [] 0 [] (fitE P M Mod n gen P2 M2 Mod2 n2 gen2)) := by
 have HCK := Lib.hid (fun (w' : World) (hb : Below w.heap.size w w') => cTwo_any w' P M n P2 M2 n2 mv gv mv2 gv2 Mod Mod2 gen gen2 (hm.below hb (Nat.le_refl _)) (hg.below hb (Nat.le_refl _)) (hm2.below hb (Nat.le_refl _)) (hg2.below hb (Nat.le_refl _)))
 have e2 : (fitE P M Mod n gen P2 M2 Mod2 n2 gen2 != 0) = true := by rw [bne_iff_ne]; exact hE
 generalize fitE P M Mod n gen P2 M2 Mod2 n2 gen2 = er at *
 clear hm hg hm2 hg2 hE
 obtain ⟨w1, e1, hq⟩ := C3B.mk' w P M mv n gv P2 M2 mv2 n2 gv2
 have HQ := Lib.hid hq; have HE1 := Lib.hid e1; clear hq e1
 go_enter Tryz.func41, Tryz.ntmps41
 go_upto_region 1 with fail
 rw [HE1.out]
 clear HE1
 have c0 := HQ.out.cc.b1.cell 0; have c1 := HQ.out.cc.b1.cell 1; have c2 := HQ.out.cc.b1.cell 2; have c3 := HQ.out.cc.b1.cell 3; have c4 := HQ.out.cc.b1.cell 4
 have d0 := HQ.out.cc.b2.cell 0; have d1 := HQ.out.cc.b2.cell 1; have d2 := HQ.out.cc.b2.cell 2; have d3 := HQ.out.cc.b2.cell 3; have d4 := HQ.out.cc.b2.cell 4
 go_wp2_with fail
 refine (HCK.out w1 HQ.out.cc.bel).mono ?_
 rintro e w2 ⟨rfl, hb2⟩
 have HQ2 := Lib.hid (HQ.out.on hb2)
 clear hb2 c0 c1 c2 c3 c4 d0 d1 d2 d3 d4
 obtain ⟨d0, d1, d2, d3, d4, f0, f1, f2, f3, f4⟩ := HQ2.out.q.five
 go_wp2_with fail
 obtain ⟨w9, h9, HL⟩ := lay5 (x := .int .i64 0) (y := .int .i64 0) (z := .slice none 0 0) (u := .int .i64 0) (v := .slice none 0 0) HQ2.out.q
 rw [h9]
 have q0 := HL.c0; have q1 := HL.c1; have q2 := HL.c2; have q3 := HL.c3; have q4 := HL.c4
 refine bodyPost_ret (v := .tuple #[.agg #[.int .i64 0, .int .i64 0, .slice none 0 0, .int .i64 0, .slice none 0 0], .int .i64 er]) (by simp [results, Tryz.results41, go_sem, q0, q1, q2, q3, q4]) rfl ?_
 exact ⟨_, _, rfl, (SI.nilSep _ _).and (SS.nilSep _ _), HL.below HQ2.out.cc.bel HQ2.out.cc.bel.size (by omega)⟩
set_option maxHeartbeats 8000000 in
theorem cInside_no (w : World) (P M n P2 M2 n2 : Int) (mv gv mv2 gv2 : Value) (Mod Mod2 : List Int) (gen gen2 : List (List Int)) (hm : SI w mv Mod) (hg : SS w gv gen) (hm2 : SI w mv2 Mod2) (hg2 : SS w gv2 gen2) (hE : fitE P M Mod n gen P2 M2 Mod2 n2 gen2 ≠ 0) :
  Calls Tryz.prog 56 #[.agg #[.int .i64 P, .int .i64 M, mv, .int .i64 n, gv], .agg #[.int .i64 P2, .int .i64 M2, mv2, .int .i64 n2, gv2]] w (RetZE w (.bool false) (fitE P M Mod n gen P2 M2 Mod2 n2 gen2)) := by
 have HCK := Lib.hid (fun (w' : World) (hb : Below w.heap.size w w') => cTwo_any w' P M n P2 M2 n2 mv gv mv2 gv2 Mod Mod2 gen gen2 (hm.below hb (Nat.le_refl _)) (hg.below hb (Nat.le_refl _)) (hm2.below hb (Nat.le_refl _)) (hg2.below hb (Nat.le_refl _)))
 have e2 : (fitE P M Mod n gen P2 M2 Mod2 n2 gen2 != 0) = true := by rw [bne_iff_ne]; exact hE
 generalize fitE P M Mod n gen P2 M2 Mod2 n2 gen2 = er at *
 clear hm hg hm2 hg2 hE
 obtain ⟨w1, e1, hq⟩ := C2B.mk' w P M mv n gv P2 M2 mv2 n2 gv2
 have HQ := Lib.hid hq; have HE1 := Lib.hid e1; clear hq e1
 go_enter Tryz.func56, Tryz.ntmps56
 go_upto_region 1 with fail
 rw [HE1.out]
 clear HE1
 have c0 := HQ.out.b1.cell 0; have c1 := HQ.out.b1.cell 1; have c2 := HQ.out.b1.cell 2; have c3 := HQ.out.b1.cell 3; have c4 := HQ.out.b1.cell 4
 have d0 := HQ.out.b2.cell 0; have d1 := HQ.out.b2.cell 1; have d2 := HQ.out.b2.cell 2; have d3 := HQ.out.b2.cell 3; have d4 := HQ.out.b2.cell 4
 go_wp2_with fail
 refine (HCK.out w1 HQ.out.bel).mono ?_
 rintro e w2 ⟨rfl, hb2⟩
 have HQ2 := Lib.hid (HQ.out.on hb2)
 clear hb2 c0 c1 c2 c3 c4 d0 d1 d2 d3 d4
 go_wp2_with fail
 go_ret2
 exact ⟨rfl, HQ2.out.bel⟩
set_option maxHeartbeats 32000000 in
theorem cSum_ok (w : World) (P M : Int) (n : Nat) (mv gv mv2 gv2 : Value) (Mod : List Int) (gen gen2 : List (List Int)) (hm : SI w mv Mod) (hg : SS w gv gen) (hm2 : SI w mv2 Mod) (hg2 : SS w gv2 gen2) (hE : codeE P M Mod n gen = 0) (hE2 : codeE P M Mod n gen2 = 0) :
  Calls Tryz.prog 40 #[.agg #[.int .i64 P, .int .i64 M, mv, .int .i64 (n : Int), gv], .agg #[.int .i64 P, .int .i64 M, mv2, .int .i64 (n : Int), gv2]] w (RetCE w P M Mod n (sumS (refOps P M Mod) gen gen2 n) 0) := by
 have HCK := Lib.hid (fun (w' : World) (hb : Below w.heap.size w w') => cTwo_any w' P M n P M n mv gv mv2 gv2 Mod Mod gen gen2 (hm.below hb (Nat.le_refl _)) (hg.below hb (Nat.le_refl _)) (hm2.below hb (Nat.le_refl _)) (hg2.below hb (Nat.le_refl _)))
 rw [fitE_self hE hE2] at HCK
 have h64 : n ≤ 128 := by have := (codeE_zero hE).2.2.1; omega
 have HKE := Lib.hid (fun (w' : World) (hb : Below w.heap.size w w') => sSum_ok w' P M n mv gv gv2 Mod gen gen2 (hm.below hb (Nat.le_refl _)) (hg.below hb (Nat.le_refl _)) (hg2.below hb (Nat.le_refl _)) (codeE_sp hE) (codeE_sp hE2) h64)
 have HOF := Lib.hid (fun (w' : World) (A9 : Option Addr) (l9 c9 : Nat) (hb : Below w.heap.size w w') => cof_ok w' P M n mv A9 l9 c9 Mod (hm.below hb (Nat.le_refl _)))
 have HML := Lib.hid hm.len'; have HMW := Lib.hid hm.wfs
 unfold RetMx at HKE
 unfold RetOf at HOF
 obtain ⟨GA, gc, rfl, _⟩ := hg
 generalize gen.length = gl at *
 obtain ⟨GB, kc, rfl, _⟩ := hg2
 generalize gen2.length = kl at *
 clear hm hm2 hE hE2 h64
 generalize sumS (refOps P M Mod) gen gen2 n = C at *
 obtain ⟨w1, e1, hq⟩ := C3B.mk' w P M mv n (.slice GA gl gc) P M mv2 n (.slice GB kl kc)
 have HQ := Lib.hid hq; have HE1 := Lib.hid e1; clear hq e1
 go_enter Tryz.func40, Tryz.ntmps40
 go_upto_region 1 with fail
 rw [HE1.out]
 clear HE1
 have c0 := HQ.out.cc.b1.cell 0; have c1 := HQ.out.cc.b1.cell 1; have c2 := HQ.out.cc.b1.cell 2; have c3 := HQ.out.cc.b1.cell 3; have c4 := HQ.out.cc.b1.cell 4
 have d0 := HQ.out.cc.b2.cell 0; have d1 := HQ.out.cc.b2.cell 1; have d2 := HQ.out.cc.b2.cell 2; have d3 := HQ.out.cc.b2.cell 3; have d4 := HQ.out.cc.b2.cell 4
 go_wp2_with fail
 refine (HCK.out w1 HQ.out.cc.bel).mono ?_
 rintro e w2 ⟨rfl, hb2⟩
 have HQ2 := Lib.hid (HQ.out.on hb2)
 have HB2 := Lib.hid HQ2.out.cc.bel
 clear hb2 c0 c1 c2 c3 c4 d0 d1 d2 d3 d4
 have c0 := HQ2.out.cc.b1.cell 0; have c1 := HQ2.out.cc.b1.cell 1; have c2 := HQ2.out.cc.b1.cell 2; have c3 := HQ2.out.cc.b1.cell 3; have c4 := HQ2.out.cc.b1.cell 4
 have d0 := HQ2.out.cc.b2.cell 0; have d1 := HQ2.out.cc.b2.cell 1; have d2 := HQ2.out.cc.b2.cell 2; have d3 := HQ2.out.cc.b2.cell 3; have d4 := HQ2.out.cc.b2.cell 4
 have C0 := Lib.hid c0; have C1 := Lib.hid c1; have C2 := Lib.hid c2; have C3 := Lib.hid c3; have C4 := Lib.hid c4
 have D0 := Lib.hid d0; have D1 := Lib.hid d1; have D2 := Lib.hid d2; have D3 := Lib.hid d3; have D4 := Lib.hid d4
 obtain ⟨k, hk⟩ : ∃ k, k = C.length := ⟨_, rfl⟩
 have HK := Lib.hid hk; clear hk
 go_upto_region 4 with fail
 go_cut [7, 8] from 17 to 25 (fun t5 t6 wc => ∃ g UA uc, t6 = .int .i64 0 ∧ t5 = .pointer (some ⟨g, 0, none⟩) ∧ w2.heap.size ≤ g ∧ Hid (Blk wc g 27 [.int .i64 (n : Int), .slice UA k uc]) ∧ Hid (Sep w2.heap.size wc fun w9 => SS w9 (.slice UA k uc) C) ∧ Hid (Below w2.heap.size w2 wc))
 case first =>
  refine Kept.start (S := fun w' => w'.cell? ⟨w.heap.size, 0, none⟩ = some (.int .i64 P) ∧ w'.cell? ⟨w.heap.size, 1, none⟩ = some (.int .i64 M) ∧ w'.cell? ⟨w.heap.size, 2, none⟩ = some mv ∧ w'.cell? ⟨w.heap.size, 3, none⟩ = some (.int .i64 (n : Int)) ∧ w'.cell? ⟨w.heap.size, 4, none⟩ = some (.slice GA gl gc) ∧ w'.cell? ⟨w.heap.size + 1, 0, none⟩ = some (.int .i64 P) ∧ w'.cell? ⟨w.heap.size + 1, 1, none⟩ = some (.int .i64 M) ∧ w'.cell? ⟨w.heap.size + 1, 2, none⟩ = some mv2 ∧ w'.cell? ⟨w.heap.size + 1, 3, none⟩ = some (.int .i64 (n : Int)) ∧ w'.cell? ⟨w.heap.size + 1, 4, none⟩ = some (.slice GB kl kc)) (by kernel_rfl) (⟨c0, c1, c2, c3, c4, d0, d1, d2, d3, d4⟩) (fun hHeld => ?_)
  change Kept _ _ _ _ 13 _ _ _
  have hdrew := bl_drew w2
  generalize w2.drew = wq1 at hdrew hHeld ⊢
  have HBB := Lib.hid hdrew
  clear c0 c1 c2 c3 c4 d0 d1 d2 d3 d4
  clear hdrew
  refine Kept.tk 0 (v := ?_) rfl ?_ hHeld ?_
  rotate_left
  ·intro w' h; (try dsimp only at h); go_simp <;> with_reducible rfl
  try simp only [tda, tdb, tdc, Act.put, tdd, tde, tdf]
  refine Kept.tk 1 (v := ?_) rfl ?_ hHeld ?_
  rotate_left
  ·intro w' h; (try dsimp only at h); go_simp <;> with_reducible rfl
  try simp only [tda, tdb, tdc, Act.put, tdd, tde, tdf]
  refine Kept.tk 2 (v := ?_) rfl ?_ hHeld ?_
  rotate_left
  ·intro w' h; (try dsimp only at h); go_simp <;> with_reducible rfl
  try simp only [tda, tdb, tdc, Act.put, tdd, tde, tdf]
  refine Kept.tk 4 (v := ?_) rfl ?_ hHeld ?_
  rotate_left
  ·intro w' h; (try dsimp only at h); go_simp <;> with_reducible rfl
  try simp only [tda, tdb, tdc, Act.put, tdd, tde, tdf]
  refine Kept.two (i := 3) (j := 10) (oi := ?opa2) (oj := ?opb2) (by kernel_rfl) ?hoa2 ?hob2 (fun K hK => ?way12) (fun K hK => ?way22)
  case hoa2 => (conv => lhs; simp only [tdg, tdh, tdi])
  case hob2 => (conv => lhs; simp only [tdg, tdh, tdi])
  case way12 =>
   go_simp
   refine (cgen_any _ P M n mv GA gl gc).mono ?_
   rintro e wq3 ⟨rfl, hb⟩
   replace HBB := Lib.hid (bl_trans HBB.out hb)
   clear hb
   refine hK.out _ _ (⟨cb HBB C0, cb HBB C1, cb HBB C2, cb HBB C3, cb HBB C4, cb HBB D0, cb HBB D1, cb HBB D2, cb HBB D3, cb HBB D4⟩) (fun hHeld2 => ?_)
   clear hK K
   replace hHeld := hHeld2
   clear hHeld2
   try simp only [tda, tdb, tdc, Act.put, tdd, tde, tdf]
   refine Kept.two (i := 5) (j := 10) (oi := ?opa4) (oj := ?opb4) (by kernel_rfl) ?hoa4 ?hob4 (fun K hK => ?way14) (fun K hK => ?way24)
   case hoa4 => (conv => lhs; simp only [tdg, tdh, tdi])
   case hob4 => (conv => lhs; simp only [tdg, tdh, tdi])
   case way14 =>
    go_simp
    refine (cgen_any _ P M n mv2 GB kl kc).mono ?_
    rintro e wq5 ⟨rfl, hb⟩
    replace HBB := Lib.hid (bl_trans HBB.out hb)
    clear hb
    refine hK.out _ _ (⟨cb HBB C0, cb HBB C1, cb HBB C2, cb HBB C3, cb HBB C4, cb HBB D0, cb HBB D1, cb HBB D2, cb HBB D3, cb HBB D4⟩) (fun hHeld2 => ?_)
    clear hK K
    replace hHeld := hHeld2
    clear hHeld2
    try simp only [tda, tdb, tdc, Act.put, tdd, tde, tdf]
    refine Kept.two (i := 6) (j := 10) (oi := ?opa6) (oj := ?opb6) (by kernel_rfl) ?hoa6 ?hob6 (fun K hK => ?way16) (fun K hK => ?way26)
    case hoa6 => (conv => lhs; simp only [tdg, tdh, tdi])
    case hob6 => (conv => lhs; simp only [tdg, tdh, tdi])
    case way16 =>
     have hbs0 := HBB.out.size
     go_simp
     refine (HKE.out _ (bl_trans HB2.out HBB.out)).mono ?_
     rintro e wq7 ⟨u, rfl, hx, hb⟩
     obtain ⟨UA, uc, rfl, _⟩ := hx.out
     rw [← HK.out] at hx ⊢
     have HS4 := Lib.hid (hx.mono hbs0) 
     replace HBB := Lib.hid (bl_trans HBB.out hb)
     clear hb hx hbs0
     refine hK.out _ _ (⟨cb HBB C0, cb HBB C1, cb HBB C2, cb HBB C3, cb HBB C4, cb HBB D0, cb HBB D1, cb HBB D2, cb HBB D3, cb HBB D4⟩) (fun hHeld2 => ?_)
     clear hK K
     replace hHeld := hHeld2
     clear hHeld2
     try simp only [tda, tdb, tdc, Act.put, tdd, tde, tdf]
     refine Kept.tk 7 (v := ?_) rfl ?_ hHeld ?_
     rotate_left
     ·intro w' h; (try dsimp only at h); go_simp <;> with_reducible rfl
     try simp only [tda, tdb, tdc, Act.put, tdd, tde, tdf]
     refine Kept.tk 8 (v := ?_) rfl ?_ hHeld ?_
     rotate_left
     ·intro w' h; (try dsimp only at h); go_simp <;> with_reducible rfl
     try simp only [tda, tdb, tdc, Act.put, tdd, tde, tdf]
     refine Kept.tk 9 (v := ?_) rfl ?_ hHeld ?_
     rotate_left
     ·intro w' h; (try dsimp only at h); go_simp <;> with_reducible rfl
     try simp only [tda, tdb, tdc, Act.put, tdd, tde, tdf]
     refine Kept.only (i := 10) (o := ?op8) (by kernel_rfl) ?ho8 (fun K hK => ?_)
     case ho8 => (conv => lhs; simp only [tdg, tdh, tdi])
     go_simp
     obtain ⟨wq9, g, e1, e2, hX, hb⟩ := mk_box wq7 27 [.int .i64 0, .slice none 0 0]
     rw [e1, e2]
     have HBX := Lib.hid hX
     have hgi : w2.heap.size ≤ g := (by have := HBB.out.size; omega)
     have HSF : Hid (∀ w9, World.grownBy wq9 w9 (some g) → Sep w2.heap.size w9 fun w9 => SS w9 (.slice UA k uc) C) := hid' (fun w9 hg => sep_far HS4.out hb (by omega) hg) 
     replace HBB := Lib.hid (bl_trans HBB.out hb)
     clear e1 e2 hX hb
     refine hK.out _ _ (⟨cb HBB C0, cb HBB C1, cb HBB C2, cb HBB C3, cb HBB C4, cb HBB D0, cb HBB D1, cb HBB D2, cb HBB D3, cb HBB D4⟩) (fun hHeld2 => ?_)
     clear hK K
     replace hHeld := hHeld2
     clear hHeld2
     try simp only [tda, tdb, tdc, Act.put, tdd, tde, tdf]
     refine Kept.only (i := 11) (o := ?op10) (by kernel_rfl) ?ho10 (fun K hK => ?_)
     case ho10 => (conv => lhs; simp only [tdg, tdh, tdi])
     obtain ⟨b0, b1, f0, f1⟩ := HBX.out.two
     go_simp
     obtain ⟨wq11, h6, HL⟩ := lay2 (x := .int .i64 (n : Int)) (y := .slice UA k uc) HBX.out
     rw [h6]
     have HS6 := Lib.hid (HSF.out _ HL.gr)
     have HBY := Lib.hid HL.blk
     replace HBB := Lib.hid (HL.below HBB.out HBB.out.size hgi)
     clear b0 b1 f0 f1 h6 HL HBX
     refine hK.out _ _ (⟨cb HBB C0, cb HBB C1, cb HBB C2, cb HBB C3, cb HBB C4, cb HBB D0, cb HBB D1, cb HBB D2, cb HBB D3, cb HBB D4⟩) (fun hHeld2 => ?_)
     clear hK K
     replace hHeld := hHeld2
     clear hHeld2
     try simp only [tda, tdb, tdc, Act.put, tdd, tde, tdf]
     refine Kept.only (i := 12) (by kernel_rfl) rfl (fun K hK => ?_)
     go_simp
     refine hK.out _ _ hHeld (fun hHeld2 => ?_)
     clear hK K
     clear hHeld2
     refine Kept.done (by kernel_rfl) ?_
     try simp only [tda, tdb, tdc, Act.put, tdd, tde, tdf]
     clear hHeld
     go_wp2_with fail
     go_meet
     exact ⟨g, UA, uc, rfl, rfl, hgi, HBY, HS6, HBB⟩
    case way26 =>
     go_simp
     obtain ⟨wq12, g, e1, e2, hX, hb⟩ := mk_box wq5 27 [.int .i64 0, .slice none 0 0]
     rw [e1, e2]
     have HBX := Lib.hid hX
     have hgi : w2.heap.size ≤ g := (by have := HBB.out.size; omega)
     replace HBB := Lib.hid (bl_trans HBB.out hb)
     clear e1 e2 hX hb
     refine hK.out _ _ (⟨cb HBB C0, cb HBB C1, cb HBB C2, cb HBB C3, cb HBB C4, cb HBB D0, cb HBB D1, cb HBB D2, cb HBB D3, cb HBB D4⟩) (fun hHeld2 => ?_)
     clear hK K
     replace hHeld := hHeld2
     clear hHeld2
     try simp only [tda, tdb, tdc, Act.put, tdd, tde, tdf]
     refine Kept.only (i := 6) (o := ?op13) (by kernel_rfl) ?ho13 (fun K hK => ?_)
     case ho13 => (conv => lhs; simp only [tdg, tdh, tdi])
     have hbs0 := HBB.out.size
     go_simp
     refine (HKE.out _ (bl_trans HB2.out HBB.out)).mono ?_
     rintro e wq14 ⟨u, rfl, hx, hb⟩
     obtain ⟨UA, uc, rfl, _⟩ := hx.out
     rw [← HK.out] at hx ⊢
     have hglt := HBX.out.lt 
     have HSF : Hid (∀ w9, World.grownBy wq14 w9 (some g) → Sep w2.heap.size w9 fun w9 => SS w9 (.slice UA k uc) C) := hid' (fun w9 hg => (hx.grown hg (by rintro b e; cases e; exact hglt)).mono hbs0) 
     clear hglt 
     replace HBX := Lib.hid (HBX.out.belowS hb) 
     replace HBB := Lib.hid (bl_trans HBB.out hb)
     clear hb hx hbs0
     refine hK.out _ _ (⟨cb HBB C0, cb HBB C1, cb HBB C2, cb HBB C3, cb HBB C4, cb HBB D0, cb HBB D1, cb HBB D2, cb HBB D3, cb HBB D4⟩) (fun hHeld2 => ?_)
     clear hK K
     replace hHeld := hHeld2
     clear hHeld2
     try simp only [tda, tdb, tdc, Act.put, tdd, tde, tdf]
     refine Kept.tk 7 (v := ?_) rfl ?_ hHeld ?_
     rotate_left
     ·intro w' h; (try dsimp only at h); go_simp <;> with_reducible rfl
     try simp only [tda, tdb, tdc, Act.put, tdd, tde, tdf]
     refine Kept.tk 8 (v := ?_) rfl ?_ hHeld ?_
     rotate_left
     ·intro w' h; (try dsimp only at h); go_simp <;> with_reducible rfl
     try simp only [tda, tdb, tdc, Act.put, tdd, tde, tdf]
     refine Kept.tk 9 (v := ?_) rfl ?_ hHeld ?_
     rotate_left
     ·intro w' h; (try dsimp only at h); go_simp <;> with_reducible rfl
     try simp only [tda, tdb, tdc, Act.put, tdd, tde, tdf]
     refine Kept.only (i := 11) (o := ?op15) (by kernel_rfl) ?ho15 (fun K hK => ?_)
     case ho15 => (conv => lhs; simp only [tdg, tdh, tdi])
     obtain ⟨b0, b1, f0, f1⟩ := HBX.out.two
     go_simp
     obtain ⟨wq16, h6, HL⟩ := lay2 (x := .int .i64 (n : Int)) (y := .slice UA k uc) HBX.out
     rw [h6]
     have HS6 := Lib.hid (HSF.out _ HL.gr)
     have HBY := Lib.hid HL.blk
     replace HBB := Lib.hid (HL.below HBB.out HBB.out.size hgi)
     clear b0 b1 f0 f1 h6 HL HBX
     refine hK.out _ _ (⟨cb HBB C0, cb HBB C1, cb HBB C2, cb HBB C3, cb HBB C4, cb HBB D0, cb HBB D1, cb HBB D2, cb HBB D3, cb HBB D4⟩) (fun hHeld2 => ?_)
     clear hK K
     replace hHeld := hHeld2
     clear hHeld2
     try simp only [tda, tdb, tdc, Act.put, tdd, tde, tdf]
     refine Kept.only (i := 12) (by kernel_rfl) rfl (fun K hK => ?_)
     go_simp
     refine hK.out _ _ hHeld (fun hHeld2 => ?_)
     clear hK K
     clear hHeld2
     refine Kept.done (by kernel_rfl) ?_
     try simp only [tda, tdb, tdc, Act.put, tdd, tde, tdf]
     clear hHeld
     go_wp2_with fail
     go_meet
     exact ⟨g, UA, uc, rfl, rfl, hgi, HBY, HS6, HBB⟩
   case way24 =>
    go_simp
    obtain ⟨wq17, g, e1, e2, hX, hb⟩ := mk_box wq3 27 [.int .i64 0, .slice none 0 0]
    rw [e1, e2]
    have HBX := Lib.hid hX
    have hgi : w2.heap.size ≤ g := (by have := HBB.out.size; omega)
    replace HBB := Lib.hid (bl_trans HBB.out hb)
    clear e1 e2 hX hb
    refine hK.out _ _ (⟨cb HBB C0, cb HBB C1, cb HBB C2, cb HBB C3, cb HBB C4, cb HBB D0, cb HBB D1, cb HBB D2, cb HBB D3, cb HBB D4⟩) (fun hHeld2 => ?_)
    clear hK K
    replace hHeld := hHeld2
    clear hHeld2
    try simp only [tda, tdb, tdc, Act.put, tdd, tde, tdf]
    refine Kept.only (i := 5) (o := ?op18) (by kernel_rfl) ?ho18 (fun K hK => ?_)
    case ho18 => (conv => lhs; simp only [tdg, tdh, tdi])
    go_simp
    refine (cgen_any _ P M n mv2 GB kl kc).mono ?_
    rintro e wq19 ⟨rfl, hb⟩
    replace HBX := Lib.hid (HBX.out.belowS hb) 
    replace HBB := Lib.hid (bl_trans HBB.out hb)
    clear hb
    refine hK.out _ _ (⟨cb HBB C0, cb HBB C1, cb HBB C2, cb HBB C3, cb HBB C4, cb HBB D0, cb HBB D1, cb HBB D2, cb HBB D3, cb HBB D4⟩) (fun hHeld2 => ?_)
    clear hK K
    replace hHeld := hHeld2
    clear hHeld2
    try simp only [tda, tdb, tdc, Act.put, tdd, tde, tdf]
    refine Kept.only (i := 6) (o := ?op20) (by kernel_rfl) ?ho20 (fun K hK => ?_)
    case ho20 => (conv => lhs; simp only [tdg, tdh, tdi])
    have hbs0 := HBB.out.size
    go_simp
    refine (HKE.out _ (bl_trans HB2.out HBB.out)).mono ?_
    rintro e wq21 ⟨u, rfl, hx, hb⟩
    obtain ⟨UA, uc, rfl, _⟩ := hx.out
    rw [← HK.out] at hx ⊢
    have hglt := HBX.out.lt 
    have HSF : Hid (∀ w9, World.grownBy wq21 w9 (some g) → Sep w2.heap.size w9 fun w9 => SS w9 (.slice UA k uc) C) := hid' (fun w9 hg => (hx.grown hg (by rintro b e; cases e; exact hglt)).mono hbs0) 
    clear hglt 
    replace HBX := Lib.hid (HBX.out.belowS hb) 
    replace HBB := Lib.hid (bl_trans HBB.out hb)
    clear hb hx hbs0
    refine hK.out _ _ (⟨cb HBB C0, cb HBB C1, cb HBB C2, cb HBB C3, cb HBB C4, cb HBB D0, cb HBB D1, cb HBB D2, cb HBB D3, cb HBB D4⟩) (fun hHeld2 => ?_)
    clear hK K
    replace hHeld := hHeld2
    clear hHeld2
    try simp only [tda, tdb, tdc, Act.put, tdd, tde, tdf]
    refine Kept.tk 7 (v := ?_) rfl ?_ hHeld ?_
    rotate_left
    ·intro w' h; (try dsimp only at h); go_simp <;> with_reducible rfl
    try simp only [tda, tdb, tdc, Act.put, tdd, tde, tdf]
    refine Kept.tk 8 (v := ?_) rfl ?_ hHeld ?_
    rotate_left
    ·intro w' h; (try dsimp only at h); go_simp <;> with_reducible rfl
    try simp only [tda, tdb, tdc, Act.put, tdd, tde, tdf]
    refine Kept.tk 9 (v := ?_) rfl ?_ hHeld ?_
    rotate_left
    ·intro w' h; (try dsimp only at h); go_simp <;> with_reducible rfl
    try simp only [tda, tdb, tdc, Act.put, tdd, tde, tdf]
    refine Kept.only (i := 11) (o := ?op22) (by kernel_rfl) ?ho22 (fun K hK => ?_)
    case ho22 => (conv => lhs; simp only [tdg, tdh, tdi])
    obtain ⟨b0, b1, f0, f1⟩ := HBX.out.two
    go_simp
    obtain ⟨wq23, h6, HL⟩ := lay2 (x := .int .i64 (n : Int)) (y := .slice UA k uc) HBX.out
    rw [h6]
    have HS6 := Lib.hid (HSF.out _ HL.gr)
    have HBY := Lib.hid HL.blk
    replace HBB := Lib.hid (HL.below HBB.out HBB.out.size hgi)
    clear b0 b1 f0 f1 h6 HL HBX
    refine hK.out _ _ (⟨cb HBB C0, cb HBB C1, cb HBB C2, cb HBB C3, cb HBB C4, cb HBB D0, cb HBB D1, cb HBB D2, cb HBB D3, cb HBB D4⟩) (fun hHeld2 => ?_)
    clear hK K
    replace hHeld := hHeld2
    clear hHeld2
    try simp only [tda, tdb, tdc, Act.put, tdd, tde, tdf]
    refine Kept.only (i := 12) (by kernel_rfl) rfl (fun K hK => ?_)
    go_simp
    refine hK.out _ _ hHeld (fun hHeld2 => ?_)
    clear hK K
    clear hHeld2
    refine Kept.done (by kernel_rfl) ?_
    try simp only [tda, tdb, tdc, Act.put, tdd, tde, tdf]
    clear hHeld
    go_wp2_with fail
    go_meet
    exact ⟨g, UA, uc, rfl, rfl, hgi, HBY, HS6, HBB⟩
  case way22 =>
   go_simp
   obtain ⟨wq24, g, e1, e2, hX, hb⟩ := mk_box wq1 27 [.int .i64 0, .slice none 0 0]
   rw [e1, e2]
   have HBX := Lib.hid hX
   have hgi : w2.heap.size ≤ g := (by have := HBB.out.size; omega)
   replace HBB := Lib.hid (bl_trans HBB.out hb)
   clear e1 e2 hX hb
   refine hK.out _ _ (⟨cb HBB C0, cb HBB C1, cb HBB C2, cb HBB C3, cb HBB C4, cb HBB D0, cb HBB D1, cb HBB D2, cb HBB D3, cb HBB D4⟩) (fun hHeld2 => ?_)
   clear hK K
   replace hHeld := hHeld2
   clear hHeld2
   try simp only [tda, tdb, tdc, Act.put, tdd, tde, tdf]
   refine Kept.only (i := 3) (o := ?op25) (by kernel_rfl) ?ho25 (fun K hK => ?_)
   case ho25 => (conv => lhs; simp only [tdg, tdh, tdi])
   go_simp
   refine (cgen_any _ P M n mv GA gl gc).mono ?_
   rintro e wq26 ⟨rfl, hb⟩
   replace HBX := Lib.hid (HBX.out.belowS hb) 
   replace HBB := Lib.hid (bl_trans HBB.out hb)
   clear hb
   refine hK.out _ _ (⟨cb HBB C0, cb HBB C1, cb HBB C2, cb HBB C3, cb HBB C4, cb HBB D0, cb HBB D1, cb HBB D2, cb HBB D3, cb HBB D4⟩) (fun hHeld2 => ?_)
   clear hK K
   replace hHeld := hHeld2
   clear hHeld2
   try simp only [tda, tdb, tdc, Act.put, tdd, tde, tdf]
   refine Kept.only (i := 5) (o := ?op27) (by kernel_rfl) ?ho27 (fun K hK => ?_)
   case ho27 => (conv => lhs; simp only [tdg, tdh, tdi])
   go_simp
   refine (cgen_any _ P M n mv2 GB kl kc).mono ?_
   rintro e wq28 ⟨rfl, hb⟩
   replace HBX := Lib.hid (HBX.out.belowS hb) 
   replace HBB := Lib.hid (bl_trans HBB.out hb)
   clear hb
   refine hK.out _ _ (⟨cb HBB C0, cb HBB C1, cb HBB C2, cb HBB C3, cb HBB C4, cb HBB D0, cb HBB D1, cb HBB D2, cb HBB D3, cb HBB D4⟩) (fun hHeld2 => ?_)
   clear hK K
   replace hHeld := hHeld2
   clear hHeld2
   try simp only [tda, tdb, tdc, Act.put, tdd, tde, tdf]
   refine Kept.only (i := 6) (o := ?op29) (by kernel_rfl) ?ho29 (fun K hK => ?_)
   case ho29 => (conv => lhs; simp only [tdg, tdh, tdi])
   have hbs0 := HBB.out.size
   go_simp
   refine (HKE.out _ (bl_trans HB2.out HBB.out)).mono ?_
   rintro e wq30 ⟨u, rfl, hx, hb⟩
   obtain ⟨UA, uc, rfl, _⟩ := hx.out
   rw [← HK.out] at hx ⊢
   have hglt := HBX.out.lt 
   have HSF : Hid (∀ w9, World.grownBy wq30 w9 (some g) → Sep w2.heap.size w9 fun w9 => SS w9 (.slice UA k uc) C) := hid' (fun w9 hg => (hx.grown hg (by rintro b e; cases e; exact hglt)).mono hbs0) 
   clear hglt 
   replace HBX := Lib.hid (HBX.out.belowS hb) 
   replace HBB := Lib.hid (bl_trans HBB.out hb)
   clear hb hx hbs0
   refine hK.out _ _ (⟨cb HBB C0, cb HBB C1, cb HBB C2, cb HBB C3, cb HBB C4, cb HBB D0, cb HBB D1, cb HBB D2, cb HBB D3, cb HBB D4⟩) (fun hHeld2 => ?_)
   clear hK K
   replace hHeld := hHeld2
   clear hHeld2
   try simp only [tda, tdb, tdc, Act.put, tdd, tde, tdf]
   refine Kept.tk 7 (v := ?_) rfl ?_ hHeld ?_
   rotate_left
   ·intro w' h; (try dsimp only at h); go_simp <;> with_reducible rfl
   try simp only [tda, tdb, tdc, Act.put, tdd, tde, tdf]
   refine Kept.tk 8 (v := ?_) rfl ?_ hHeld ?_
   rotate_left
   ·intro w' h; (try dsimp only at h); go_simp <;> with_reducible rfl
   try simp only [tda, tdb, tdc, Act.put, tdd, tde, tdf]
   refine Kept.tk 9 (v := ?_) rfl ?_ hHeld ?_
   rotate_left
   ·intro w' h; (try dsimp only at h); go_simp <;> with_reducible rfl
   try simp only [tda, tdb, tdc, Act.put, tdd, tde, tdf]
   refine Kept.only (i := 11) (o := ?op31) (by kernel_rfl) ?ho31 (fun K hK => ?_)
   case ho31 => (conv => lhs; simp only [tdg, tdh, tdi])
   obtain ⟨b0, b1, f0, f1⟩ := HBX.out.two
   go_simp
   obtain ⟨wq32, h6, HL⟩ := lay2 (x := .int .i64 (n : Int)) (y := .slice UA k uc) HBX.out
   rw [h6]
   have HS6 := Lib.hid (HSF.out _ HL.gr)
   have HBY := Lib.hid HL.blk
   replace HBB := Lib.hid (HL.below HBB.out HBB.out.size hgi)
   clear b0 b1 f0 f1 h6 HL HBX
   refine hK.out _ _ (⟨cb HBB C0, cb HBB C1, cb HBB C2, cb HBB C3, cb HBB C4, cb HBB D0, cb HBB D1, cb HBB D2, cb HBB D3, cb HBB D4⟩) (fun hHeld2 => ?_)
   clear hK K
   replace hHeld := hHeld2
   clear hHeld2
   try simp only [tda, tdb, tdc, Act.put, tdd, tde, tdf]
   refine Kept.only (i := 12) (by kernel_rfl) rfl (fun K hK => ?_)
   go_simp
   refine hK.out _ _ hHeld (fun hHeld2 => ?_)
   clear hK K
   clear hHeld2
   refine Kept.done (by kernel_rfl) ?_
   try simp only [tda, tdb, tdc, Act.put, tdd, tde, tdf]
   clear hHeld
   go_wp2_with fail
   go_meet
   exact ⟨g, UA, uc, rfl, rfl, hgi, HBY, HS6, HBB⟩
 case rest =>
  clear c0 c1 c2 c3 c4 d0 d1 d2 d3 d4
  obtain ⟨g, UA, uc, rfl, rfl, hg, HBY, HS5, HBB⟩ := hcut
  have HQ3 := Lib.hid (HQ2.out.on HBB.out)
  have hs2 := HBB.out.size
  clear C0 C1 C2 C3 C4 D0 D1 D2 D3 D4
  have x0 : wc.cell? ⟨g, 0, none⟩ = some (.int .i64 (n : Int)) := HBY.out.cell 0
  have x1 : wc.cell? ⟨g, 1, none⟩ = some (.slice UA k uc) := HBY.out.cell 1
  have c0 := HQ3.out.cc.b1.cell 0; have c1 := HQ3.out.cc.b1.cell 1; have c2 := HQ3.out.cc.b1.cell 2
  go_wp2_with fail
  refine (HOF.out wc _ _ _ HQ3.out.cc.bel).mono ?_
  rintro e w5 ⟨u5, rfl, hu5, hb5⟩
  obtain ⟨UA5, uc5, rfl⟩ := hu5.form'
  have HQ5 := Lib.hid (HQ3.out.on hb5); have HX5 := Lib.hid (HS5.out.on hb5)
  have HU5 := Lib.hid (hu5.sep HML.out HMW.out)
  have hs1 := HQ2.out.cc.bel.size
  have hs3 := HQ3.out.cc.bel.size
  have hq2 := HQ2.out.q.lt
  have hq3 := HQ3.out.q.lt
  clear hu5 hb5 c0 c1 c2 x0 x1
  obtain ⟨y0, y1, y2, y3, y4, f0, f1, f2, f3, f4⟩ := HQ5.out.q.five
  go_wp2_with fail
  obtain ⟨wz, hz, HL⟩ := lay5 (x := .int .i64 P) (y := .int .i64 M) (z := .slice UA5 Mod.length uc5) (u := .int .i64 (n : Int)) (v := .slice UA k uc) HQ5.out.q
  rw [hz]
  have q0 := HL.c0; have q1 := HL.c1; have q2 := HL.c2; have q3 := HL.c3; have q4 := HL.c4
  refine bodyPost_ret (v := .tuple #[.agg #[.int .i64 P, .int .i64 M, .slice UA5 Mod.length uc5, .int .i64 (n : Int), .slice UA k uc], .int .i64 0]) (by simp [results, Tryz.results40, go_sem, q0, q1, q2, q3, q4]) rfl ?_
  exact ⟨_, _, rfl, ((HU5.out.grown HL.gr (by rintro b e; cases e; omega)).mono hs3).and ((HX5.out.grown HL.gr (by rintro b e; cases e; omega)).mono hs1), HL.below HQ5.out.cc.bel HQ5.out.cc.bel.size (by omega)⟩
set_option maxHeartbeats 32000000 in
theorem cMeet_ok (w : World) (P M : Int) (n : Nat) (mv gv mv2 gv2 : Value) (Mod : List Int) (gen gen2 : List (List Int)) (hm : SI w mv Mod) (hg : SS w gv gen) (hm2 : SI w mv2 Mod) (hg2 : SS w gv2 gen2) (hE : codeE P M Mod n gen = 0) (hE2 : codeE P M Mod n gen2 = 0) :
  Calls Tryz.prog 41 #[.agg #[.int .i64 P, .int .i64 M, mv, .int .i64 (n : Int), gv], .agg #[.int .i64 P, .int .i64 M, mv2, .int .i64 (n : Int), gv2]] w (RetCE w P M Mod n (meetS (refOps P M Mod) gen gen2 n) 0) := by
 have HCK := Lib.hid (fun (w' : World) (hb : Below w.heap.size w w') => cTwo_any w' P M n P M n mv gv mv2 gv2 Mod Mod gen gen2 (hm.below hb (Nat.le_refl _)) (hg.below hb (Nat.le_refl _)) (hm2.below hb (Nat.le_refl _)) (hg2.below hb (Nat.le_refl _)))
 rw [fitE_self hE hE2] at HCK
 have h64 : n ≤ 128 := by have := (codeE_zero hE).2.2.1; omega
 have HKE := Lib.hid (fun (w' : World) (hb : Below w.heap.size w w') => sMeet_ok w' P M n mv gv gv2 Mod gen gen2 (hm.below hb (Nat.le_refl _)) (hg.below hb (Nat.le_refl _)) (hg2.below hb (Nat.le_refl _)) (codeE_sp hE) (codeE_sp hE2) h64)
 have HOF := Lib.hid (fun (w' : World) (A9 : Option Addr) (l9 c9 : Nat) (hb : Below w.heap.size w w') => cof_ok w' P M n mv A9 l9 c9 Mod (hm.below hb (Nat.le_refl _)))
 have HML := Lib.hid hm.len'; have HMW := Lib.hid hm.wfs
 unfold RetMx at HKE
 unfold RetOf at HOF
 obtain ⟨GA, gc, rfl, _⟩ := hg
 generalize gen.length = gl at *
 obtain ⟨GB, kc, rfl, _⟩ := hg2
 generalize gen2.length = kl at *
 clear hm hm2 hE hE2 h64
 generalize meetS (refOps P M Mod) gen gen2 n = C at *
 obtain ⟨w1, e1, hq⟩ := C3B.mk' w P M mv n (.slice GA gl gc) P M mv2 n (.slice GB kl kc)
 have HQ := Lib.hid hq; have HE1 := Lib.hid e1; clear hq e1
 go_enter Tryz.func41, Tryz.ntmps41
 go_upto_region 1 with fail
 rw [HE1.out]
 clear HE1
 have c0 := HQ.out.cc.b1.cell 0; have c1 := HQ.out.cc.b1.cell 1; have c2 := HQ.out.cc.b1.cell 2; have c3 := HQ.out.cc.b1.cell 3; have c4 := HQ.out.cc.b1.cell 4
 have d0 := HQ.out.cc.b2.cell 0; have d1 := HQ.out.cc.b2.cell 1; have d2 := HQ.out.cc.b2.cell 2; have d3 := HQ.out.cc.b2.cell 3; have d4 := HQ.out.cc.b2.cell 4
 go_wp2_with fail
 refine (HCK.out w1 HQ.out.cc.bel).mono ?_
 rintro e w2 ⟨rfl, hb2⟩
 have HQ2 := Lib.hid (HQ.out.on hb2)
 have HB2 := Lib.hid HQ2.out.cc.bel
 clear hb2 c0 c1 c2 c3 c4 d0 d1 d2 d3 d4
 have c0 := HQ2.out.cc.b1.cell 0; have c1 := HQ2.out.cc.b1.cell 1; have c2 := HQ2.out.cc.b1.cell 2; have c3 := HQ2.out.cc.b1.cell 3; have c4 := HQ2.out.cc.b1.cell 4
 have d0 := HQ2.out.cc.b2.cell 0; have d1 := HQ2.out.cc.b2.cell 1; have d2 := HQ2.out.cc.b2.cell 2; have d3 := HQ2.out.cc.b2.cell 3; have d4 := HQ2.out.cc.b2.cell 4
 have C0 := Lib.hid c0; have C1 := Lib.hid c1; have C2 := Lib.hid c2; have C3 := Lib.hid c3; have C4 := Lib.hid c4
 have D0 := Lib.hid d0; have D1 := Lib.hid d1; have D2 := Lib.hid d2; have D3 := Lib.hid d3; have D4 := Lib.hid d4
 obtain ⟨k, hk⟩ : ∃ k, k = C.length := ⟨_, rfl⟩
 have HK := Lib.hid hk; clear hk
 go_upto_region 4 with fail
 go_cut [7, 8] from 17 to 25 (fun t5 t6 wc => ∃ g UA uc, t6 = .int .i64 0 ∧ t5 = .pointer (some ⟨g, 0, none⟩) ∧ w2.heap.size ≤ g ∧ Hid (Blk wc g 27 [.int .i64 (n : Int), .slice UA k uc]) ∧ Hid (Sep w2.heap.size wc fun w9 => SS w9 (.slice UA k uc) C) ∧ Hid (Below w2.heap.size w2 wc))
 case first =>
  refine Kept.start (S := fun w' => w'.cell? ⟨w.heap.size, 0, none⟩ = some (.int .i64 P) ∧ w'.cell? ⟨w.heap.size, 1, none⟩ = some (.int .i64 M) ∧ w'.cell? ⟨w.heap.size, 2, none⟩ = some mv ∧ w'.cell? ⟨w.heap.size, 3, none⟩ = some (.int .i64 (n : Int)) ∧ w'.cell? ⟨w.heap.size, 4, none⟩ = some (.slice GA gl gc) ∧ w'.cell? ⟨w.heap.size + 1, 0, none⟩ = some (.int .i64 P) ∧ w'.cell? ⟨w.heap.size + 1, 1, none⟩ = some (.int .i64 M) ∧ w'.cell? ⟨w.heap.size + 1, 2, none⟩ = some mv2 ∧ w'.cell? ⟨w.heap.size + 1, 3, none⟩ = some (.int .i64 (n : Int)) ∧ w'.cell? ⟨w.heap.size + 1, 4, none⟩ = some (.slice GB kl kc)) (by kernel_rfl) (⟨c0, c1, c2, c3, c4, d0, d1, d2, d3, d4⟩) (fun hHeld => ?_)
  change Kept _ _ _ _ 13 _ _ _
  have hdrew := bl_drew w2
  generalize w2.drew = wq33 at hdrew hHeld ⊢
  have HBB := Lib.hid hdrew
  clear c0 c1 c2 c3 c4 d0 d1 d2 d3 d4
  clear hdrew
  refine Kept.tk 0 (v := ?_) rfl ?_ hHeld ?_
  rotate_left
  ·intro w' h; (try dsimp only at h); go_simp <;> with_reducible rfl
  try simp only [tda, tdb, tdc, Act.put, tdd, tde, tdf]
  refine Kept.tk 1 (v := ?_) rfl ?_ hHeld ?_
  rotate_left
  ·intro w' h; (try dsimp only at h); go_simp <;> with_reducible rfl
  try simp only [tda, tdb, tdc, Act.put, tdd, tde, tdf]
  refine Kept.tk 2 (v := ?_) rfl ?_ hHeld ?_
  rotate_left
  ·intro w' h; (try dsimp only at h); go_simp <;> with_reducible rfl
  try simp only [tda, tdb, tdc, Act.put, tdd, tde, tdf]
  refine Kept.tk 4 (v := ?_) rfl ?_ hHeld ?_
  rotate_left
  ·intro w' h; (try dsimp only at h); go_simp <;> with_reducible rfl
  try simp only [tda, tdb, tdc, Act.put, tdd, tde, tdf]
  refine Kept.two (i := 3) (j := 10) (oi := ?opa34) (oj := ?opb34) (by kernel_rfl) ?hoa34 ?hob34 (fun K hK => ?way134) (fun K hK => ?way234)
  case hoa34 => (conv => lhs; simp only [tdg, tdh, tdi])
  case hob34 => (conv => lhs; simp only [tdg, tdh, tdi])
  case way134 =>
   go_simp
   refine (cgen_any _ P M n mv GA gl gc).mono ?_
   rintro e wq35 ⟨rfl, hb⟩
   replace HBB := Lib.hid (bl_trans HBB.out hb)
   clear hb
   refine hK.out _ _ (⟨cb HBB C0, cb HBB C1, cb HBB C2, cb HBB C3, cb HBB C4, cb HBB D0, cb HBB D1, cb HBB D2, cb HBB D3, cb HBB D4⟩) (fun hHeld2 => ?_)
   clear hK K
   replace hHeld := hHeld2
   clear hHeld2
   try simp only [tda, tdb, tdc, Act.put, tdd, tde, tdf]
   refine Kept.two (i := 5) (j := 10) (oi := ?opa36) (oj := ?opb36) (by kernel_rfl) ?hoa36 ?hob36 (fun K hK => ?way136) (fun K hK => ?way236)
   case hoa36 => (conv => lhs; simp only [tdg, tdh, tdi])
   case hob36 => (conv => lhs; simp only [tdg, tdh, tdi])
   case way136 =>
    go_simp
    refine (cgen_any _ P M n mv2 GB kl kc).mono ?_
    rintro e wq37 ⟨rfl, hb⟩
    replace HBB := Lib.hid (bl_trans HBB.out hb)
    clear hb
    refine hK.out _ _ (⟨cb HBB C0, cb HBB C1, cb HBB C2, cb HBB C3, cb HBB C4, cb HBB D0, cb HBB D1, cb HBB D2, cb HBB D3, cb HBB D4⟩) (fun hHeld2 => ?_)
    clear hK K
    replace hHeld := hHeld2
    clear hHeld2
    try simp only [tda, tdb, tdc, Act.put, tdd, tde, tdf]
    refine Kept.two (i := 6) (j := 10) (oi := ?opa38) (oj := ?opb38) (by kernel_rfl) ?hoa38 ?hob38 (fun K hK => ?way138) (fun K hK => ?way238)
    case hoa38 => (conv => lhs; simp only [tdg, tdh, tdi])
    case hob38 => (conv => lhs; simp only [tdg, tdh, tdi])
    case way138 =>
     have hbs0 := HBB.out.size
     go_simp
     refine (HKE.out _ (bl_trans HB2.out HBB.out)).mono ?_
     rintro e wq39 ⟨u, rfl, hx, hb⟩
     obtain ⟨UA, uc, rfl, _⟩ := hx.out
     rw [← HK.out] at hx ⊢
     have HS4 := Lib.hid (hx.mono hbs0) 
     replace HBB := Lib.hid (bl_trans HBB.out hb)
     clear hb hx hbs0
     refine hK.out _ _ (⟨cb HBB C0, cb HBB C1, cb HBB C2, cb HBB C3, cb HBB C4, cb HBB D0, cb HBB D1, cb HBB D2, cb HBB D3, cb HBB D4⟩) (fun hHeld2 => ?_)
     clear hK K
     replace hHeld := hHeld2
     clear hHeld2
     try simp only [tda, tdb, tdc, Act.put, tdd, tde, tdf]
     refine Kept.tk 7 (v := ?_) rfl ?_ hHeld ?_
     rotate_left
     ·intro w' h; (try dsimp only at h); go_simp <;> with_reducible rfl
     try simp only [tda, tdb, tdc, Act.put, tdd, tde, tdf]
     refine Kept.tk 8 (v := ?_) rfl ?_ hHeld ?_
     rotate_left
     ·intro w' h; (try dsimp only at h); go_simp <;> with_reducible rfl
     try simp only [tda, tdb, tdc, Act.put, tdd, tde, tdf]
     refine Kept.tk 9 (v := ?_) rfl ?_ hHeld ?_
     rotate_left
     ·intro w' h; (try dsimp only at h); go_simp <;> with_reducible rfl
     try simp only [tda, tdb, tdc, Act.put, tdd, tde, tdf]
     refine Kept.only (i := 10) (o := ?op40) (by kernel_rfl) ?ho40 (fun K hK => ?_)
     case ho40 => (conv => lhs; simp only [tdg, tdh, tdi])
     go_simp
     obtain ⟨wq41, g, e1, e2, hX, hb⟩ := mk_box wq39 27 [.int .i64 0, .slice none 0 0]
     rw [e1, e2]
     have HBX := Lib.hid hX
     have hgi : w2.heap.size ≤ g := (by have := HBB.out.size; omega)
     have HSF : Hid (∀ w9, World.grownBy wq41 w9 (some g) → Sep w2.heap.size w9 fun w9 => SS w9 (.slice UA k uc) C) := hid' (fun w9 hg => sep_far HS4.out hb (by omega) hg) 
     replace HBB := Lib.hid (bl_trans HBB.out hb)
     clear e1 e2 hX hb
     refine hK.out _ _ (⟨cb HBB C0, cb HBB C1, cb HBB C2, cb HBB C3, cb HBB C4, cb HBB D0, cb HBB D1, cb HBB D2, cb HBB D3, cb HBB D4⟩) (fun hHeld2 => ?_)
     clear hK K
     replace hHeld := hHeld2
     clear hHeld2
     try simp only [tda, tdb, tdc, Act.put, tdd, tde, tdf]
     refine Kept.only (i := 11) (o := ?op42) (by kernel_rfl) ?ho42 (fun K hK => ?_)
     case ho42 => (conv => lhs; simp only [tdg, tdh, tdi])
     obtain ⟨b0, b1, f0, f1⟩ := HBX.out.two
     go_simp
     obtain ⟨wq43, h6, HL⟩ := lay2 (x := .int .i64 (n : Int)) (y := .slice UA k uc) HBX.out
     rw [h6]
     have HS6 := Lib.hid (HSF.out _ HL.gr)
     have HBY := Lib.hid HL.blk
     replace HBB := Lib.hid (HL.below HBB.out HBB.out.size hgi)
     clear b0 b1 f0 f1 h6 HL HBX
     refine hK.out _ _ (⟨cb HBB C0, cb HBB C1, cb HBB C2, cb HBB C3, cb HBB C4, cb HBB D0, cb HBB D1, cb HBB D2, cb HBB D3, cb HBB D4⟩) (fun hHeld2 => ?_)
     clear hK K
     replace hHeld := hHeld2
     clear hHeld2
     try simp only [tda, tdb, tdc, Act.put, tdd, tde, tdf]
     refine Kept.only (i := 12) (by kernel_rfl) rfl (fun K hK => ?_)
     go_simp
     refine hK.out _ _ hHeld (fun hHeld2 => ?_)
     clear hK K
     clear hHeld2
     refine Kept.done (by kernel_rfl) ?_
     try simp only [tda, tdb, tdc, Act.put, tdd, tde, tdf]
     clear hHeld
     go_wp2_with fail
     go_meet
     exact ⟨g, UA, uc, rfl, rfl, hgi, HBY, HS6, HBB⟩
    case way238 =>
     go_simp
     obtain ⟨wq44, g, e1, e2, hX, hb⟩ := mk_box wq37 27 [.int .i64 0, .slice none 0 0]
     rw [e1, e2]
     have HBX := Lib.hid hX
     have hgi : w2.heap.size ≤ g := (by have := HBB.out.size; omega)
     replace HBB := Lib.hid (bl_trans HBB.out hb)
     clear e1 e2 hX hb
     refine hK.out _ _ (⟨cb HBB C0, cb HBB C1, cb HBB C2, cb HBB C3, cb HBB C4, cb HBB D0, cb HBB D1, cb HBB D2, cb HBB D3, cb HBB D4⟩) (fun hHeld2 => ?_)
     clear hK K
     replace hHeld := hHeld2
     clear hHeld2
     try simp only [tda, tdb, tdc, Act.put, tdd, tde, tdf]
     refine Kept.only (i := 6) (o := ?op45) (by kernel_rfl) ?ho45 (fun K hK => ?_)
     case ho45 => (conv => lhs; simp only [tdg, tdh, tdi])
     have hbs0 := HBB.out.size
     go_simp
     refine (HKE.out _ (bl_trans HB2.out HBB.out)).mono ?_
     rintro e wq46 ⟨u, rfl, hx, hb⟩
     obtain ⟨UA, uc, rfl, _⟩ := hx.out
     rw [← HK.out] at hx ⊢
     have hglt := HBX.out.lt 
     have HSF : Hid (∀ w9, World.grownBy wq46 w9 (some g) → Sep w2.heap.size w9 fun w9 => SS w9 (.slice UA k uc) C) := hid' (fun w9 hg => (hx.grown hg (by rintro b e; cases e; exact hglt)).mono hbs0) 
     clear hglt 
     replace HBX := Lib.hid (HBX.out.belowS hb) 
     replace HBB := Lib.hid (bl_trans HBB.out hb)
     clear hb hx hbs0
     refine hK.out _ _ (⟨cb HBB C0, cb HBB C1, cb HBB C2, cb HBB C3, cb HBB C4, cb HBB D0, cb HBB D1, cb HBB D2, cb HBB D3, cb HBB D4⟩) (fun hHeld2 => ?_)
     clear hK K
     replace hHeld := hHeld2
     clear hHeld2
     try simp only [tda, tdb, tdc, Act.put, tdd, tde, tdf]
     refine Kept.tk 7 (v := ?_) rfl ?_ hHeld ?_
     rotate_left
     ·intro w' h; (try dsimp only at h); go_simp <;> with_reducible rfl
     try simp only [tda, tdb, tdc, Act.put, tdd, tde, tdf]
     refine Kept.tk 8 (v := ?_) rfl ?_ hHeld ?_
     rotate_left
     ·intro w' h; (try dsimp only at h); go_simp <;> with_reducible rfl
     try simp only [tda, tdb, tdc, Act.put, tdd, tde, tdf]
     refine Kept.tk 9 (v := ?_) rfl ?_ hHeld ?_
     rotate_left
     ·intro w' h; (try dsimp only at h); go_simp <;> with_reducible rfl
     try simp only [tda, tdb, tdc, Act.put, tdd, tde, tdf]
     refine Kept.only (i := 11) (o := ?op47) (by kernel_rfl) ?ho47 (fun K hK => ?_)
     case ho47 => (conv => lhs; simp only [tdg, tdh, tdi])
     obtain ⟨b0, b1, f0, f1⟩ := HBX.out.two
     go_simp
     obtain ⟨wq48, h6, HL⟩ := lay2 (x := .int .i64 (n : Int)) (y := .slice UA k uc) HBX.out
     rw [h6]
     have HS6 := Lib.hid (HSF.out _ HL.gr)
     have HBY := Lib.hid HL.blk
     replace HBB := Lib.hid (HL.below HBB.out HBB.out.size hgi)
     clear b0 b1 f0 f1 h6 HL HBX
     refine hK.out _ _ (⟨cb HBB C0, cb HBB C1, cb HBB C2, cb HBB C3, cb HBB C4, cb HBB D0, cb HBB D1, cb HBB D2, cb HBB D3, cb HBB D4⟩) (fun hHeld2 => ?_)
     clear hK K
     replace hHeld := hHeld2
     clear hHeld2
     try simp only [tda, tdb, tdc, Act.put, tdd, tde, tdf]
     refine Kept.only (i := 12) (by kernel_rfl) rfl (fun K hK => ?_)
     go_simp
     refine hK.out _ _ hHeld (fun hHeld2 => ?_)
     clear hK K
     clear hHeld2
     refine Kept.done (by kernel_rfl) ?_
     try simp only [tda, tdb, tdc, Act.put, tdd, tde, tdf]
     clear hHeld
     go_wp2_with fail
     go_meet
     exact ⟨g, UA, uc, rfl, rfl, hgi, HBY, HS6, HBB⟩
   case way236 =>
    go_simp
    obtain ⟨wq49, g, e1, e2, hX, hb⟩ := mk_box wq35 27 [.int .i64 0, .slice none 0 0]
    rw [e1, e2]
    have HBX := Lib.hid hX
    have hgi : w2.heap.size ≤ g := (by have := HBB.out.size; omega)
    replace HBB := Lib.hid (bl_trans HBB.out hb)
    clear e1 e2 hX hb
    refine hK.out _ _ (⟨cb HBB C0, cb HBB C1, cb HBB C2, cb HBB C3, cb HBB C4, cb HBB D0, cb HBB D1, cb HBB D2, cb HBB D3, cb HBB D4⟩) (fun hHeld2 => ?_)
    clear hK K
    replace hHeld := hHeld2
    clear hHeld2
    try simp only [tda, tdb, tdc, Act.put, tdd, tde, tdf]
    refine Kept.only (i := 5) (o := ?op50) (by kernel_rfl) ?ho50 (fun K hK => ?_)
    case ho50 => (conv => lhs; simp only [tdg, tdh, tdi])
    go_simp
    refine (cgen_any _ P M n mv2 GB kl kc).mono ?_
    rintro e wq51 ⟨rfl, hb⟩
    replace HBX := Lib.hid (HBX.out.belowS hb) 
    replace HBB := Lib.hid (bl_trans HBB.out hb)
    clear hb
    refine hK.out _ _ (⟨cb HBB C0, cb HBB C1, cb HBB C2, cb HBB C3, cb HBB C4, cb HBB D0, cb HBB D1, cb HBB D2, cb HBB D3, cb HBB D4⟩) (fun hHeld2 => ?_)
    clear hK K
    replace hHeld := hHeld2
    clear hHeld2
    try simp only [tda, tdb, tdc, Act.put, tdd, tde, tdf]
    refine Kept.only (i := 6) (o := ?op52) (by kernel_rfl) ?ho52 (fun K hK => ?_)
    case ho52 => (conv => lhs; simp only [tdg, tdh, tdi])
    have hbs0 := HBB.out.size
    go_simp
    refine (HKE.out _ (bl_trans HB2.out HBB.out)).mono ?_
    rintro e wq53 ⟨u, rfl, hx, hb⟩
    obtain ⟨UA, uc, rfl, _⟩ := hx.out
    rw [← HK.out] at hx ⊢
    have hglt := HBX.out.lt 
    have HSF : Hid (∀ w9, World.grownBy wq53 w9 (some g) → Sep w2.heap.size w9 fun w9 => SS w9 (.slice UA k uc) C) := hid' (fun w9 hg => (hx.grown hg (by rintro b e; cases e; exact hglt)).mono hbs0) 
    clear hglt 
    replace HBX := Lib.hid (HBX.out.belowS hb) 
    replace HBB := Lib.hid (bl_trans HBB.out hb)
    clear hb hx hbs0
    refine hK.out _ _ (⟨cb HBB C0, cb HBB C1, cb HBB C2, cb HBB C3, cb HBB C4, cb HBB D0, cb HBB D1, cb HBB D2, cb HBB D3, cb HBB D4⟩) (fun hHeld2 => ?_)
    clear hK K
    replace hHeld := hHeld2
    clear hHeld2
    try simp only [tda, tdb, tdc, Act.put, tdd, tde, tdf]
    refine Kept.tk 7 (v := ?_) rfl ?_ hHeld ?_
    rotate_left
    ·intro w' h; (try dsimp only at h); go_simp <;> with_reducible rfl
    try simp only [tda, tdb, tdc, Act.put, tdd, tde, tdf]
    refine Kept.tk 8 (v := ?_) rfl ?_ hHeld ?_
    rotate_left
    ·intro w' h; (try dsimp only at h); go_simp <;> with_reducible rfl
    try simp only [tda, tdb, tdc, Act.put, tdd, tde, tdf]
    refine Kept.tk 9 (v := ?_) rfl ?_ hHeld ?_
    rotate_left
    ·intro w' h; (try dsimp only at h); go_simp <;> with_reducible rfl
    try simp only [tda, tdb, tdc, Act.put, tdd, tde, tdf]
    refine Kept.only (i := 11) (o := ?op54) (by kernel_rfl) ?ho54 (fun K hK => ?_)
    case ho54 => (conv => lhs; simp only [tdg, tdh, tdi])
    obtain ⟨b0, b1, f0, f1⟩ := HBX.out.two
    go_simp
    obtain ⟨wq55, h6, HL⟩ := lay2 (x := .int .i64 (n : Int)) (y := .slice UA k uc) HBX.out
    rw [h6]
    have HS6 := Lib.hid (HSF.out _ HL.gr)
    have HBY := Lib.hid HL.blk
    replace HBB := Lib.hid (HL.below HBB.out HBB.out.size hgi)
    clear b0 b1 f0 f1 h6 HL HBX
    refine hK.out _ _ (⟨cb HBB C0, cb HBB C1, cb HBB C2, cb HBB C3, cb HBB C4, cb HBB D0, cb HBB D1, cb HBB D2, cb HBB D3, cb HBB D4⟩) (fun hHeld2 => ?_)
    clear hK K
    replace hHeld := hHeld2
    clear hHeld2
    try simp only [tda, tdb, tdc, Act.put, tdd, tde, tdf]
    refine Kept.only (i := 12) (by kernel_rfl) rfl (fun K hK => ?_)
    go_simp
    refine hK.out _ _ hHeld (fun hHeld2 => ?_)
    clear hK K
    clear hHeld2
    refine Kept.done (by kernel_rfl) ?_
    try simp only [tda, tdb, tdc, Act.put, tdd, tde, tdf]
    clear hHeld
    go_wp2_with fail
    go_meet
    exact ⟨g, UA, uc, rfl, rfl, hgi, HBY, HS6, HBB⟩
  case way234 =>
   go_simp
   obtain ⟨wq56, g, e1, e2, hX, hb⟩ := mk_box wq33 27 [.int .i64 0, .slice none 0 0]
   rw [e1, e2]
   have HBX := Lib.hid hX
   have hgi : w2.heap.size ≤ g := (by have := HBB.out.size; omega)
   replace HBB := Lib.hid (bl_trans HBB.out hb)
   clear e1 e2 hX hb
   refine hK.out _ _ (⟨cb HBB C0, cb HBB C1, cb HBB C2, cb HBB C3, cb HBB C4, cb HBB D0, cb HBB D1, cb HBB D2, cb HBB D3, cb HBB D4⟩) (fun hHeld2 => ?_)
   clear hK K
   replace hHeld := hHeld2
   clear hHeld2
   try simp only [tda, tdb, tdc, Act.put, tdd, tde, tdf]
   refine Kept.only (i := 3) (o := ?op57) (by kernel_rfl) ?ho57 (fun K hK => ?_)
   case ho57 => (conv => lhs; simp only [tdg, tdh, tdi])
   go_simp
   refine (cgen_any _ P M n mv GA gl gc).mono ?_
   rintro e wq58 ⟨rfl, hb⟩
   replace HBX := Lib.hid (HBX.out.belowS hb) 
   replace HBB := Lib.hid (bl_trans HBB.out hb)
   clear hb
   refine hK.out _ _ (⟨cb HBB C0, cb HBB C1, cb HBB C2, cb HBB C3, cb HBB C4, cb HBB D0, cb HBB D1, cb HBB D2, cb HBB D3, cb HBB D4⟩) (fun hHeld2 => ?_)
   clear hK K
   replace hHeld := hHeld2
   clear hHeld2
   try simp only [tda, tdb, tdc, Act.put, tdd, tde, tdf]
   refine Kept.only (i := 5) (o := ?op59) (by kernel_rfl) ?ho59 (fun K hK => ?_)
   case ho59 => (conv => lhs; simp only [tdg, tdh, tdi])
   go_simp
   refine (cgen_any _ P M n mv2 GB kl kc).mono ?_
   rintro e wq60 ⟨rfl, hb⟩
   replace HBX := Lib.hid (HBX.out.belowS hb) 
   replace HBB := Lib.hid (bl_trans HBB.out hb)
   clear hb
   refine hK.out _ _ (⟨cb HBB C0, cb HBB C1, cb HBB C2, cb HBB C3, cb HBB C4, cb HBB D0, cb HBB D1, cb HBB D2, cb HBB D3, cb HBB D4⟩) (fun hHeld2 => ?_)
   clear hK K
   replace hHeld := hHeld2
   clear hHeld2
   try simp only [tda, tdb, tdc, Act.put, tdd, tde, tdf]
   refine Kept.only (i := 6) (o := ?op61) (by kernel_rfl) ?ho61 (fun K hK => ?_)
   case ho61 => (conv => lhs; simp only [tdg, tdh, tdi])
   have hbs0 := HBB.out.size
   go_simp
   refine (HKE.out _ (bl_trans HB2.out HBB.out)).mono ?_
   rintro e wq62 ⟨u, rfl, hx, hb⟩
   obtain ⟨UA, uc, rfl, _⟩ := hx.out
   rw [← HK.out] at hx ⊢
   have hglt := HBX.out.lt 
   have HSF : Hid (∀ w9, World.grownBy wq62 w9 (some g) → Sep w2.heap.size w9 fun w9 => SS w9 (.slice UA k uc) C) := hid' (fun w9 hg => (hx.grown hg (by rintro b e; cases e; exact hglt)).mono hbs0) 
   clear hglt 
   replace HBX := Lib.hid (HBX.out.belowS hb) 
   replace HBB := Lib.hid (bl_trans HBB.out hb)
   clear hb hx hbs0
   refine hK.out _ _ (⟨cb HBB C0, cb HBB C1, cb HBB C2, cb HBB C3, cb HBB C4, cb HBB D0, cb HBB D1, cb HBB D2, cb HBB D3, cb HBB D4⟩) (fun hHeld2 => ?_)
   clear hK K
   replace hHeld := hHeld2
   clear hHeld2
   try simp only [tda, tdb, tdc, Act.put, tdd, tde, tdf]
   refine Kept.tk 7 (v := ?_) rfl ?_ hHeld ?_
   rotate_left
   ·intro w' h; (try dsimp only at h); go_simp <;> with_reducible rfl
   try simp only [tda, tdb, tdc, Act.put, tdd, tde, tdf]
   refine Kept.tk 8 (v := ?_) rfl ?_ hHeld ?_
   rotate_left
   ·intro w' h; (try dsimp only at h); go_simp <;> with_reducible rfl
   try simp only [tda, tdb, tdc, Act.put, tdd, tde, tdf]
   refine Kept.tk 9 (v := ?_) rfl ?_ hHeld ?_
   rotate_left
   ·intro w' h; (try dsimp only at h); go_simp <;> with_reducible rfl
   try simp only [tda, tdb, tdc, Act.put, tdd, tde, tdf]
   refine Kept.only (i := 11) (o := ?op63) (by kernel_rfl) ?ho63 (fun K hK => ?_)
   case ho63 => (conv => lhs; simp only [tdg, tdh, tdi])
   obtain ⟨b0, b1, f0, f1⟩ := HBX.out.two
   go_simp
   obtain ⟨wq64, h6, HL⟩ := lay2 (x := .int .i64 (n : Int)) (y := .slice UA k uc) HBX.out
   rw [h6]
   have HS6 := Lib.hid (HSF.out _ HL.gr)
   have HBY := Lib.hid HL.blk
   replace HBB := Lib.hid (HL.below HBB.out HBB.out.size hgi)
   clear b0 b1 f0 f1 h6 HL HBX
   refine hK.out _ _ (⟨cb HBB C0, cb HBB C1, cb HBB C2, cb HBB C3, cb HBB C4, cb HBB D0, cb HBB D1, cb HBB D2, cb HBB D3, cb HBB D4⟩) (fun hHeld2 => ?_)
   clear hK K
   replace hHeld := hHeld2
   clear hHeld2
   try simp only [tda, tdb, tdc, Act.put, tdd, tde, tdf]
   refine Kept.only (i := 12) (by kernel_rfl) rfl (fun K hK => ?_)
   go_simp
   refine hK.out _ _ hHeld (fun hHeld2 => ?_)
   clear hK K
   clear hHeld2
   refine Kept.done (by kernel_rfl) ?_
   try simp only [tda, tdb, tdc, Act.put, tdd, tde, tdf]
   clear hHeld
   go_wp2_with fail
   go_meet
   exact ⟨g, UA, uc, rfl, rfl, hgi, HBY, HS6, HBB⟩
 case rest =>
  clear c0 c1 c2 c3 c4 d0 d1 d2 d3 d4
  obtain ⟨g, UA, uc, rfl, rfl, hg, HBY, HS5, HBB⟩ := hcut
  have HQ3 := Lib.hid (HQ2.out.on HBB.out)
  have hs2 := HBB.out.size
  clear C0 C1 C2 C3 C4 D0 D1 D2 D3 D4
  have x0 : wc.cell? ⟨g, 0, none⟩ = some (.int .i64 (n : Int)) := HBY.out.cell 0
  have x1 : wc.cell? ⟨g, 1, none⟩ = some (.slice UA k uc) := HBY.out.cell 1
  have c0 := HQ3.out.cc.b1.cell 0; have c1 := HQ3.out.cc.b1.cell 1; have c2 := HQ3.out.cc.b1.cell 2
  go_wp2_with fail
  refine (HOF.out wc _ _ _ HQ3.out.cc.bel).mono ?_
  rintro e w5 ⟨u5, rfl, hu5, hb5⟩
  obtain ⟨UA5, uc5, rfl⟩ := hu5.form'
  have HQ5 := Lib.hid (HQ3.out.on hb5); have HX5 := Lib.hid (HS5.out.on hb5)
  have HU5 := Lib.hid (hu5.sep HML.out HMW.out)
  have hs1 := HQ2.out.cc.bel.size
  have hs3 := HQ3.out.cc.bel.size
  have hq2 := HQ2.out.q.lt
  have hq3 := HQ3.out.q.lt
  clear hu5 hb5 c0 c1 c2 x0 x1
  obtain ⟨y0, y1, y2, y3, y4, f0, f1, f2, f3, f4⟩ := HQ5.out.q.five
  go_wp2_with fail
  obtain ⟨wz, hz, HL⟩ := lay5 (x := .int .i64 P) (y := .int .i64 M) (z := .slice UA5 Mod.length uc5) (u := .int .i64 (n : Int)) (v := .slice UA k uc) HQ5.out.q
  rw [hz]
  have q0 := HL.c0; have q1 := HL.c1; have q2 := HL.c2; have q3 := HL.c3; have q4 := HL.c4
  refine bodyPost_ret (v := .tuple #[.agg #[.int .i64 P, .int .i64 M, .slice UA5 Mod.length uc5, .int .i64 (n : Int), .slice UA k uc], .int .i64 0]) (by simp [results, Tryz.results41, go_sem, q0, q1, q2, q3, q4]) rfl ?_
  exact ⟨_, _, rfl, ((HU5.out.grown HL.gr (by rintro b e; cases e; omega)).mono hs3).and ((HX5.out.grown HL.gr (by rintro b e; cases e; omega)).mono hs1), HL.below HQ5.out.cc.bel HQ5.out.cc.bel.size (by omega)⟩
set_option maxHeartbeats 32000000 in
theorem cInside_ok (w : World) (P M : Int) (n : Nat) (mv gv mv2 gv2 : Value) (Mod : List Int) (gen gen2 : List (List Int)) (hm : SI w mv Mod) (hg : SS w gv gen) (hm2 : SI w mv2 Mod) (hg2 : SS w gv2 gen2) (hE : codeE P M Mod n gen = 0) (hE2 : codeE P M Mod n gen2 = 0) :
  Calls Tryz.prog 56 #[.agg #[.int .i64 P, .int .i64 M, mv, .int .i64 (n : Int), gv], .agg #[.int .i64 P, .int .i64 M, mv2, .int .i64 (n : Int), gv2]] w (RetZE w (.bool (insB (refOps P M Mod) gen gen2)) 0) := by
 have HCK := Lib.hid (fun (w' : World) (hb : Below w.heap.size w w') => cTwo_any w' P M n P M n mv gv mv2 gv2 Mod Mod gen gen2 (hm.below hb (Nat.le_refl _)) (hg.below hb (Nat.le_refl _)) (hm2.below hb (Nat.le_refl _)) (hg2.below hb (Nat.le_refl _)))
 rw [fitE_self hE hE2] at HCK
 have HKE := Lib.hid (fun (w' : World) (hb : Below w.heap.size w w') => sInside_ok w' P M n mv gv gv2 Mod gen gen2 (hm.below hb (Nat.le_refl _)) (hg.below hb (Nat.le_refl _)) (hg2.below hb (Nat.le_refl _)) (codeE_sp hE) (codeE_sp hE2))
 unfold RetZE at HKE
 obtain ⟨GA, gc, rfl, _⟩ := hg
 generalize gen.length = gl at *
 obtain ⟨GB, kc, rfl, _⟩ := hg2
 generalize gen2.length = kl at *
 clear hm hm2 hE hE2
 generalize insB (refOps P M Mod) gen gen2 = b at *
 obtain ⟨w1, e1, hq⟩ := C2B.mk' w P M mv n (.slice GA gl gc) P M mv2 n (.slice GB kl kc)
 have HQ := Lib.hid hq; have HE1 := Lib.hid e1; clear hq e1
 go_enter Tryz.func56, Tryz.ntmps56
 go_upto_region 1 with fail
 rw [HE1.out]
 clear HE1
 have c0 := HQ.out.b1.cell 0; have c1 := HQ.out.b1.cell 1; have c2 := HQ.out.b1.cell 2; have c3 := HQ.out.b1.cell 3; have c4 := HQ.out.b1.cell 4
 have d0 := HQ.out.b2.cell 0; have d1 := HQ.out.b2.cell 1; have d2 := HQ.out.b2.cell 2; have d3 := HQ.out.b2.cell 3; have d4 := HQ.out.b2.cell 4
 go_wp2_with fail
 refine (HCK.out w1 HQ.out.bel).mono ?_
 rintro e w2 ⟨rfl, hb2⟩
 have HQ2 := Lib.hid (HQ.out.on hb2)
 clear hb2 c0 c1 c2 c3 c4 d0 d1 d2 d3 d4
 have c0 := HQ2.out.b1.cell 0; have c1 := HQ2.out.b1.cell 1; have c2 := HQ2.out.b1.cell 2; have c3 := HQ2.out.b1.cell 3; have c4 := HQ2.out.b1.cell 4
 have d0 := HQ2.out.b2.cell 0; have d1 := HQ2.out.b2.cell 1; have d2 := HQ2.out.b2.cell 2; have d3 := HQ2.out.b2.cell 3; have d4 := HQ2.out.b2.cell 4
 go_upto_region 4 with fail
 refine Kept.start (S := fun w' => w'.cell? ⟨w.heap.size, 0, none⟩ = some (.int .i64 P) ∧ w'.cell? ⟨w.heap.size, 1, none⟩ = some (.int .i64 M) ∧ w'.cell? ⟨w.heap.size, 2, none⟩ = some mv ∧ w'.cell? ⟨w.heap.size, 3, none⟩ = some (.int .i64 (n : Int)) ∧ w'.cell? ⟨w.heap.size, 4, none⟩ = some (.slice GA gl gc) ∧ w'.cell? ⟨w.heap.size + 1, 0, none⟩ = some (.int .i64 P) ∧ w'.cell? ⟨w.heap.size + 1, 1, none⟩ = some (.int .i64 M) ∧ w'.cell? ⟨w.heap.size + 1, 2, none⟩ = some mv2 ∧ w'.cell? ⟨w.heap.size + 1, 3, none⟩ = some (.int .i64 (n : Int)) ∧ w'.cell? ⟨w.heap.size + 1, 4, none⟩ = some (.slice GB kl kc)) (by kernel_rfl) (⟨c0, c1, c2, c3, c4, d0, d1, d2, d3, d4⟩) (fun hHeld => ?_)
 change Kept _ _ _ _ 11 _ _ _
 refine Kept.tk 0 (v := ?_) rfl ?_ hHeld ?_
 rotate_left
 ·intro w' h; (try dsimp only at h); go_simp <;> with_reducible rfl
 try simp only [tda, tdb, tdc, Act.put, tdd, tde, tdf]
 refine Kept.tk 1 (v := ?_) rfl ?_ hHeld ?_
 rotate_left
 ·intro w' h; (try dsimp only at h); go_simp <;> with_reducible rfl
 try simp only [tda, tdb, tdc, Act.put, tdd, tde, tdf]
 refine Kept.tk 2 (v := ?_) rfl ?_ hHeld ?_
 rotate_left
 ·intro w' h; (try dsimp only at h); go_simp <;> with_reducible rfl
 try simp only [tda, tdb, tdc, Act.put, tdd, tde, tdf]
 refine Kept.tk 4 (v := ?_) rfl ?_ hHeld ?_
 rotate_left
 ·intro w' h; (try dsimp only at h); go_simp <;> with_reducible rfl
 try simp only [tda, tdb, tdc, Act.put, tdd, tde, tdf]
 refine Kept.only (i := 3) (by kernel_rfl) rfl (fun K hK => ?_)
 go_simp
 refine (cgen_any _ P M n mv GA gl gc).mono ?_; rintro e w3 ⟨rfl, hb3⟩; have HQ3 := Lib.hid (HQ2.out.on (bl_trans (bl_drew w2) hb3)); clear hb3
 refine hK.out _ _ (⟨HQ3.out.b1.cell 0, HQ3.out.b1.cell 1, HQ3.out.b1.cell 2, HQ3.out.b1.cell 3, HQ3.out.b1.cell 4, HQ3.out.b2.cell 0, HQ3.out.b2.cell 1, HQ3.out.b2.cell 2, HQ3.out.b2.cell 3, HQ3.out.b2.cell 4⟩) (fun hHeld2 => ?_)
 clear hK K
 replace hHeld := hHeld2
 clear hHeld2
 try simp only [tda, tdb, tdc, Act.put, tdd, tde, tdf]
 refine Kept.only (i := 5) (by kernel_rfl) rfl (fun K hK => ?_)
 go_simp
 refine (cgen_any _ P M n mv2 GB kl kc).mono ?_; rintro e w4 ⟨rfl, hb4⟩; have HQ4 := Lib.hid (HQ3.out.on hb4); clear hb4
 refine hK.out _ _ (⟨HQ4.out.b1.cell 0, HQ4.out.b1.cell 1, HQ4.out.b1.cell 2, HQ4.out.b1.cell 3, HQ4.out.b1.cell 4, HQ4.out.b2.cell 0, HQ4.out.b2.cell 1, HQ4.out.b2.cell 2, HQ4.out.b2.cell 3, HQ4.out.b2.cell 4⟩) (fun hHeld2 => ?_)
 clear hK K
 replace hHeld := hHeld2
 clear hHeld2
 try simp only [tda, tdb, tdc, Act.put, tdd, tde, tdf]
 refine Kept.only (i := 6) (by kernel_rfl) rfl (fun K hK => ?_)
 go_simp
 refine (HKE.out w4 HQ4.out.bel).mono ?_; rintro e w5 ⟨rfl, hb5⟩; have HQ5 := Lib.hid (HQ4.out.on hb5); clear hb5
 refine hK.out _ _ (⟨HQ5.out.b1.cell 0, HQ5.out.b1.cell 1, HQ5.out.b1.cell 2, HQ5.out.b1.cell 3, HQ5.out.b1.cell 4, HQ5.out.b2.cell 0, HQ5.out.b2.cell 1, HQ5.out.b2.cell 2, HQ5.out.b2.cell 3, HQ5.out.b2.cell 4⟩) (fun hHeld2 => ?_)
 clear hK K
 replace hHeld := hHeld2
 clear hHeld2
 try simp only [tda, tdb, tdc, Act.put, tdd, tde, tdf]
 refine Kept.tk 7 (v := ?_) rfl ?_ hHeld ?_
 rotate_left
 ·intro w' h; (try dsimp only at h); go_simp <;> with_reducible rfl
 try simp only [tda, tdb, tdc, Act.put, tdd, tde, tdf]
 refine Kept.tk 8 (v := ?_) rfl ?_ hHeld ?_
 rotate_left
 ·intro w' h; (try dsimp only at h); go_simp <;> with_reducible rfl
 try simp only [tda, tdb, tdc, Act.put, tdd, tde, tdf]
 refine Kept.tk 9 (v := ?_) rfl ?_ hHeld ?_
 rotate_left
 ·intro w' h; (try dsimp only at h); go_simp <;> with_reducible rfl
 try simp only [tda, tdb, tdc, Act.put, tdd, tde, tdf]
 refine Kept.only (i := 10) (by kernel_rfl) rfl (fun K hK => ?_)
 go_simp
 refine hK.out _ _ hHeld (fun hHeld2 => ?_)
 clear hK K
 clear hHeld2
 refine Kept.done (by kernel_rfl) ?_
 try simp only [tda, tdb, tdc, Act.put, tdd, tde, tdf]
 clear hHeld
 clear c0 c1 c2 c3 c4 d0 d1 d2 d3 d4
 go_wp2_with fail
 go_ret2
 exact ⟨rfl, HQ5.out.bel⟩
theorem codeE_mk {P M : Int} {Mod : List Int} {n : Nat} {gen : List (List Int)} (hf : FieldP P M Mod) (h1 : 1 ≤ n) (h2 : n ≤ 64) (hC : Cn (refOps P M Mod) (orderF P M) n gen) : codeE P M Mod n gen = 0 := by
 have h0 := checkF_ok hf
 have hle := hC.le
 have hm : matE P M Mod n gen = 0 := matE_mk hf (by omega) (by omega) hC.rows
 unfold codeE
 rw [if_neg (by rw [h0]; decide), if_pos (by omega)]
 unfold spaceE
 rw [if_neg (by rw [hm]; decide), Int.toNat_natCast, if_pos (hC.self (ref_fld hf))]
theorem codeE_null {P M : Int} {Mod : List Int} {n : Nat} {gen : List (List Int)} (hE : codeE P M Mod n gen = 0) : codeE P M Mod n (nullL (refOps P M Mod) gen n) = 0 := by
 have h64 := (codeE_zero hE).2.2.1
 have h1 := (codeE_zero hE).2.1
 have hS := SpP.of (codeE_sp hE)
 exact codeE_mk hS.fld (by omega) (by omega) (Cn.null hS.hO hS.rref.rows)
set_option maxHeartbeats 16000000 in
theorem cHull_ok (w : World) (P M : Int) (n : Nat) (mv gv : Value) (Mod : List Int) (gen : List (List Int)) (hm : SI w mv Mod) (hg : SS w gv gen) (hE : codeE P M Mod n gen = 0) :
  Calls Tryz.prog 37 #[.agg #[.int .i64 P, .int .i64 M, mv, .int .i64 (n : Int), gv]] w (RetCE w P M Mod n (meetS (refOps P M Mod) gen (nullL (refOps P M Mod) gen n) n) 0) := by
 have HDU := Lib.hid (fun (w' : World) (hb : Below w.heap.size w w') => cDual_ok w' P M n mv gv Mod gen (hm.below hb (Nat.le_refl _)) (hg.below hb (Nat.le_refl _)) hE)
 have HME := Lib.hid (fun (w' : World) (u g2 : Value) (hb : Below w.heap.size w w') (hu : SI w' u Mod) (hs : SS w' g2 (nullL (refOps P M Mod) gen n)) => cMeet_ok w' P M n mv gv u g2 Mod gen _ (hm.below hb (Nat.le_refl _)) (hg.below hb (Nat.le_refl _)) hu hs hE (codeE_null hE))
 unfold RetCE at HDU HME
 obtain ⟨GA, gc, rfl, _⟩ := hg
 generalize gen.length = gl at *
 clear hm hE
 generalize meetS (refOps P M Mod) gen (nullL (refOps P M Mod) gen n) n = S at *
 generalize nullL (refOps P M Mod) gen n = C at *
 obtain ⟨k, hk⟩ : ∃ k, k = C.length := ⟨_, rfl⟩
 have HK := Lib.hid hk; clear hk
 obtain ⟨ml, hml⟩ : ∃ k, k = Mod.length := ⟨_, rfl⟩
 have HML := Lib.hid hml; clear hml
 obtain ⟨sl, hsl⟩ : ∃ k, k = S.length := ⟨_, rfl⟩
 have HSL := Lib.hid hsl; clear hsl
 obtain ⟨w1, e1, hq⟩ := CCQ.mk' w P M mv n (.slice GA gl gc)
 have HQ := Lib.hid hq; have HE1 := Lib.hid e1; clear hq e1
 go_enter Tryz.func37, Tryz.ntmps37
 go_upto_region 1 with fail
 rw [HE1.out]
 clear HE1
 have c0 := HQ.out.cb.c0; have c1 := HQ.out.cb.c1; have c2 := HQ.out.cb.c2; have c3 := HQ.out.cb.c3; have c4 := HQ.out.cb.c4
 go_wp2_with fail
 refine (HDU.out w1 HQ.out.cb.bel).mono ?_
 rintro e w2 ⟨u2, g2, rfl, hx2, hb2⟩
 obtain ⟨⟨MA, mc, rfl, _⟩, ⟨DA, dc, rfl, _⟩⟩ := hx2.out
 rw [← HK.out, ← HML.out] at hx2 ⊢
 have HX2 := Lib.hid hx2
 have HQ2 := Lib.hid (HQ.out.on hb2)
 clear hx2 hb2 c0 c1 c2 c3 c4
 go_upto_region 2 with fail
 obtain ⟨w3, g3, e1, e2, h3, hb3⟩ := mk_box w2 34 [.int .i64 P, .int .i64 M, .slice MA ml mc, .int .i64 (n : Int), .slice DA k dc]
 rw [e1, e2]
 have HQ3 := Lib.hid (HQ2.out.on hb3); have HX3 := Lib.hid (HX2.out.on hb3).out; have HG3 := Lib.hid h3
 clear e1 e2 h3 hb3 HX2 HQ2
 have c0 := HQ3.out.cb.c0; have c1 := HQ3.out.cb.c1; have c2 := HQ3.out.cb.c2; have c3 := HQ3.out.cb.c3; have c4 := HQ3.out.cb.c4
 have x0 := HG3.out.cell 0; have x1 := HG3.out.cell 1; have x2 := HG3.out.cell 2; have x3 := HG3.out.cell 3; have x4 := HG3.out.cell 4
 go_wp2_with fail
 refine (HME.out w3 _ _ HQ3.out.cb.bel HX3.out.1 HX3.out.2).mono ?_
 rintro e w4 ⟨u4, g4, rfl, hx4, hb4⟩
 obtain ⟨⟨MB, nc, rfl, _⟩, ⟨DB, ec, rfl, _⟩⟩ := hx4.out
 rw [← HSL.out, ← HML.out] at hx4 ⊢
 have HX4 := Lib.hid hx4
 have HQ4 := Lib.hid (HQ3.out.on hb4)
 have hs3 := HQ3.out.cb.bel.size
 have hq3 := HQ3.out.q.lt
 clear hx4 hb4 c0 c1 c2 c3 c4 x0 x1 x2 x3 x4
 obtain ⟨y0, y1, y2, y3, y4, f0, f1, f2, f3, f4⟩ := HQ4.out.q.five
 go_wp2_with fail
 obtain ⟨wz, hz, HL⟩ := lay5 (x := .int .i64 P) (y := .int .i64 M) (z := .slice MB ml nc) (u := .int .i64 (n : Int)) (v := .slice DB sl ec) HQ4.out.q
 rw [hz]
 have q0 := HL.c0; have q1 := HL.c1; have q2 := HL.c2; have q3 := HL.c3; have q4 := HL.c4
 refine bodyPost_ret (v := .tuple #[.agg #[.int .i64 P, .int .i64 M, .slice MB ml nc, .int .i64 (n : Int), .slice DB sl ec], .int .i64 0]) (by simp [results, Tryz.results37, go_sem, q0, q1, q2, q3, q4]) rfl ?_
 exact ⟨_, _, rfl, (HX4.out.grown HL.gr (by rintro b e; cases e; omega)).mono hs3, HL.below HQ4.out.cb.bel HQ4.out.cb.bel.size (by omega)⟩
set_option maxHeartbeats 16000000 in
theorem cHull_no (w : World) (P M n : Int) (mv gv : Value) (Mod : List Int) (gen : List (List Int)) (hm : SI w mv Mod) (hg : SS w gv gen) (hE : codeE P M Mod n gen ≠ 0) :
  Calls Tryz.prog 37 #[.agg #[.int .i64 P, .int .i64 M, mv, .int .i64 n, gv]] w (RetCE w 0 0 [] 0 [] (codeE P M Mod n gen)) := by
 have HDU := Lib.hid (fun (w' : World) (hb : Below w.heap.size w w') => cDual_no w' P M n mv gv Mod gen (hm.below hb (Nat.le_refl _)) (hg.below hb (Nat.le_refl _)) hE)
 unfold RetCE at HDU
 have e2 : (codeE P M Mod n gen != 0) = true := by rw [bne_iff_ne]; exact hE
 generalize codeE P M Mod n gen = er at *
 clear hm hg hE
 obtain ⟨w1, e1, hq⟩ := CCQ.mk' w P M mv n gv
 have HQ := Lib.hid hq; have HE1 := Lib.hid e1; clear hq e1
 go_enter Tryz.func37, Tryz.ntmps37
 go_upto_region 1 with fail
 rw [HE1.out]
 clear HE1
 have c0 := HQ.out.cb.c0; have c1 := HQ.out.cb.c1; have c2 := HQ.out.cb.c2; have c3 := HQ.out.cb.c3; have c4 := HQ.out.cb.c4
 go_wp2_with fail
 refine (HDU.out w1 HQ.out.cb.bel).mono ?_
 rintro e w2 ⟨u2, g2, rfl, hx2, hb2⟩
 obtain ⟨⟨MA, mc, rfl, _⟩, ⟨DA, dc, rfl, _⟩⟩ := hx2.out
 have HQ2 := Lib.hid (HQ.out.on hb2)
 clear hx2 hb2 c0 c1 c2 c3 c4
 go_upto_region 2 with fail
 obtain ⟨w3, g3, e1, e2', h3, hb3⟩ := mk_box w2 34 [.int .i64 0, .int .i64 0, .slice MA 0 mc, .int .i64 0, .slice DA 0 dc]
 try simp only [List.length_nil]
 rw [e1, e2']
 have HQ3 := Lib.hid (HQ2.out.on hb3)
 clear e1 e2' h3 hb3 HQ2
 obtain ⟨y0, y1, y2, y3, y4, f0, f1, f2, f3, f4⟩ := HQ3.out.q.five
 go_wp2_with fail
 obtain ⟨w9, h9, HL⟩ := lay5 (x := .int .i64 0) (y := .int .i64 0) (z := .slice none 0 0) (u := .int .i64 0) (v := .slice none 0 0) HQ3.out.q
 rw [h9]
 have q0 := HL.c0; have q1 := HL.c1; have q2 := HL.c2; have q3 := HL.c3; have q4 := HL.c4
 refine bodyPost_ret (v := .tuple #[.agg #[.int .i64 0, .int .i64 0, .slice none 0 0, .int .i64 0, .slice none 0 0], .int .i64 er]) (by simp [results, Tryz.results37, go_sem, q0, q1, q2, q3, q4]) rfl ?_
 exact ⟨_, _, rfl, (SI.nilSep _ _).and (SS.nilSep _ _), HL.below HQ3.out.cb.bel HQ3.out.cb.bel.size (by omega)⟩
end Go.Proofs.YtodgdoglhecolaaGreat
