/- Texts of a claim, merged: words, plain facts and walks that the last of its texts uses. -/
import Derived.Test.YtodgdoglhecolaaGreatZA18
import Derived.Test.YtodgdoglhecolaaGreatZA19
set_option linter.unusedSimpArgs false
set_option linter.unusedVariables false

namespace Go.Proofs.YtodgdoglhecolaaGreat
open Go.RowKit
set_option maxRecDepth 100000
set_option maxHeartbeats 8000000 in
theorem rSyndrome_no (w : World) (P M n : Int) (mv gv : Value) (Mod : List Int) (gen : List (List Int)) (hm : SI w mv Mod) (hg : SS w gv gen) (xv : Value) (x : List Int) (hx : SI w xv x) (hE : wordE P M Mod n gen x ≠ 0) :
  Calls Tryz.prog 46 #[.agg #[.int .i64 P, .int .i64 M, mv, .int .i64 n, gv], xv] w (RetZE w (.slice none 0 0) (wordE P M Mod n gen x)) := by
 have HCK := Lib.hid (fun (w' : World) (hb : Below w.heap.size w w') => rWord_any w' P M n mv gv xv Mod x gen (hm.below hb (Nat.le_refl _)) (hg.below hb (Nat.le_refl _)) (hx.below hb (Nat.le_refl _)))
 have e2 : (wordE P M Mod n gen x != 0) = true := by rw [bne_iff_ne]; exact hE
 generalize wordE P M Mod n gen x = er at *
 clear hm hg hE
 have HF := Lib.hid (CBox.mk' w P M mv n gv)
 go_enter Tryz.func46, Tryz.ntmps46
 go_upto_region 1 with fail
 generalize w.alloc (.cells #[.int .i64 P, .int .i64 M, mv, .int .i64 n, gv] 34) = w0 at *
 have c0 := HF.out.c0; have c1 := HF.out.c1; have c2 := HF.out.c2; have c3 := HF.out.c3; have c4 := HF.out.c4
 go_wp2_with fail
 refine (HCK.out w0 HF.out.bel).mono ?_
 rintro e w1 ⟨rfl, hb1⟩
 have HF1 := Lib.hid (HF.out.on hb1)
 clear hb1 c0 c1 c2 c3 c4
 go_wp2_with fail
 go_ret2
 exact ⟨rfl, HF1.out.bel⟩
set_option maxHeartbeats 32000000 in
theorem rSyndrome_ok (w : World) (P M : Int) (n : Nat) (mv gv : Value) (Mod : List Int) (gen : List (List Int)) (hm : SI w mv Mod) (hg : SS w gv gen) (xv : Value) (x : List Int) (hx : SI w xv x) (hW : wordE P M Mod n gen x = 0) :
  Calls Tryz.prog 46 #[.agg #[.int .i64 P, .int .i64 M, mv, .int .i64 (n : Int), gv], xv] w (RetLA w (synL (refOps P M Mod) gen n x) 0) := by
 have HCK := Lib.hid (fun (w' : World) (hb : Below w.heap.size w w') => rWord_any w' P M n mv gv xv Mod x gen (hm.below hb (Nat.le_refl _)) (hg.below hb (Nat.le_refl _)) (hx.below hb (Nat.le_refl _)))
 rw [hW] at HCK
 obtain ⟨N2, e2, hC⟩ := wordE_zero hW
 obtain rfl : n = N2 := by omega
 have hf := hC.sp.fld
 have hE := hC.code
 have hO := hC.sp.hO
 have hCn := Cn.null hO hC.sp.rref.rows
 have hle := hCn.le
 have h64 := hC.n2
 have hxl := hC.len
 have hob := orderF_bounds P M
 have HRL : Hid (∀ k, k < (nullL (refOps P M Mod) gen n).length → ((nullL (refOps P M Mod) gen n).getD k []).length = n) := hid' fun k hk => (hCn.rows k hk).1
 have HDR : Hid (∀ k, k < (nullL (refOps P M Mod) gen n).length → 0 ≤ dotL (refOps P M Mod) ((nullL (refOps P M Mod) gen n).getD k []) x n ∧ dotL (refOps P M Mod) ((nullL (refOps P M Mod) gen n).getD k []) x n ≤ 256) := hid' fun k hk => by have := dotL_rng hO ((nullL (refOps P M Mod) gen n).getD k []) x n; omega
 have HSY := Lib.hid (dotsL_all (refOps P M Mod) gen n x)
 have HCM : Hid (∀ (r : List Int), dotL (refOps P M Mod) x r n = dotL (refOps P M Mod) r x n) := hid' fun r => dotL_comm hO _ _ _
 have HPA := Lib.hid (fun (w' : World) (hb : Below w.heap.size w w') => rPar_ok w' P M n mv gv Mod gen (hm.below hb (Nat.le_refl _)) (hg.below hb (Nat.le_refl _)) hE)
 unfold RetNu at HPA
 have HDO := Lib.hid (fun (w' : World) (u : Value) (r : List Int) (hb : Below w.heap.size w w') (hu : SI w' u r) => rDot_any w' P M mv xv u Mod x r (hm.below hb (Nat.le_refl _)) (hx.below hb (Nat.le_refl _)) hu hf.ord hf.modp)
 have HSU := Lib.hid (fun k => dotsL_succ (refOps P M Mod) (nullL (refOps P M Mod) gen n) n x k)
 have HDL := Lib.hid (fun k => dotsL_len (refOps P M Mod) (nullL (refOps P M Mod) gen n) n x k)
 have HZ0 : Hid (dotsL (refOps P M Mod) (nullL (refOps P M Mod) gen n) n x 0 = []) := hid' rfl
 obtain ⟨GA, gc, rfl, _⟩ := hg
 generalize gen.length = gl at *
 obtain ⟨XA, xc, rfl, _⟩ := hx
 rw [hxl] at HDO HCK ⊢
 clear hm hW hE hf e2 hC hxl hob hCn hO
 rw [← HSY.out]
 clear HSY
 generalize nullL (refOps P M Mod) gen n = C at *
 obtain ⟨m, hk⟩ : ∃ m, m = C.length := ⟨_, rfl⟩
 have hm64 : m ≤ 64 := by omega
 rw [← hk]
 have HK := Lib.hid hk; clear hk
 have HF := Lib.hid (CBox.mk' w P M mv n (.slice GA gl gc))
 go_enter Tryz.func46, Tryz.ntmps46
 go_upto_region 1 with fail
 generalize w.alloc (.cells #[.int .i64 P, .int .i64 M, mv, .int .i64 (n : Int), .slice GA gl gc] 34) = w0 at *
 have c0 := HF.out.c0; have c1 := HF.out.c1; have c2 := HF.out.c2; have c3 := HF.out.c3; have c4 := HF.out.c4
 go_wp2_with fail
 refine (HCK.out w0 HF.out.bel).mono ?_
 rintro e w1 ⟨rfl, hb1⟩
 have HF1 := Lib.hid (HF.out.on hb1)
 clear hb1 c0 c1 c2 c3 c4
 have c0 := HF1.out.c0; have c1 := HF1.out.c1; have c2 := HF1.out.c2; have c3 := HF1.out.c3; have c4 := HF1.out.c4
 go_wp2_with fail
 refine (HPA.out w1 HF1.out.bel).mono ?_
 rintro e w5 ⟨u5, rfl, hx5, _, hb5⟩
 obtain ⟨UA, uc, rfl, _⟩ := hx5.out
 rw [← HK.out] at hx5 ⊢
 have HD5 := Lib.hid hx5.out
 have HF5 := Lib.hid (HF1.out.on hb5)
 clear hx5 hb5 c0 c1 c2 c3 c4
 have HO0 : Hid (OI w5.heap.size w5 (.slice none 0 0) (dotsL (refOps P M Mod) C n x 0)) := by rw [HZ0.out]; exact OI.nil w5.heap.size w5
 go_wp2_with fail
 go_loopw [8, 9] (fun u i wr => ∃ (k : Nat) (OA : Option Addr) (oc : Nat), k ≤ m ∧ i = .int .i64 (k : Int) ∧ u = .slice OA k oc ∧ Hid (OI w5.heap.size wr (.slice OA k oc) (dotsL (refOps P M Mod) C n x k)) ∧ Hid (Below w5.heap.size w5 wr)) (fun _ i _ => (m - intOf i).toNat)
 case atStart => exact ⟨0, none, 0, Nat.zero_le _, rfl, rfl, HO0, bl_refl _⟩
 case round =>
  clear HO0
  obtain ⟨k, OA, oc, hk, rfl, rfl, HO, HW⟩ := hrel
  have HFr := Lib.hid (HF5.out.on HW.out)
  by_cases hlt : k < m
  ·obtain ⟨ad, Ak, ck, row, rfl, hc5, HR, HRE⟩ := HD5.out.eltA (k := k) (by rw [← HK.out]; exact hlt)
   have HRN : Hid (row.length = n) := hid' (by rw [← HRE.out]; exact HRL.out k (by rw [← HK.out]; exact hlt))
   have hdr := HDR.out k (by rw [← HK.out]; exact hlt)
   have HNX := Lib.hid (HSU.out k)
   have HRS := Lib.hid HR.out.si
   have HRC := Lib.hid (HCM.out row)
   rw [HRN.out] at HRS hc5
   rw [HRE.out] at hdr HNX
   have hdl := HDL.out k
   have HVI : Hid (∀ i, I64 (([dotL (refOps P M Mod) row x n] : List Int).getD i 0)) := hid' (fun i => by
    match i with
    | 0 => exact I64.of_small (by show _ ≤ dotL _ _ _ _; omega) (by show dotL _ _ _ _ ≤ _; omega)
    | i + 1 => exact I64.zero)
   have HDT : Hid (∀ w' : World, Below w5.heap.size w5 w' → Calls Tryz.prog 39 #[.agg #[.int .i64 P, .int .i64 M, mv], .slice XA n xc, .slice Ak n ck] w' (RetI w' (dotL (refOps P M Mod) row x n))) := hid' fun w' hb' => by
    have := HDO.out w' (.slice Ak n ck) row (bl_trans HF5.out.bel hb') (HRS.out.below hb' (Nat.le_refl _))
    rw [HRN.out, Nat.min_self, HRC.out] at this
    exact this
   generalize dotL (refOps P M Mod) row x n = d at *
   have c0 := HFr.out.c0; have c1 := HFr.out.c1; have c2 := HFr.out.c2
   have C0 := Lib.hid HF5.out.c0; have C1 := Lib.hid HF5.out.c1; have C2 := Lib.hid HF5.out.c2; have HC := Lib.hid hc5
   have hc := cell_below HW.out hc5
   clear hc5
   go_wp2_with fail
   refine Kept.start (S := fun w' => w'.cell? ⟨w.heap.size, 0, none⟩ = some (.int .i64 P) ∧ w'.cell? ⟨w.heap.size, 1, none⟩ = some (.int .i64 M) ∧ w'.cell? ⟨w.heap.size, 2, none⟩ = some mv ∧ w'.cell? (ad.add k) = some (.slice Ak n ck)) (by kernel_rfl) (⟨c0, c1, c2, hc⟩) (fun hHeld => ?_)
   change Kept _ _ _ _ 12 _ _ _
   have hdrew := bl_drew wr
   generalize wr.drew = wq1 at hdrew hHeld ⊢
   have HBB := Lib.hid (bl_trans HW.out hdrew)
   have HQ2 := Lib.hid (HO.out.below hdrew (Nat.le_refl _))
   clear c0 c1 c2 hc
   clear hdrew
   refine Kept.tk 0 (v := ?_) rfl ?_ hHeld ?_
   rotate_left
   ·intro w' h; (try dsimp only at h); go_simp <;> with_reducible rfl
   try simp only [tda, tdb, tdc, Act.put, tdd, tde, tdf]
   refine Kept.tk 1 (v := ?_) rfl ?_ hHeld ?_
   rotate_left
   ·intro w' h; (try dsimp only at h); go_simp <;> with_reducible rfl
   try simp only [tda, tdb, tdc, Act.put, tdd, tde, tdf]
   refine Kept.tk 2 (v := ?_) rfl ?_ hHeld ?_
   rotate_left
   ·intro w' h; (try dsimp only at h); go_simp <;> with_reducible rfl
   try simp only [tda, tdb, tdc, Act.put, tdd, tde, tdf]
   refine Kept.tk 3 (v := ?_) rfl ?_ hHeld ?_
   rotate_left
   ·intro w' h; (try dsimp only at h); go_simp <;> with_reducible rfl
   try simp only [tda, tdb, tdc, Act.put, tdd, tde, tdf]
   refine Kept.tk 4 (v := ?_) rfl ?_ hHeld ?_
   rotate_left
   ·intro w' h; (try dsimp only at h); go_simp <;> with_reducible rfl
   try simp only [tda, tdb, tdc, Act.put, tdd, tde, tdf]
   refine Kept.tk 5 (v := ?_) rfl ?_ hHeld ?_
   rotate_left
   ·intro w' h; (try dsimp only at h); go_simp <;> with_reducible rfl
   try simp only [tda, tdb, tdc, Act.put, tdd, tde, tdf]
   refine Kept.tk 6 (v := ?_) rfl ?_ hHeld ?_
   rotate_left
   ·intro w' h; (try dsimp only at h); go_simp <;> with_reducible rfl
   try simp only [tda, tdb, tdc, Act.put, tdd, tde, tdf]
   refine Kept.tk 7 (v := ?_) rfl ?_ hHeld ?_
   rotate_left
   ·intro w' h; (try dsimp only at h); go_simp <;> with_reducible rfl
   try simp only [tda, tdb, tdc, Act.put, tdd, tde, tdf]
   refine Kept.only (i := 8) (o := ?op2) (by kernel_rfl) ?ho2 (fun K hK => ?_)
   case ho2 => (conv => lhs; simp only [tdg, tdh, tdi])
   go_simp
   refine (HDT.out _ HBB.out).mono ?_
   rintro e wq3 ⟨rfl, hb⟩
   replace HBB := Lib.hid (bl_trans HBB.out hb)
   replace HQ2 := Lib.hid (HQ2.out.below hb (Nat.le_refl _))
   clear hb
   refine hK.out _ _ (⟨cb HBB C0, cb HBB C1, cb HBB C2, cb HBB HC⟩) (fun hHeld2 => ?_)
   clear hK K
   replace hHeld := hHeld2
   clear hHeld2
   try simp only [tda, tdb, tdc, Act.put, tdd, tde, tdf]
   refine Kept.only (i := 9) (o := ?op4) (by kernel_rfl) ?ho4 (fun K hK => ?_)
   case ho4 => (conv => lhs; simp only [tdg, tdh, tdi])
   go_simp
   obtain ⟨wq5, gX, e1, e2, hX, hb⟩ := mk_box wq3 3 [.int .i64 d]
   rw [e1, e2]
   have HXx : Hid (RI wq5 gX [d]) := hid' hX
   replace HBB := Lib.hid (bl_trans HBB.out hb)
   replace HQ2 := Lib.hid (HQ2.out.below hb (Nat.le_refl _))
   clear e1 e2 hX hb
   refine hK.out _ _ (⟨cb HBB C0, cb HBB C1, cb HBB C2, cb HBB HC⟩) (fun hHeld2 => ?_)
   clear hK K
   replace hHeld := hHeld2
   clear hHeld2
   try simp only [tda, tdb, tdc, Act.put, tdd, tde, tdf]
   refine Kept.only (i := 10) (o := ?op6) (by kernel_rfl) ?ho6 (fun K hK => ?_)
   case ho6 => (conv => lhs; simp only [tdg, tdh, tdi])
   refine step_catI rfl _ _ rfl w5.heap.size _ _ rfl HQ2.out _ [d] rfl (RI.si (xs := [d]) HXx.out (by simp) HVI.out) (by rw [hdl]; simp; omega) HBB.out.size ?_
   intro v4 wq7 ho4 hg4 hv4
   rw [← HNX.out] at ho4
   obtain ⟨A6, c6, rfl⟩ := ho4.form'
   rw [HDL.out] at ho4 ⊢
   have HO6 := Lib.hid ho4
   replace HBB := Lib.hid (HQ2.out.bgrown HBB.out HBB.out.size hg4)
   clear ho4 hg4 hv4
   refine hK.out _ _ (⟨cb HBB C0, cb HBB C1, cb HBB C2, cb HBB HC⟩) (fun hHeld2 => ?_)
   clear hK K
   replace hHeld := hHeld2
   clear hHeld2
   try simp only [tda, tdb, tdc, Act.put, tdd, tde, tdf]
   refine Kept.only (i := 11) (by kernel_rfl) rfl (fun K hK => ?_)
   go_simp
   refine hK.out _ _ hHeld (fun hHeld2 => ?_)
   clear hK K
   clear hHeld2
   refine Kept.done (by kernel_rfl) ?_
   try simp only [tda, tdb, tdc, Act.put, tdd, tde, tdf]
   clear hHeld
   go_wp2_with fail
   exact ⟨⟨k + 1, A6, c6, by omega, by push_cast; rfl, rfl, HO6, HBB⟩, by simp only [intOf]; omega⟩
  ·obtain rfl : m = k := by omega
   have HSI := Lib.hid (HO.out.sep (by rw [HDL.out]; omega) (fun j => by
    by_cases hj : j < m
    ·rw [dotsL_at hj]; have := HDR.out j (by rw [← HK.out]; exact hj); exact I64.of_small (by omega) (by omega)
    ·rw [getD_len (by rw [HDL.out]; omega)]; exact I64.zero))
   go_wp2_with fail
   go_ret2
   exact ⟨_, rfl, HSI.out.mono HF5.out.bel.size, HFr.out.bel⟩
theorem cSyndrome_any (w : World) (P M n : Int) (mv gv : Value) (Mod : List Int) (gen : List (List Int)) (hm : SI w mv Mod) (hg : SS w gv gen) (xv : Value) (x : List Int) (hx : SI w xv x) :
  Calls Tryz.prog 45 #[.agg #[.int .i64 P, .int .i64 M, mv, .int .i64 n, gv], xv] w (RetLA w (synA P M Mod n gen x) (wordE P M Mod n gen x)) := by
 by_cases hW : wordE P M Mod n gen x = 0
 ·obtain ⟨N, rfl, hC⟩ := wordE_zero hW
  rw [show synA P M Mod N gen x = synL (refOps P M Mod) gen N x by unfold synA; rw [if_pos hW, Int.toNat_natCast], hW]
  exact cSyndrome_ok w P M N mv gv Mod gen hm hg xv x hx hW
 ·rw [show synA P M Mod n gen x = [] by unfold synA; rw [if_neg hW]]
  exact (cSyndrome_no0 w P M n mv gv Mod gen hm hg xv x hx hW).mono fun _ _ => RetZE.la
theorem rSyndrome_any (w : World) (P M n : Int) (mv gv : Value) (Mod : List Int) (gen : List (List Int)) (hm : SI w mv Mod) (hg : SS w gv gen) (xv : Value) (x : List Int) (hx : SI w xv x) :
  Calls Tryz.prog 46 #[.agg #[.int .i64 P, .int .i64 M, mv, .int .i64 n, gv], xv] w (RetLA w (synA P M Mod n gen x) (wordE P M Mod n gen x)) := by
 by_cases hW : wordE P M Mod n gen x = 0
 ·obtain ⟨N, rfl, hC⟩ := wordE_zero hW
  rw [show synA P M Mod N gen x = synL (refOps P M Mod) gen N x by unfold synA; rw [if_pos hW, Int.toNat_natCast], hW]
  exact rSyndrome_ok w P M N mv gv Mod gen hm hg xv x hx hW
 ·rw [show synA P M Mod n gen x = [] by unfold synA; rw [if_neg hW]]
  exact (rSyndrome_no w P M n mv gv Mod gen hm hg xv x hx hW).mono fun _ _ => RetZE.la
end Go.Proofs.YtodgdoglhecolaaGreat
