/- Texts of a claim, merged: words, plain facts and walks that the last of its texts uses. -/
import Derived.Test.YtodgdoglhecolaaGreatZA1
import Derived.Test.YtodgdoglhecolaaGreatZA9
import Derived.Test.YtodgdoglhecolaaGreatZA10
import Derived.Test.YtodgdoglhecolaaGreatZA11
import Derived.Test.YtodgdoglhecolaaGreatZA12
import Derived.Test.YtodgdoglhecolaaGreatZA15
import Derived.Test.YtodgdoglhecolaaGreatZA16
import Derived.Test.YtodgdoglhecolaaGreatZA18
set_option linter.unusedSimpArgs false
set_option linter.unusedVariables false

namespace Go.Proofs.YtodgdoglhecolaaGreat
def synL (O : FOps) (gen : List (List Int)) (n : Nat) (x : List Int) : List Int := (nullL O gen n).map fun r => dotL O r x n
theorem synL_len (O : FOps) (gen : List (List Int)) (n : Nat) (x : List Int) : (synL O gen n x).length = (nullL O gen n).length := by simp [synL]
theorem synL_at {O : FOps} {gen : List (List Int)} {n : Nat} {x : List Int} {k : Nat} (hk : k < (nullL O gen n).length) : (synL O gen n x).getD k 0 = dotL O ((nullL O gen n).getD k []) x n := by simp [synL, List.getD, hk]
def dotsL (O : FOps) (D : List (List Int)) (n : Nat) (x : List Int) (k : Nat) : List Int := (List.range k).map fun i => dotL O (D.getD i []) x n
theorem dotsL_len (O : FOps) (D : List (List Int)) (n : Nat) (x : List Int) (k : Nat) : (dotsL O D n x k).length = k := by simp [dotsL]
theorem dotsL_succ (O : FOps) (D : List (List Int)) (n : Nat) (x : List Int) (k : Nat) : dotsL O D n x (k + 1) = dotsL O D n x k ++ [dotL O (D.getD k []) x n] := by simp [dotsL, List.range_succ]
theorem dotsL_at {O : FOps} {D : List (List Int)} {n : Nat} {x : List Int} {k i : Nat} (h : i < k) : (dotsL O D n x k).getD i 0 = dotL O (D.getD i []) x n := by simp [dotsL, List.getD, h]
theorem dotsL_all (O : FOps) (gen : List (List Int)) (n : Nat) (x : List Int) : dotsL O (nullL O gen n) n x (nullL O gen n).length = synL O gen n x := by
 refine ext_getD (by rw [dotsL_len, synL_len]) fun i hi => ?_
 rw [dotsL_len] at hi
 rw [dotsL_at hi, synL_at hi]
section
variable {O : FOps} {q : Int} (hO : O.Fld q) {n : Nat} {gen : List (List Int)}
include hO
theorem dotL_comm (a b : List Int) (m : Nat) : dotL O a b m = dotL O b a m := sumTo_congr fun j _ => hO.mul_comm _ _
theorem dotL_rng (a b : List Int) (m : Nat) : 0 ≤ dotL O a b m ∧ dotL O a b m < q := sumTo_lt hO _ _
end
end Go.Proofs.YtodgdoglhecolaaGreat
namespace Go.Proofs.YtodgdoglhecolaaGreat
open Go.RowKit
set_option maxRecDepth 100000
noncomputable def msgE (P M : Int) (Mod : List Int) (n : Int) (gen : List (List Int)) (x : List Int) : Int := if wordE P M Mod n gen x ≠ 0 then wordE P M Mod n gen x else if inL (refOps P M Mod) gen x = true then 0 else 11
noncomputable def msgL (P M : Int) (Mod : List Int) (n : Int) (gen : List (List Int)) (x : List Int) : List Int := if wordE P M Mod n gen x = 0 ∧ inL (refOps P M Mod) gen x = true then crdL (refOps P M Mod) gen n.toNat x else []
noncomputable def synA (P M : Int) (Mod : List Int) (n : Int) (gen : List (List Int)) (x : List Int) : List Int := if wordE P M Mod n gen x = 0 then synL (refOps P M Mod) gen n.toNat x else []
structure CW (P M : Int) (Mod : List Int) (N : Nat) (gen : List (List Int)) (x : List Int) : Prop where
 n1 : 1 ≤ N
 n2 : N ≤ 64
 code : codeE P M Mod N gen = 0
 sp : SpP P M Mod N gen
 spE : spaceE P M Mod N gen = 0
 len : x.length = N
 rng : Rng (orderF P M) x
 vec : vecE (orderF P M) x N = 0
theorem codeE_sp {P M : Int} {Mod : List Int} {n : Int} {gen : List (List Int)} (hE : codeE P M Mod n gen = 0) : spaceE P M Mod n gen = 0 := by
 unfold codeE at hE
 split at hE
 ·rename_i h; exact absurd hE h
 split at hE
 ·exact hE
 ·cases hE
theorem wordE_zero {P M n : Int} {Mod : List Int} {gen : List (List Int)} {x : List Int} (h : wordE P M Mod n gen x = 0) : ∃ N : Nat, n = (N : Int) ∧ CW P M Mod N gen x := by
 have hc : codeE P M Mod n gen = 0 := Decidable.byContradiction fun k => k (by unfold wordE at h; rwa [if_neg k] at h)
 have hl : listF (orderF P M) x n = 0 := by unfold wordE at h; rwa [if_pos hc] at h
 obtain ⟨hf, h1, h2, _⟩ := codeE_zero hc
 obtain ⟨N, rfl⟩ : ∃ N : Nat, n = (N : Int) := ⟨n.toNat, by omega⟩
 obtain ⟨h3, h4⟩ := listF_zero hl
 have hr : Rng (orderF P M) x := fun k => by
  by_cases hk : k < x.length
  ·exact h4 k hk
  ·rw [getD_len (by omega)]
   have := (ref_fld hf).lt.pos
   omega
 exact ⟨N, rfl, by omega, by omega, hc, SpP.of (codeE_sp hc), codeE_sp hc, by omega, hr, vecE_of (by omega) hr⟩
theorem crd_len {O : FOps} {A : List (List Int)} {n : Nat} {x : List Int} : (crdL O A n x).length = A.length := by unfold crdL; rw [List.length_map, List.length_range]
theorem crd_i64 {w : World} {xv : Value} {O : FOps} {A : List (List Int)} {n : Nat} {x : List Int} (hx : SI w xv x) (k : Nat) : I64 ((crdL O A n x).getD k 0) := by
 by_cases hk : k < A.length
 ·have : (crdL O A n x).getD k 0 = x.getD (pvt (pivL O A n) k) 0 := by unfold crdL; simp [List.getD, hk]
  rw [this]
  exact hx.wfs _
 ·rw [getD_len (by rw [crd_len]; omega)]; exact I64.zero
theorem coord_la (w : World) (P M : Int) (N : Nat) (mv gv xv : Value) (Mod x : List Int) (gen : List (List Int)) (hm : SI w mv Mod) (hg : SS w gv gen) (hx : SI w xv x) (hW : wordE P M Mod N gen x = 0) :
  Calls Tryz.prog 91 #[.agg #[.int .i64 P, .int .i64 M, mv], .agg #[.int .i64 (N : Int), gv], xv] w (RetLA w (msgL P M Mod N gen x) (msgE P M Mod N gen x)) := by
 obtain ⟨N2, e, hC⟩ := wordE_zero hW
 obtain rfl : N = N2 := by omega
 have hr2 := hC.sp.r256
 cases hin : inL (refOps P M Mod) gen x
 ·rw [show msgL P M Mod N gen x = [] by unfold msgL; rw [if_neg (by simp [hin])], show msgE P M Mod N gen x = 11 by unfold msgE; rw [if_neg (by simp [hW]), if_neg (by simp [hin])]]
  exact (sCoord_out w P M N mv gv xv Mod gen x hm hg hx hC.spE hC.vec hin).mono fun _ _ => RetZE.la
 ·rw [show msgL P M Mod N gen x = crdL (refOps P M Mod) gen N x by unfold msgL; rw [if_pos ⟨hW, hin⟩, Int.toNat_natCast], show msgE P M Mod N gen x = 0 by unfold msgE; rw [if_neg (by simp [hW]), if_pos hin]]
  exact (sCoord_ok w P M N mv gv xv Mod gen x hm hg hx hC.spE hC.vec hin).mono fun _ _ => RetIs.la (by rw [crd_len]; omega) (crd_i64 hx)
set_option maxHeartbeats 8000000 in
theorem cMessage_no0 (w : World) (P M n : Int) (mv gv : Value) (Mod : List Int) (gen : List (List Int)) (hm : SI w mv Mod) (hg : SS w gv gen) (xv : Value) (x : List Int) (hx : SI w xv x) (hE : wordE P M Mod n gen x ≠ 0) :
  Calls Tryz.prog 43 #[.agg #[.int .i64 P, .int .i64 M, mv, .int .i64 n, gv], xv] w (RetZE w (.slice none 0 0) (wordE P M Mod n gen x)) := by
 have HCK := Lib.hid (fun (w' : World) (hb : Below w.heap.size w w') => cWord_any w' P M n mv gv xv Mod x gen (hm.below hb (Nat.le_refl _)) (hg.below hb (Nat.le_refl _)) (hx.below hb (Nat.le_refl _)))
 have e2 : (wordE P M Mod n gen x != 0) = true := by rw [bne_iff_ne]; exact hE
 generalize wordE P M Mod n gen x = er at *
 clear hm hg hE
 have HF := Lib.hid (CBox.mk' w P M mv n gv)
 go_enter Tryz.func43, Tryz.ntmps43
 go_upto_region 1 with fail
 generalize w.alloc (.cells #[.int .i64 P, .int .i64 M, mv, .int .i64 n, gv] 34) = w0 at *
 have c0 := HF.out.c0; have c1 := HF.out.c1; have c2 := HF.out.c2; have c3 := HF.out.c3; have c4 := HF.out.c4
 go_wp2_with fail
 refine (HCK.out w0 HF.out.bel).mono ?_
 rintro e w1 ⟨rfl, hb1⟩
 have HF1 := Lib.hid (HF.out.on hb1)
 clear hb1 c0 c1 c2 c3 c4
 go_wp2_with fail
 go_ret2
 exact ⟨rfl, HF1.out.bel⟩
set_option maxHeartbeats 8000000 in
theorem cSyndrome_no0 (w : World) (P M n : Int) (mv gv : Value) (Mod : List Int) (gen : List (List Int)) (hm : SI w mv Mod) (hg : SS w gv gen) (xv : Value) (x : List Int) (hx : SI w xv x) (hE : wordE P M Mod n gen x ≠ 0) :
  Calls Tryz.prog 45 #[.agg #[.int .i64 P, .int .i64 M, mv, .int .i64 n, gv], xv] w (RetZE w (.slice none 0 0) (wordE P M Mod n gen x)) := by
 have HCK := Lib.hid (fun (w' : World) (hb : Below w.heap.size w w') => cWord_any w' P M n mv gv xv Mod x gen (hm.below hb (Nat.le_refl _)) (hg.below hb (Nat.le_refl _)) (hx.below hb (Nat.le_refl _)))
 have e2 : (wordE P M Mod n gen x != 0) = true := by rw [bne_iff_ne]; exact hE
 generalize wordE P M Mod n gen x = er at *
 clear hm hg hE
 have HF := Lib.hid (CBox.mk' w P M mv n gv)
 go_enter Tryz.func45, Tryz.ntmps45
 go_upto_region 1 with fail
 generalize w.alloc (.cells #[.int .i64 P, .int .i64 M, mv, .int .i64 n, gv] 34) = w0 at *
 have c0 := HF.out.c0; have c1 := HF.out.c1; have c2 := HF.out.c2; have c3 := HF.out.c3; have c4 := HF.out.c4
 go_wp2_with fail
 refine (HCK.out w0 HF.out.bel).mono ?_
 rintro e w1 ⟨rfl, hb1⟩
 have HF1 := Lib.hid (HF.out.on hb1)
 clear hb1 c0 c1 c2 c3 c4
 go_wp2_with fail
 go_ret2
 exact ⟨rfl, HF1.out.bel⟩
set_option maxHeartbeats 16000000 in
theorem cMessage_ok (w : World) (P M : Int) (n : Nat) (mv gv : Value) (Mod : List Int) (gen : List (List Int)) (hm : SI w mv Mod) (hg : SS w gv gen) (xv : Value) (x : List Int) (hx : SI w xv x) (hW : wordE P M Mod n gen x = 0) :
  Calls Tryz.prog 43 #[.agg #[.int .i64 P, .int .i64 M, mv, .int .i64 (n : Int), gv], xv] w (RetLA w (msgL P M Mod n gen x) (msgE P M Mod n gen x)) := by
 have HCK := Lib.hid (fun (w' : World) (hb : Below w.heap.size w w') => cWord_any w' P M n mv gv xv Mod x gen (hm.below hb (Nat.le_refl _)) (hg.below hb (Nat.le_refl _)) (hx.below hb (Nat.le_refl _)))
 rw [hW] at HCK
 have HCO := Lib.hid (fun (w' : World) (hb : Below w.heap.size w w') => coord_la w' P M n mv gv xv Mod x gen (hm.below hb (Nat.le_refl _)) (hg.below hb (Nat.le_refl _)) (hx.below hb (Nat.le_refl _)) hW)
 unfold RetLA at HCO
 obtain ⟨GA, gc, rfl, _⟩ := hg
 generalize gen.length = gl at *
 clear hm hW hx
 generalize msgL P M Mod n gen x = L at *
 generalize msgE P M Mod n gen x = er at *
 have HF := Lib.hid (CBox.mk' w P M mv n (.slice GA gl gc))
 go_enter Tryz.func43, Tryz.ntmps43
 go_upto_region 1 with fail
 generalize w.alloc (.cells #[.int .i64 P, .int .i64 M, mv, .int .i64 (n : Int), .slice GA gl gc] 34) = w0 at *
 have c0 := HF.out.c0; have c1 := HF.out.c1; have c2 := HF.out.c2; have c3 := HF.out.c3; have c4 := HF.out.c4
 go_wp2_with fail
 refine (HCK.out w0 HF.out.bel).mono ?_
 rintro e w1 ⟨rfl, hb1⟩
 have HF1 := Lib.hid (HF.out.on hb1)
 clear hb1 c0 c1 c2 c3 c4
 have c0 := HF1.out.c0; have c1 := HF1.out.c1; have c2 := HF1.out.c2; have c3 := HF1.out.c3; have c4 := HF1.out.c4
 go_upto_region 4 with fail
 refine Kept.start (S := fun w' => w'.cell? ⟨w.heap.size, 0, none⟩ = some (.int .i64 P) ∧ w'.cell? ⟨w.heap.size, 1, none⟩ = some (.int .i64 M) ∧ w'.cell? ⟨w.heap.size, 2, none⟩ = some mv ∧ w'.cell? ⟨w.heap.size, 3, none⟩ = some (.int .i64 (n : Int)) ∧ w'.cell? ⟨w.heap.size, 4, none⟩ = some (.slice GA gl gc)) (by kernel_rfl) (⟨c0, c1, c2, c3, c4⟩) (fun hHeld => ?_)
 change Kept _ _ _ _ 10 _ _ _
 refine Kept.tk 0 (v := ?_) rfl ?_ hHeld ?_
 rotate_left
 ·intro w' h; (try dsimp only at h); go_simp <;> with_reducible rfl
 try simp only [tda, tdb, tdc, Act.put, tdd, tde, tdf]
 refine Kept.tk 1 (v := ?_) rfl ?_ hHeld ?_
 rotate_left
 ·intro w' h; (try dsimp only at h); go_simp <;> with_reducible rfl
 try simp only [tda, tdb, tdc, Act.put, tdd, tde, tdf]
 refine Kept.tk 2 (v := ?_) rfl ?_ hHeld ?_
 rotate_left
 ·intro w' h; (try dsimp only at h); go_simp <;> with_reducible rfl
 try simp only [tda, tdb, tdc, Act.put, tdd, tde, tdf]
 refine Kept.tk 4 (v := ?_) rfl ?_ hHeld ?_
 rotate_left
 ·intro w' h; (try dsimp only at h); go_simp <;> with_reducible rfl
 try simp only [tda, tdb, tdc, Act.put, tdd, tde, tdf]
 refine Kept.only (i := 3) (by kernel_rfl) rfl (fun K hK => ?_)
 go_simp
 refine (cgen_any _ P M n mv GA gl gc).mono ?_; rintro e w3 ⟨rfl, hb3⟩; have HF3 := Lib.hid (HF1.out.on (bl_trans (bl_drew w1) hb3)); clear hb3
 refine hK.out _ _ (⟨HF3.out.c0, HF3.out.c1, HF3.out.c2, HF3.out.c3, HF3.out.c4⟩) (fun hHeld2 => ?_)
 clear hK K
 replace hHeld := hHeld2
 clear hHeld2
 try simp only [tda, tdb, tdc, Act.put, tdd, tde, tdf]
 refine Kept.only (i := 5) (by kernel_rfl) rfl (fun K hK => ?_)
 go_simp
 refine (HCO.out w3 HF3.out.bel).mono ?_; rintro e w4 ⟨u4, rfl, hs4, hb4⟩; have HS4 := Lib.hid (hs4.mono HF3.out.bel.size); have HF4 := Lib.hid (HF3.out.on hb4); clear hs4 hb4
 refine hK.out _ _ (⟨HF4.out.c0, HF4.out.c1, HF4.out.c2, HF4.out.c3, HF4.out.c4⟩) (fun hHeld2 => ?_)
 clear hK K
 replace hHeld := hHeld2
 clear hHeld2
 try simp only [tda, tdb, tdc, Act.put, tdd, tde, tdf]
 refine Kept.tk 6 (v := ?_) rfl ?_ hHeld ?_
 rotate_left
 ·intro w' h; (try dsimp only at h); go_simp <;> with_reducible rfl
 try simp only [tda, tdb, tdc, Act.put, tdd, tde, tdf]
 refine Kept.tk 7 (v := ?_) rfl ?_ hHeld ?_
 rotate_left
 ·intro w' h; (try dsimp only at h); go_simp <;> with_reducible rfl
 try simp only [tda, tdb, tdc, Act.put, tdd, tde, tdf]
 refine Kept.tk 8 (v := ?_) rfl ?_ hHeld ?_
 rotate_left
 ·intro w' h; (try dsimp only at h); go_simp <;> with_reducible rfl
 try simp only [tda, tdb, tdc, Act.put, tdd, tde, tdf]
 refine Kept.only (i := 9) (by kernel_rfl) rfl (fun K hK => ?_)
 go_simp
 refine hK.out _ _ hHeld (fun hHeld2 => ?_)
 clear hK K
 clear hHeld2
 refine Kept.done (by kernel_rfl) ?_
 try simp only [tda, tdb, tdc, Act.put, tdd, tde, tdf]
 clear hHeld
 clear c0 c1 c2 c3 c4
 go_wp2_with fail
 go_ret2
 exact ⟨_, rfl, HS4.out, HF4.out.bel⟩
theorem cMessage_any (w : World) (P M n : Int) (mv gv : Value) (Mod : List Int) (gen : List (List Int)) (hm : SI w mv Mod) (hg : SS w gv gen) (xv : Value) (x : List Int) (hx : SI w xv x) :
  Calls Tryz.prog 43 #[.agg #[.int .i64 P, .int .i64 M, mv, .int .i64 n, gv], xv] w (RetLA w (msgL P M Mod n gen x) (msgE P M Mod n gen x)) := by
 by_cases hW : wordE P M Mod n gen x = 0
 ·obtain ⟨N, rfl, _⟩ := wordE_zero hW
  exact cMessage_ok w P M N mv gv Mod gen hm hg xv x hx hW
 ·rw [show msgL P M Mod n gen x = [] by unfold msgL; rw [if_neg (by simp [hW])], show msgE P M Mod n gen x = wordE P M Mod n gen x by unfold msgE; rw [if_pos hW]]
  exact (cMessage_no0 w P M n mv gv Mod gen hm hg xv x hx hW).mono fun _ _ => RetZE.la
theorem pivots_pivL {P M : Int} {Mod : List Int} {N : Nat} {gen : List (List Int)} (h : SpP P M Mod N gen) : pivots gen = pivL (refOps P M Mod) gen N := by
 have hl := h.rref.len
 refine ext_getD (by rw [pivots_len, hl]) fun k hk => ?_
 rw [pivots_len] at hk
 rw [pivots_getD _ hk, h.rref.fst hk, h.rref.nn k hk]
theorem pivots_i64 {P M : Int} {Mod : List Int} {N : Nat} {gen : List (List Int)} (h : SpP P M Mod N gen) (k : Nat) : I64 ((pivots gen).getD k 0) := by
 by_cases hk : k < (pivots gen).length
 ·have := pivots_rng h.rref k hk
  have := h.n256
  exact I64.of_small (by omega) (by omega)
 ·rw [getD_len (by omega)]; exact I64.zero
theorem pivots_le {P M : Int} {Mod : List Int} {N : Nat} {gen : List (List Int)} (h : SpP P M Mod N gen) : (pivots gen).length ≤ 256 := by rw [pivots_len]; exact h.r256
noncomputable def pvA (P M : Int) (Mod : List Int) (n : Int) (gen : List (List Int)) : List Int := if codeE P M Mod n gen = 0 then pivL (refOps P M Mod) gen n.toNat else []
theorem codeE_nat {P M n : Int} {Mod : List Int} {gen : List (List Int)} (h : codeE P M Mod n gen = 0) : ∃ N : Nat, n = (N : Int) ∧ 1 ≤ N ∧ N ≤ 64 ∧ SpP P M Mod N gen := by
 obtain ⟨_, h1, h2, _⟩ := codeE_zero h
 obtain ⟨N, rfl⟩ : ∃ N : Nat, n = (N : Int) := ⟨n.toNat, by omega⟩
 exact ⟨N, rfl, by omega, by omega, SpP.of (codeE_sp h)⟩
theorem cPivots_any (w : World) (P M n : Int) (mv gv : Value) (Mod : List Int) (gen : List (List Int)) (hm : SI w mv Mod) (hg : SS w gv gen) :
  Calls Tryz.prog 30 #[.agg #[.int .i64 P, .int .i64 M, mv, .int .i64 n, gv]] w (RetLA w (pvA P M Mod n gen) (codeE P M Mod n gen)) := by
 by_cases hE : codeE P M Mod n gen = 0
 ·obtain ⟨N, rfl, _⟩ := codeE_nat hE
  rw [show pvA P M Mod N gen = pivL (refOps P M Mod) gen N by unfold pvA; rw [if_pos hE, Int.toNat_natCast], hE]
  exact cPivots_ok w P M N mv gv Mod gen hm hg hE
 ·rw [show pvA P M Mod n gen = [] by unfold pvA; rw [if_neg hE]]
  exact (cPivots_no w P M n mv gv Mod gen hm hg hE).mono fun _ _ => RetZE.la
set_option maxHeartbeats 8000000 in
theorem rPivots12_no (w : World) (P M n : Int) (mv gv : Value) (Mod : List Int) (gen : List (List Int)) (hm : SI w mv Mod) (hg : SS w gv gen) (hE : codeE P M Mod n gen ≠ 0) :
  Calls Tryz.prog 31 #[.agg #[.int .i64 P, .int .i64 M, mv, .int .i64 n, gv]] w (RetZE w (.slice none 0 0) (codeE P M Mod n gen)) := by
 have HCK := Lib.hid (fun (w' : World) (hb : Below w.heap.size w w') => rCCheck_any w' P M n mv gv Mod gen (hm.below hb (Nat.le_refl _)) (hg.below hb (Nat.le_refl _)))
 have e2 : (codeE P M Mod n gen != 0) = true := by rw [bne_iff_ne]; exact hE
 generalize codeE P M Mod n gen = er at *
 clear hm hg hE
 have HF := Lib.hid (CBox.mk' w P M mv n gv)
 go_enter Tryz.func31, Tryz.ntmps31
 go_upto_region 1 with fail
 generalize w.alloc (.cells #[.int .i64 P, .int .i64 M, mv, .int .i64 n, gv] 34) = w0 at *
 have c0 := HF.out.c0; have c1 := HF.out.c1; have c2 := HF.out.c2; have c3 := HF.out.c3; have c4 := HF.out.c4
 go_wp2_with fail
 refine (HCK.out w0 HF.out.bel).mono ?_
 rintro e w1 ⟨rfl, hb1⟩
 have HF1 := Lib.hid (HF.out.on hb1)
 clear hb1 c0 c1 c2 c3 c4
 go_wp2_with fail
 go_ret2
 exact ⟨rfl, HF1.out.bel⟩
set_option maxHeartbeats 8000000 in
theorem rPivots12_ok (w : World) (P M : Int) (n : Nat) (mv gv : Value) (Mod : List Int) (gen : List (List Int)) (hm : SI w mv Mod) (hg : SS w gv gen) (hE : codeE P M Mod n gen = 0) :
  Calls Tryz.prog 31 #[.agg #[.int .i64 P, .int .i64 M, mv, .int .i64 (n : Int), gv]] w (RetLA w (pivL (refOps P M Mod) gen n) 0) := by
 have HCK := Lib.hid (fun (w' : World) (hb : Below w.heap.size w w') => rCCheck_any w' P M n mv gv Mod gen (hm.below hb (Nat.le_refl _)) (hg.below hb (Nat.le_refl _)))
 rw [hE] at HCK
 have hS := SpP.of (codeE_sp hE)
 have HPI := Lib.hid (fun (w' : World) (hb : Below w.heap.size w w') => rPivots_any w' gv gen (hg.below hb (Nat.le_refl _)))
 have HLE := Lib.hid (pivots_le hS); have HI := Lib.hid (pivots_i64 hS)
 rw [← pivots_pivL hS]
 unfold RetO at HPI
 obtain ⟨GA, gc, rfl, _⟩ := hg
 generalize gen.length = gl at *
 clear hm hE hS
 generalize pivots gen = L at *
 have HF := Lib.hid (CBox.mk' w P M mv n (.slice GA gl gc))
 go_enter Tryz.func31, Tryz.ntmps31
 go_upto_region 1 with fail
 generalize w.alloc (.cells #[.int .i64 P, .int .i64 M, mv, .int .i64 (n : Int), .slice GA gl gc] 34) = w0 at *
 have c0 := HF.out.c0; have c1 := HF.out.c1; have c2 := HF.out.c2; have c3 := HF.out.c3; have c4 := HF.out.c4
 go_wp2_with fail
 refine (HCK.out w0 HF.out.bel).mono ?_
 rintro e w1 ⟨rfl, hb1⟩
 have HF1 := Lib.hid (HF.out.on hb1)
 clear hb1 c0 c1 c2 c3 c4
 have c4 := HF1.out.c4
 go_wp2_with fail
 refine (HPI.out w1 HF1.out.bel).mono ?_
 rintro e w2 ⟨u, rfl, ho, hb2⟩
 have HS := Lib.hid ((ho.sep (by have := HLE.out; omega) HI.out).mono HF1.out.bel.size)
 have HF2 := Lib.hid (HF1.out.on hb2)
 clear ho hb2 c4
 go_wp2_with fail
 go_ret2
 exact ⟨_, rfl, HS.out, HF2.out.bel⟩
theorem rPivots12_any (w : World) (P M n : Int) (mv gv : Value) (Mod : List Int) (gen : List (List Int)) (hm : SI w mv Mod) (hg : SS w gv gen) :
  Calls Tryz.prog 31 #[.agg #[.int .i64 P, .int .i64 M, mv, .int .i64 n, gv]] w (RetLA w (pvA P M Mod n gen) (codeE P M Mod n gen)) := by
 by_cases hE : codeE P M Mod n gen = 0
 ·obtain ⟨N, rfl, _⟩ := codeE_nat hE
  rw [show pvA P M Mod N gen = pivL (refOps P M Mod) gen N by unfold pvA; rw [if_pos hE, Int.toNat_natCast], hE]
  exact rPivots12_ok w P M N mv gv Mod gen hm hg hE
 ·rw [show pvA P M Mod n gen = [] by unfold pvA; rw [if_neg hE]]
  exact (rPivots12_no w P M n mv gv Mod gen hm hg hE).mono fun _ _ => RetZE.la
set_option maxHeartbeats 8000000 in
theorem rMessage_no (w : World) (P M n : Int) (mv gv : Value) (Mod : List Int) (gen : List (List Int)) (hm : SI w mv Mod) (hg : SS w gv gen) (xv : Value) (x : List Int) (hx : SI w xv x) (hW : wordE P M Mod n gen x ≠ 0) :
  Calls Tryz.prog 44 #[.agg #[.int .i64 P, .int .i64 M, mv, .int .i64 n, gv], xv] w (RetZE w (.slice none 0 0) (wordE P M Mod n gen x)) := by
 have HHS := Lib.hid (fun (w' : World) (hb : Below w.heap.size w w') => rHas_any w' P M n mv gv xv Mod x gen (hm.below hb (Nat.le_refl _)) (hg.below hb (Nat.le_refl _)) (hx.below hb (Nat.le_refl _)) (fun h => ref_fld (codeE_zero h).1))
 unfold RetBE at HHS
 have e2 : (wordE P M Mod n gen x != 0) = true := by rw [bne_iff_ne]; exact hW
 generalize wordE P M Mod n gen x = er at *
 generalize hasB P M Mod n gen x = b at *
 clear hm hg hx hW
 have HF := Lib.hid (CBox.mk' w P M mv n (gv))
 go_enter Tryz.func44, Tryz.ntmps44
 go_upto_region 1 with fail
 generalize w.alloc (.cells #[.int .i64 P, .int .i64 M, mv, .int .i64 n, gv] 34) = w0 at *
 have c0 := HF.out.c0; have c1 := HF.out.c1; have c2 := HF.out.c2; have c3 := HF.out.c3; have c4 := HF.out.c4
 go_wp2_with fail
 refine (HHS.out w0 HF.out.bel).mono ?_
 rintro e w1 ⟨rfl, hb1⟩
 have HF1 := Lib.hid (HF.out.on hb1)
 clear hb1 c0 c1 c2 c3 c4
 go_wp2_with fail
 go_ret2
 exact ⟨rfl, HF1.out.bel⟩
set_option maxHeartbeats 8000000 in
theorem rMessage_out (w : World) (P M n : Int) (mv gv : Value) (Mod : List Int) (gen : List (List Int)) (hm : SI w mv Mod) (hg : SS w gv gen) (xv : Value) (x : List Int) (hx : SI w xv x) (hW : wordE P M Mod n gen x = 0) (hb : hasB P M Mod n gen x = false) :
  Calls Tryz.prog 44 #[.agg #[.int .i64 P, .int .i64 M, mv, .int .i64 n, gv], xv] w (RetZE w (.slice none 0 0) 11) := by
 have HHS := Lib.hid (fun (w' : World) (hb : Below w.heap.size w w') => rHas_any w' P M n mv gv xv Mod x gen (hm.below hb (Nat.le_refl _)) (hg.below hb (Nat.le_refl _)) (hx.below hb (Nat.le_refl _)) (fun h => ref_fld (codeE_zero h).1))
 unfold RetBE at HHS
 rw [hW, hb] at HHS
 clear hm hg hx hW hb
 have HF := Lib.hid (CBox.mk' w P M mv n (gv))
 go_enter Tryz.func44, Tryz.ntmps44
 go_upto_region 1 with fail
 generalize w.alloc (.cells #[.int .i64 P, .int .i64 M, mv, .int .i64 n, gv] 34) = w0 at *
 have c0 := HF.out.c0; have c1 := HF.out.c1; have c2 := HF.out.c2; have c3 := HF.out.c3; have c4 := HF.out.c4
 go_wp2_with fail
 refine (HHS.out w0 HF.out.bel).mono ?_
 rintro e w1 ⟨rfl, hb1⟩
 have HF1 := Lib.hid (HF.out.on hb1)
 clear hb1 c0 c1 c2 c3 c4
 go_wp2_with fail
 go_ret2
 exact ⟨rfl, HF1.out.bel⟩
set_option maxHeartbeats 16000000 in
theorem rMessage_ok (w : World) (P M : Int) (n : Nat) (mv gv : Value) (Mod : List Int) (gen : List (List Int)) (hm : SI w mv Mod) (hg : SS w gv gen) (xv : Value) (x : List Int) (hx : SI w xv x) (hC : CW P M Mod n gen x) (hW : wordE P M Mod n gen x = 0) (hb : hasB P M Mod n gen x = true) :
  Calls Tryz.prog 44 #[.agg #[.int .i64 P, .int .i64 M, mv, .int .i64 (n : Int), gv], xv] w (RetLA w (crdL (refOps P M Mod) gen n x) 0) := by
 have HHS := Lib.hid (fun (w' : World) (hb : Below w.heap.size w w') => rHas_any w' P M n mv gv xv Mod x gen (hm.below hb (Nat.le_refl _)) (hg.below hb (Nat.le_refl _)) (hx.below hb (Nat.le_refl _)) (fun h => ref_fld (codeE_zero h).1))
 unfold RetBE at HHS
 rw [hW, hb] at HHS
 have hS := hC.sp
 have hle := pivots_le hS
 have HPI := Lib.hid (fun (w' : World) (hb : Below w.heap.size w w') => rPivots_any w' gv gen (hg.below hb (Nat.le_refl _)))
 have HLE := Lib.hid (pivots_le hS); have HI := Lib.hid (pivots_i64 hS)
 have HPK := Lib.hid (fun (w' : World) (u : Value) (hb : Below w.heap.size w w') (hs : SI w' u (pivots gen)) => rPick_any w' xv u x (pivots gen) (hx.below hb (Nat.le_refl _)) hs (by have := pivots_rng hS.rref; rw [hC.len]; exact this) (by omega))
 rw [pick_pivots hS.rref x] at HPK
 have HCL : Hid ((crdL (refOps P M Mod) gen n x).length ≤ 17592186044416) := hid' (by rw [crd_len]; have := hS.r256; omega)
 have HCI := Lib.hid (crd_i64 (O := refOps P M Mod) (A := gen) (n := n) hx)
 unfold RetO at HPI HPK
 clear hS hC hle
 obtain ⟨GA, gc, rfl, _⟩ := hg
 generalize gen.length = gl at *
 clear hm hb hW hx
 generalize pivots gen = L at *
 generalize crdL (refOps P M Mod) gen n x = C at *
 have HF := Lib.hid (CBox.mk' w P M mv n (.slice GA gl gc))
 go_enter Tryz.func44, Tryz.ntmps44
 go_upto_region 1 with fail
 generalize w.alloc (.cells #[.int .i64 P, .int .i64 M, mv, .int .i64 (n : Int), .slice GA gl gc] 34) = w0 at *
 have c0 := HF.out.c0; have c1 := HF.out.c1; have c2 := HF.out.c2; have c3 := HF.out.c3; have c4 := HF.out.c4
 go_wp2_with fail
 refine (HHS.out w0 HF.out.bel).mono ?_
 rintro e w1 ⟨rfl, hb1⟩
 have HF1 := Lib.hid (HF.out.on hb1)
 clear hb1 c0 c1 c2 c3 c4
 have c4 := HF1.out.c4
 go_wp2_with fail
 refine (HPI.out w1 HF1.out.bel).mono ?_
 rintro e w2 ⟨u, rfl, ho, hb2⟩
 have HS := Lib.hid (ho.si (by have := HLE.out; omega) HI.out)
 have HF2 := Lib.hid (HF1.out.on hb2)
 clear ho hb2 c4
 go_wp2_with fail
 refine (HPK.out w2 u HF2.out.bel HS.out).mono ?_
 rintro e w3 ⟨u3, rfl, ho, hb2⟩
 have HS3 := Lib.hid ((ho.sep HCL.out HCI.out).mono HF2.out.bel.size)
 have HF3 := Lib.hid (HF2.out.on hb2)
 clear ho hb2
 go_wp2_with fail
 go_ret2
 exact ⟨_, rfl, HS3.out, HF3.out.bel⟩
theorem rMessage_any (w : World) (P M n : Int) (mv gv : Value) (Mod : List Int) (gen : List (List Int)) (hm : SI w mv Mod) (hg : SS w gv gen) (xv : Value) (x : List Int) (hx : SI w xv x) :
  Calls Tryz.prog 44 #[.agg #[.int .i64 P, .int .i64 M, mv, .int .i64 n, gv], xv] w (RetLA w (msgL P M Mod n gen x) (msgE P M Mod n gen x)) := by
 by_cases hW : wordE P M Mod n gen x = 0
 ·obtain ⟨N, rfl, hC⟩ := wordE_zero hW
  have hb : hasB P M Mod N gen x = inL (refOps P M Mod) gen x := by unfold hasB; rw [if_pos hW]
  cases hin : inL (refOps P M Mod) gen x
  ·rw [show msgL P M Mod N gen x = [] by unfold msgL; rw [if_neg (by simp [hin])], show msgE P M Mod N gen x = 11 by unfold msgE; rw [if_neg (by simp [hW]), if_neg (by simp [hin])]]
   exact (rMessage_out w P M N mv gv Mod gen hm hg xv x hx hW (by rw [hb, hin])).mono fun _ _ => RetZE.la
  ·rw [show msgL P M Mod N gen x = crdL (refOps P M Mod) gen N x by unfold msgL; rw [if_pos ⟨hW, hin⟩, Int.toNat_natCast], show msgE P M Mod N gen x = 0 by unfold msgE; rw [if_neg (by simp [hW]), if_pos hin]]
   exact rMessage_ok w P M N mv gv Mod gen hm hg xv x hx hC hW (by rw [hb, hin])
 ·rw [show msgL P M Mod n gen x = [] by unfold msgL; rw [if_neg (by simp [hW])], show msgE P M Mod n gen x = wordE P M Mod n gen x by unfold msgE; rw [if_pos hW]]
  exact (rMessage_no w P M n mv gv Mod gen hm hg xv x hx hW).mono fun _ _ => RetZE.la
set_option maxHeartbeats 8000000 in
theorem rPar_ok (w : World) (P M : Int) (n : Nat) (mv gv : Value) (Mod : List Int) (gen : List (List Int)) (hm : SI w mv Mod) (hg : SS w gv gen) (hE : codeE P M Mod n gen = 0) :
  Calls Tryz.prog 83 #[.agg #[.int .i64 P, .int .i64 M, mv, .int .i64 (n : Int), gv]] w (RetNu w (nullL (refOps P M Mod) gen n)) := by
 obtain ⟨hf, _, h64, h256, hR, _⟩ := codeE_zero hE
 rw [Int.toNat_natCast] at hR
 have HN := Lib.hid (fun (w' : World) (hb : Below w.heap.size w w') => rNull_any w' P M n mv gv Mod gen (hm.below hb (Nat.le_refl _)) (hg.below hb (Nat.le_refl _)) (ref_fld hf) hf.1 hf.2.2.1 hR (by omega) (by omega))
 obtain ⟨GA, gc, rfl, _⟩ := hg
 generalize gen.length = gl at *
 clear hm hE hf hR h64 h256
 have HF := Lib.hid (CBox.mk' w P M mv n (.slice GA gl gc))
 go_enter Tryz.func83, Tryz.ntmps83
 go_upto_region 1 with fail
 generalize w.alloc (.cells #[.int .i64 P, .int .i64 M, mv, .int .i64 (n : Int), .slice GA gl gc] 34) = w0 at *
 have c0 := HF.out.c0; have c1 := HF.out.c1; have c2 := HF.out.c2; have c3 := HF.out.c3; have c4 := HF.out.c4
 go_wp2_with fail
 refine (HN.out w0 HF.out.bel).mono ?_
 rintro e w1 ⟨u, rfl, hx, ho, hb1⟩
 have hs := HF.out.bel.size
 have HX := Lib.hid (hx.mono hs); have HO := Lib.hid ((ho.names (Y := fun g => g < w.heap.size) (fun g _ h => Nat.lt_of_lt_of_le h hs)).mono hs)
 have HB := Lib.hid (bl_trans HF.out.bel hb1)
 clear hx ho hb1 c0 c1 c2 c3 c4
 go_wp2_with fail
 go_ret
 exact ⟨_, rfl, HX.out, HO.out, HB.out⟩
set_option maxHeartbeats 16000000 in
theorem rCDual_ok (w : World) (P M : Int) (n : Nat) (mv gv : Value) (Mod : List Int) (gen : List (List Int)) (hm : SI w mv Mod) (hg : SS w gv gen) (hE : codeE P M Mod n gen = 0) :
  Calls Tryz.prog 35 #[.agg #[.int .i64 P, .int .i64 M, mv, .int .i64 (n : Int), gv]] w (RetCE w P M Mod n (nullL (refOps P M Mod) gen n) 0) := by
 have HCK := Lib.hid (fun (w' : World) (hb : Below w.heap.size w w') => rCCheck_any w' P M n mv gv Mod gen (hm.below hb (Nat.le_refl _)) (hg.below hb (Nat.le_refl _)))
 rw [hE] at HCK
 obtain ⟨hf, _, h64, h256, hR, _⟩ := codeE_zero hE
 rw [Int.toNat_natCast] at hR
 have hO := ref_fld hf
 have hC := Cn.null hO hR
 have hCl := hC.le
 have HPA := Lib.hid (fun (w' : World) (hb : Below w.heap.size w w') => rPar_ok w' P M n mv gv Mod gen (hm.below hb (Nat.le_refl _)) (hg.below hb (Nat.le_refl _)) hE)
 have HMK := Lib.hid (fun (w' : World) (u : Value) (hb : Below w.heap.size w w') (hs : SS w' u (nullL (refOps P M Mod) gen n)) => rMake_any w' P M n mv u Mod _ (hm.below hb (Nat.le_refl _)) hs hf.1 hf.2.2.1 hC.rows (by omega) (by omega))
 rw [hC.self hO] at HMK
 unfold RetC at HMK
 obtain ⟨GA, gc, rfl, _⟩ := hg
 generalize gen.length = gl at *
 clear hm hE hf hR hO hC hCl h64 h256
 generalize nullL (refOps P M Mod) gen n = D at *
 obtain ⟨w1, e1, hq⟩ := CCQ.mk' w P M mv n (.slice GA gl gc)
 have HQ := Lib.hid hq; have HE1 := Lib.hid e1; clear hq e1
 go_enter Tryz.func35, Tryz.ntmps35
 go_upto_region 1 with fail
 rw [HE1.out]
 clear HE1
 have c0 := HQ.out.cb.c0; have c1 := HQ.out.cb.c1; have c2 := HQ.out.cb.c2; have c3 := HQ.out.cb.c3; have c4 := HQ.out.cb.c4
 go_wp2_with fail
 refine (HCK.out w1 HQ.out.cb.bel).mono ?_
 rintro e w2 ⟨rfl, hb2⟩
 have HQ2 := Lib.hid (HQ.out.on hb2)
 clear hb2 c0 c1 c2 c3 c4
 have c0 := HQ2.out.cb.c0; have c1 := HQ2.out.cb.c1; have c2 := HQ2.out.cb.c2; have c3 := HQ2.out.cb.c3; have c4 := HQ2.out.cb.c4
 go_upto_region 4 with fail
 refine Kept.start (S := fun w' => w'.cell? ⟨w.heap.size, 0, none⟩ = some (.int .i64 P) ∧ w'.cell? ⟨w.heap.size, 1, none⟩ = some (.int .i64 M) ∧ w'.cell? ⟨w.heap.size, 2, none⟩ = some mv ∧ w'.cell? ⟨w.heap.size, 3, none⟩ = some (.int .i64 (n : Int)) ∧ w'.cell? ⟨w.heap.size, 4, none⟩ = some (.slice GA gl gc)) (by kernel_rfl) (⟨c0, c1, c2, c3, c4⟩) (fun hHeld => ?_)
 change Kept _ _ _ _ 9 _ _ _
 refine Kept.tk 0 (v := ?_) rfl ?_ hHeld ?_
 rotate_left
 ·intro w' h; (try dsimp only at h); go_simp <;> with_reducible rfl
 try simp only [tda, tdb, tdc, Act.put, tdd, tde, tdf]
 refine Kept.tk 1 (v := ?_) rfl ?_ hHeld ?_
 rotate_left
 ·intro w' h; (try dsimp only at h); go_simp <;> with_reducible rfl
 try simp only [tda, tdb, tdc, Act.put, tdd, tde, tdf]
 refine Kept.tk 2 (v := ?_) rfl ?_ hHeld ?_
 rotate_left
 ·intro w' h; (try dsimp only at h); go_simp <;> with_reducible rfl
 try simp only [tda, tdb, tdc, Act.put, tdd, tde, tdf]
 refine Kept.tk 4 (v := ?_) rfl ?_ hHeld ?_
 rotate_left
 ·intro w' h; (try dsimp only at h); go_simp <;> with_reducible rfl
 try simp only [tda, tdb, tdc, Act.put, tdd, tde, tdf]
 refine Kept.tk 5 (v := ?_) rfl ?_ hHeld ?_
 rotate_left
 ·intro w' h; (try dsimp only at h); go_simp <;> with_reducible rfl
 try simp only [tda, tdb, tdc, Act.put, tdd, tde, tdf]
 refine Kept.only (i := 3) (by kernel_rfl) rfl (fun K hK => ?_)
 go_simp
 refine (HPA.out _ (bl_trans HQ2.out.cb.bel (bl_drew w2))).mono ?_; rintro e w3 ⟨u3, rfl, hx3, _, hb3⟩; have HX3 := Lib.hid hx3.out; have HQ3 := Lib.hid (HQ2.out.on (bl_trans (bl_drew w2) hb3)); have hs3 := (bl_trans (bl_drew w2) hb3).size; clear hx3 hb3
 refine hK.out _ _ (⟨HQ3.out.cb.c0, HQ3.out.cb.c1, HQ3.out.cb.c2, HQ3.out.cb.c3, HQ3.out.cb.c4⟩) (fun hHeld2 => ?_)
 clear hK K
 replace hHeld := hHeld2
 clear hHeld2
 try simp only [tda, tdb, tdc, Act.put, tdd, tde, tdf]
 refine Kept.only (i := 6) (by kernel_rfl) rfl (fun K hK => ?_)
 go_simp
 refine (HMK.out w3 u3 HQ3.out.cb.bel HX3.out).mono ?_; rintro e w4 ⟨u4, g4, rfl, hx4, hb4⟩; obtain ⟨⟨MA, mc, rfl, _⟩, ⟨DA, dc, rfl, _⟩⟩ := hx4.out; have HX4 : Hid (Sep w3.heap.size w4 fun w9 => SI w9 (.slice MA Mod.length mc) Mod ∧ SS w9 (.slice DA D.length dc) D) := hid' hx4; have HQ4 := Lib.hid (HQ3.out.on hb4); clear hx4 hb4; generalize D.length = dl at *; generalize Mod.length = ml at *
 refine hK.out _ _ (⟨HQ4.out.cb.c0, HQ4.out.cb.c1, HQ4.out.cb.c2, HQ4.out.cb.c3, HQ4.out.cb.c4⟩) (fun hHeld2 => ?_)
 clear hK K
 replace hHeld := hHeld2
 clear hHeld2
 try simp only [tda, tdb, tdc, Act.put, tdd, tde, tdf]
 refine Kept.only (i := 7) (o := ?op1) (by kernel_rfl) ?ho1 (fun K hK => ?_)
 case ho1 => (conv => lhs; simp only [tdg, tdh, tdi])
 obtain ⟨y0, y1, y2, y3, y4, f0, f1, f2, f3, f4⟩ := HQ4.out.q.five; go_simp; obtain ⟨w5, hz, HL⟩ := lay5 (x := .int .i64 P) (y := .int .i64 M) (z := .slice MA ml mc) (u := .int .i64 (n : Int)) (v := .slice DA dl dc) HQ4.out.q; rw [hz]; have q0 := HL.c0; have q1 := HL.c1; have q2 := HL.c2; have q3 := HL.c3; have q4 := HL.c4; have hql := HQ2.out.q.lt; have HC5 := Lib.hid (HQ4.out.cb.blk.grown HL.gr (by intro e; have := Option.some.inj e; omega)); have HX5 := Lib.hid (HX4.out.grown HL.gr (by rintro b e; cases e; omega)); have HBZ := Lib.hid (HL.below HQ4.out.cb.bel HQ4.out.cb.bel.size (by omega)); clear hz y0 y1 y2 y3 y4 f0 f1 f2 f3 f4 HL
 refine hK.out _ _ (⟨HC5.out.cell 0, HC5.out.cell 1, HC5.out.cell 2, HC5.out.cell 3, HC5.out.cell 4⟩) (fun hHeld2 => ?_)
 clear hK K
 replace hHeld := hHeld2
 clear hHeld2
 try simp only [tda, tdb, tdc, Act.put, tdd, tde, tdf]
 refine Kept.only (i := 8) (by kernel_rfl) rfl (fun K hK => ?_)
 go_simp
 refine hK.out _ _ hHeld (fun hHeld2 => ?_)
 clear hK K
 clear hHeld2
 refine Kept.done (by kernel_rfl) ?_
 try simp only [tda, tdb, tdc, Act.put, tdd, tde, tdf]
 clear hHeld
 clear c0 c1 c2 c3 c4
 go_wp2_with fail
 refine bodyPost_ret (v := .tuple #[.agg #[.int .i64 P, .int .i64 M, .slice MA ml mc, .int .i64 (n : Int), .slice DA dl dc], .int .i64 0]) (by simp [results, Tryz.results35, go_sem, q0, q1, q2, q3, q4]) rfl ?_
 have hsz := HQ3.out.cb.bel.size
 exact ⟨_, _, rfl, HX5.out.mono hsz, HBZ.out⟩
set_option maxHeartbeats 32000000 in
theorem cSyndrome_ok (w : World) (P M : Int) (n : Nat) (mv gv : Value) (Mod : List Int) (gen : List (List Int)) (hm : SI w mv Mod) (hg : SS w gv gen) (xv : Value) (x : List Int) (hx : SI w xv x) (hW : wordE P M Mod n gen x = 0) :
  Calls Tryz.prog 45 #[.agg #[.int .i64 P, .int .i64 M, mv, .int .i64 (n : Int), gv], xv] w (RetLA w (synL (refOps P M Mod) gen n x) 0) := by
 have HCK := Lib.hid (fun (w' : World) (hb : Below w.heap.size w w') => cWord_any w' P M n mv gv xv Mod x gen (hm.below hb (Nat.le_refl _)) (hg.below hb (Nat.le_refl _)) (hx.below hb (Nat.le_refl _)))
 rw [hW] at HCK
 obtain ⟨N2, e2, hC⟩ := wordE_zero hW
 obtain rfl : n = N2 := by omega
 have hf := hC.sp.fld
 have hE := hC.code
 have hmat : matE P M Mod n gen = 0 := by
  obtain ⟨h1, h2, h3, h4, h5, h6⟩ := codeE_zero hE
  rw [Int.toNat_natCast] at h5
  exact matE_mk h1 (by omega) h4 h5
 have hO := hC.sp.hO
 have hCn := Cn.null hO hC.sp.rref.rows
 have hle := hCn.le
 have h64 := hC.n2
 have hxl := hC.len
 have hob := orderF_bounds P M
 have HRL : Hid (∀ k, k < (nullL (refOps P M Mod) gen n).length → ((nullL (refOps P M Mod) gen n).getD k []).length = n) := hid' fun k hk => (hCn.rows k hk).1
 have HDR : Hid (∀ k, k < (nullL (refOps P M Mod) gen n).length → 0 ≤ dotL (refOps P M Mod) ((nullL (refOps P M Mod) gen n).getD k []) x n ∧ dotL (refOps P M Mod) ((nullL (refOps P M Mod) gen n).getD k []) x n ≤ 256) := hid' fun k hk => by have := dotL_rng hO ((nullL (refOps P M Mod) gen n).getD k []) x n; omega
 have HSY := Lib.hid (dotsL_all (refOps P M Mod) gen n x)
 have HKE := Lib.hid (fun (w' : World) (hb : Below w.heap.size w w') => mKernel_ok w' P M n mv gv Mod gen (hm.below hb (Nat.le_refl _)) (hg.below hb (Nat.le_refl _)) hmat)
 have HNW := Lib.hid (fun (w' : World) (hb : Below w.heap.size w w') => new_ok w' P M mv Mod (hm.below hb (Nat.le_refl _)) hf)
 have HX := Lib.hid hx
 unfold RetMx at HKE
 have HSU := Lib.hid (fun k => dotsL_succ (refOps P M Mod) (nullL (refOps P M Mod) gen n) n x k)
 have HDL := Lib.hid (fun k => dotsL_len (refOps P M Mod) (nullL (refOps P M Mod) gen n) n x k)
 have HZ0 : Hid (dotsL (refOps P M Mod) (nullL (refOps P M Mod) gen n) n x 0 = []) := hid' rfl
 obtain ⟨GA, gc, rfl, _⟩ := hg
 obtain ⟨XA, xc, rfl, _⟩ := hx
 rw [hxl] at HX HCK ⊢
 have HXL := Lib.hid hxl
 generalize gen.length = gl at *
 clear hm hW hE hmat hf e2 hC hxl hob hCn
 rw [← HSY.out]
 clear HSY
 generalize nullL (refOps P M Mod) gen n = C at *
 obtain ⟨m, hk⟩ : ∃ m, m = C.length := ⟨_, rfl⟩
 have hm64 : m ≤ 64 := by omega
 rw [← hk]
 have HK := Lib.hid hk; clear hk
 have HF := Lib.hid (CBox.mk' w P M mv n (.slice GA gl gc))
 go_enter Tryz.func45, Tryz.ntmps45
 go_upto_region 1 with fail
 generalize w.alloc (.cells #[.int .i64 P, .int .i64 M, mv, .int .i64 (n : Int), .slice GA gl gc] 34) = w0 at *
 have c0 := HF.out.c0; have c1 := HF.out.c1; have c2 := HF.out.c2; have c3 := HF.out.c3; have c4 := HF.out.c4
 go_wp2_with fail
 refine (HCK.out w0 HF.out.bel).mono ?_
 rintro e w2 ⟨rfl, hb2⟩
 have HF2 := Lib.hid (HF.out.on hb2)
 have HB2 := Lib.hid HF2.out.bel
 clear hb2 c0 c1 c2 c3 c4
 have c0 := HF2.out.c0; have c1 := HF2.out.c1; have c2 := HF2.out.c2; have c3 := HF2.out.c3; have c4 := HF2.out.c4
 have C0 := Lib.hid c0; have C1 := Lib.hid c1; have C2 := Lib.hid c2; have C3 := Lib.hid c3; have C4 := Lib.hid c4
 go_upto_region 4 with fail
 go_cut [7, 8] from 20 to 26 (fun t5 t6 wc => ∃ g UA uc, t6 = .int .i64 0 ∧ t5 = .pointer (some ⟨g, 0, none⟩) ∧ w2.heap.size ≤ g ∧ Hid (Blk wc g 27 [.int .i64 (n : Int), .slice UA m uc]) ∧ Hid (Sep w2.heap.size wc fun w9 => SS w9 (.slice UA m uc) C) ∧ Hid (Below w2.heap.size w2 wc))
 case first =>
  refine Kept.start (S := fun w' => w'.cell? ⟨w.heap.size, 0, none⟩ = some (.int .i64 P) ∧ w'.cell? ⟨w.heap.size, 1, none⟩ = some (.int .i64 M) ∧ w'.cell? ⟨w.heap.size, 2, none⟩ = some mv ∧ w'.cell? ⟨w.heap.size, 3, none⟩ = some (.int .i64 (n : Int)) ∧ w'.cell? ⟨w.heap.size, 4, none⟩ = some (.slice GA gl gc)) (by kernel_rfl) (⟨c0, c1, c2, c3, c4⟩) (fun hHeld => ?_)
  change Kept _ _ _ _ 11 _ _ _
  have hdrew := bl_drew w2
  generalize w2.drew = wq1 at hdrew hHeld ⊢
  have HBB := Lib.hid hdrew
  clear c0 c1 c2 c3 c4
  clear hdrew
  refine Kept.tk 0 (v := ?_) rfl ?_ hHeld ?_
  rotate_left
  ·intro w' h; (try dsimp only at h); go_simp <;> with_reducible rfl
  try simp only [tda, tdb, tdc, Act.put, tdd, tde, tdf]
  refine Kept.tk 1 (v := ?_) rfl ?_ hHeld ?_
  rotate_left
  ·intro w' h; (try dsimp only at h); go_simp <;> with_reducible rfl
  try simp only [tda, tdb, tdc, Act.put, tdd, tde, tdf]
  refine Kept.tk 2 (v := ?_) rfl ?_ hHeld ?_
  rotate_left
  ·intro w' h; (try dsimp only at h); go_simp <;> with_reducible rfl
  try simp only [tda, tdb, tdc, Act.put, tdd, tde, tdf]
  refine Kept.two (i := 3) (j := 8) (oi := ?opa2) (oj := ?opb2) (by kernel_rfl) ?hoa2 ?hob2 (fun K hK => ?way12) (fun K hK => ?way22)
  case hoa2 => (conv => lhs; simp only [tdg, tdh, tdi])
  case hob2 => (conv => lhs; simp only [tdg, tdh, tdi])
  case way12 =>
   go_simp
   refine (cgen_any _ P M n mv GA gl gc).mono ?_
   rintro e wq3 ⟨rfl, hb⟩
   replace HBB := Lib.hid (bl_trans HBB.out hb)
   clear hb
   refine hK.out _ _ (⟨cb HBB C0, cb HBB C1, cb HBB C2, cb HBB C3, cb HBB C4⟩) (fun hHeld2 => ?_)
   clear hK K
   replace hHeld := hHeld2
   clear hHeld2
   try simp only [tda, tdb, tdc, Act.put, tdd, tde, tdf]
   refine Kept.two (i := 4) (j := 8) (oi := ?opa4) (oj := ?opb4) (by kernel_rfl) ?hoa4 ?hob4 (fun K hK => ?way14) (fun K hK => ?way24)
   case hoa4 => (conv => lhs; simp only [tdg, tdh, tdi])
   case hob4 => (conv => lhs; simp only [tdg, tdh, tdi])
   case way14 =>
    have hbs0 := HBB.out.size
    go_simp
    refine (HKE.out _ (bl_trans HB2.out HBB.out)).mono ?_
    rintro e wq5 ⟨u, rfl, hx, hb⟩
    obtain ⟨UA, uc, rfl, _⟩ := hx.out
    rw [← HK.out] at hx ⊢
    have HS4 := Lib.hid (hx.mono hbs0) 
    replace HBB := Lib.hid (bl_trans HBB.out hb)
    clear hb hx hbs0
    refine hK.out _ _ (⟨cb HBB C0, cb HBB C1, cb HBB C2, cb HBB C3, cb HBB C4⟩) (fun hHeld2 => ?_)
    clear hK K
    replace hHeld := hHeld2
    clear hHeld2
    try simp only [tda, tdb, tdc, Act.put, tdd, tde, tdf]
    refine Kept.tk 5 (v := ?_) rfl ?_ hHeld ?_
    rotate_left
    ·intro w' h; (try dsimp only at h); go_simp <;> with_reducible rfl
    try simp only [tda, tdb, tdc, Act.put, tdd, tde, tdf]
    refine Kept.tk 6 (v := ?_) rfl ?_ hHeld ?_
    rotate_left
    ·intro w' h; (try dsimp only at h); go_simp <;> with_reducible rfl
    try simp only [tda, tdb, tdc, Act.put, tdd, tde, tdf]
    refine Kept.tk 7 (v := ?_) rfl ?_ hHeld ?_
    rotate_left
    ·intro w' h; (try dsimp only at h); go_simp <;> with_reducible rfl
    try simp only [tda, tdb, tdc, Act.put, tdd, tde, tdf]
    refine Kept.only (i := 8) (o := ?op6) (by kernel_rfl) ?ho6 (fun K hK => ?_)
    case ho6 => (conv => lhs; simp only [tdg, tdh, tdi])
    go_simp
    obtain ⟨wq7, g, e1, e2, hX, hb⟩ := mk_box wq5 27 [.int .i64 0, .slice none 0 0]
    rw [e1, e2]
    have HBX := Lib.hid hX
    have hgi : w2.heap.size ≤ g := (by have := HBB.out.size; omega)
    have HSF : Hid (∀ w9, World.grownBy wq7 w9 (some g) → Sep w2.heap.size w9 fun w9 => SS w9 (.slice UA m uc) C) := hid' (fun w9 hg => sep_far HS4.out hb (by omega) hg) 
    replace HBB := Lib.hid (bl_trans HBB.out hb)
    clear e1 e2 hX hb
    refine hK.out _ _ (⟨cb HBB C0, cb HBB C1, cb HBB C2, cb HBB C3, cb HBB C4⟩) (fun hHeld2 => ?_)
    clear hK K
    replace hHeld := hHeld2
    clear hHeld2
    try simp only [tda, tdb, tdc, Act.put, tdd, tde, tdf]
    refine Kept.only (i := 9) (o := ?op8) (by kernel_rfl) ?ho8 (fun K hK => ?_)
    case ho8 => (conv => lhs; simp only [tdg, tdh, tdi])
    obtain ⟨b0, b1, f0, f1⟩ := HBX.out.two
    go_simp
    obtain ⟨wq9, h6, HL⟩ := lay2 (x := .int .i64 (n : Int)) (y := .slice UA m uc) HBX.out
    rw [h6]
    have HS6 := Lib.hid (HSF.out _ HL.gr)
    have HBY := Lib.hid HL.blk
    replace HBB := Lib.hid (HL.below HBB.out HBB.out.size hgi)
    clear b0 b1 f0 f1 h6 HL HBX
    refine hK.out _ _ (⟨cb HBB C0, cb HBB C1, cb HBB C2, cb HBB C3, cb HBB C4⟩) (fun hHeld2 => ?_)
    clear hK K
    replace hHeld := hHeld2
    clear hHeld2
    try simp only [tda, tdb, tdc, Act.put, tdd, tde, tdf]
    refine Kept.only (i := 10) (by kernel_rfl) rfl (fun K hK => ?_)
    go_simp
    refine hK.out _ _ hHeld (fun hHeld2 => ?_)
    clear hK K
    clear hHeld2
    refine Kept.done (by kernel_rfl) ?_
    try simp only [tda, tdb, tdc, Act.put, tdd, tde, tdf]
    clear hHeld
    go_wp2_with fail
    go_meet
    exact ⟨g, UA, uc, rfl, rfl, hgi, HBY, HS6, HBB⟩
   case way24 =>
    go_simp
    obtain ⟨wq10, g, e1, e2, hX, hb⟩ := mk_box wq3 27 [.int .i64 0, .slice none 0 0]
    rw [e1, e2]
    have HBX := Lib.hid hX
    have hgi : w2.heap.size ≤ g := (by have := HBB.out.size; omega)
    replace HBB := Lib.hid (bl_trans HBB.out hb)
    clear e1 e2 hX hb
    refine hK.out _ _ (⟨cb HBB C0, cb HBB C1, cb HBB C2, cb HBB C3, cb HBB C4⟩) (fun hHeld2 => ?_)
    clear hK K
    replace hHeld := hHeld2
    clear hHeld2
    try simp only [tda, tdb, tdc, Act.put, tdd, tde, tdf]
    refine Kept.only (i := 4) (o := ?op11) (by kernel_rfl) ?ho11 (fun K hK => ?_)
    case ho11 => (conv => lhs; simp only [tdg, tdh, tdi])
    have hbs0 := HBB.out.size
    go_simp
    refine (HKE.out _ (bl_trans HB2.out HBB.out)).mono ?_
    rintro e wq12 ⟨u, rfl, hx, hb⟩
    obtain ⟨UA, uc, rfl, _⟩ := hx.out
    rw [← HK.out] at hx ⊢
    have hglt := HBX.out.lt 
    have HSF : Hid (∀ w9, World.grownBy wq12 w9 (some g) → Sep w2.heap.size w9 fun w9 => SS w9 (.slice UA m uc) C) := hid' (fun w9 hg => (hx.grown hg (by rintro b e; cases e; exact hglt)).mono hbs0) 
    clear hglt 
    replace HBX := Lib.hid (HBX.out.belowS hb) 
    replace HBB := Lib.hid (bl_trans HBB.out hb)
    clear hb hx hbs0
    refine hK.out _ _ (⟨cb HBB C0, cb HBB C1, cb HBB C2, cb HBB C3, cb HBB C4⟩) (fun hHeld2 => ?_)
    clear hK K
    replace hHeld := hHeld2
    clear hHeld2
    try simp only [tda, tdb, tdc, Act.put, tdd, tde, tdf]
    refine Kept.tk 5 (v := ?_) rfl ?_ hHeld ?_
    rotate_left
    ·intro w' h; (try dsimp only at h); go_simp <;> with_reducible rfl
    try simp only [tda, tdb, tdc, Act.put, tdd, tde, tdf]
    refine Kept.tk 6 (v := ?_) rfl ?_ hHeld ?_
    rotate_left
    ·intro w' h; (try dsimp only at h); go_simp <;> with_reducible rfl
    try simp only [tda, tdb, tdc, Act.put, tdd, tde, tdf]
    refine Kept.tk 7 (v := ?_) rfl ?_ hHeld ?_
    rotate_left
    ·intro w' h; (try dsimp only at h); go_simp <;> with_reducible rfl
    try simp only [tda, tdb, tdc, Act.put, tdd, tde, tdf]
    refine Kept.only (i := 9) (o := ?op13) (by kernel_rfl) ?ho13 (fun K hK => ?_)
    case ho13 => (conv => lhs; simp only [tdg, tdh, tdi])
    obtain ⟨b0, b1, f0, f1⟩ := HBX.out.two
    go_simp
    obtain ⟨wq14, h6, HL⟩ := lay2 (x := .int .i64 (n : Int)) (y := .slice UA m uc) HBX.out
    rw [h6]
    have HS6 := Lib.hid (HSF.out _ HL.gr)
    have HBY := Lib.hid HL.blk
    replace HBB := Lib.hid (HL.below HBB.out HBB.out.size hgi)
    clear b0 b1 f0 f1 h6 HL HBX
    refine hK.out _ _ (⟨cb HBB C0, cb HBB C1, cb HBB C2, cb HBB C3, cb HBB C4⟩) (fun hHeld2 => ?_)
    clear hK K
    replace hHeld := hHeld2
    clear hHeld2
    try simp only [tda, tdb, tdc, Act.put, tdd, tde, tdf]
    refine Kept.only (i := 10) (by kernel_rfl) rfl (fun K hK => ?_)
    go_simp
    refine hK.out _ _ hHeld (fun hHeld2 => ?_)
    clear hK K
    clear hHeld2
    refine Kept.done (by kernel_rfl) ?_
    try simp only [tda, tdb, tdc, Act.put, tdd, tde, tdf]
    clear hHeld
    go_wp2_with fail
    go_meet
    exact ⟨g, UA, uc, rfl, rfl, hgi, HBY, HS6, HBB⟩
  case way22 =>
   go_simp
   obtain ⟨wq15, g, e1, e2, hX, hb⟩ := mk_box wq1 27 [.int .i64 0, .slice none 0 0]
   rw [e1, e2]
   have HBX := Lib.hid hX
   have hgi : w2.heap.size ≤ g := (by have := HBB.out.size; omega)
   replace HBB := Lib.hid (bl_trans HBB.out hb)
   clear e1 e2 hX hb
   refine hK.out _ _ (⟨cb HBB C0, cb HBB C1, cb HBB C2, cb HBB C3, cb HBB C4⟩) (fun hHeld2 => ?_)
   clear hK K
   replace hHeld := hHeld2
   clear hHeld2
   try simp only [tda, tdb, tdc, Act.put, tdd, tde, tdf]
   refine Kept.only (i := 3) (o := ?op16) (by kernel_rfl) ?ho16 (fun K hK => ?_)
   case ho16 => (conv => lhs; simp only [tdg, tdh, tdi])
   go_simp
   refine (cgen_any _ P M n mv GA gl gc).mono ?_
   rintro e wq17 ⟨rfl, hb⟩
   replace HBX := Lib.hid (HBX.out.belowS hb) 
   replace HBB := Lib.hid (bl_trans HBB.out hb)
   clear hb
   refine hK.out _ _ (⟨cb HBB C0, cb HBB C1, cb HBB C2, cb HBB C3, cb HBB C4⟩) (fun hHeld2 => ?_)
   clear hK K
   replace hHeld := hHeld2
   clear hHeld2
   try simp only [tda, tdb, tdc, Act.put, tdd, tde, tdf]
   refine Kept.only (i := 4) (o := ?op18) (by kernel_rfl) ?ho18 (fun K hK => ?_)
   case ho18 => (conv => lhs; simp only [tdg, tdh, tdi])
   have hbs0 := HBB.out.size
   go_simp
   refine (HKE.out _ (bl_trans HB2.out HBB.out)).mono ?_
   rintro e wq19 ⟨u, rfl, hx, hb⟩
   obtain ⟨UA, uc, rfl, _⟩ := hx.out
   rw [← HK.out] at hx ⊢
   have hglt := HBX.out.lt 
   have HSF : Hid (∀ w9, World.grownBy wq19 w9 (some g) → Sep w2.heap.size w9 fun w9 => SS w9 (.slice UA m uc) C) := hid' (fun w9 hg => (hx.grown hg (by rintro b e; cases e; exact hglt)).mono hbs0) 
   clear hglt 
   replace HBX := Lib.hid (HBX.out.belowS hb) 
   replace HBB := Lib.hid (bl_trans HBB.out hb)
   clear hb hx hbs0
   refine hK.out _ _ (⟨cb HBB C0, cb HBB C1, cb HBB C2, cb HBB C3, cb HBB C4⟩) (fun hHeld2 => ?_)
   clear hK K
   replace hHeld := hHeld2
   clear hHeld2
   try simp only [tda, tdb, tdc, Act.put, tdd, tde, tdf]
   refine Kept.tk 5 (v := ?_) rfl ?_ hHeld ?_
   rotate_left
   ·intro w' h; (try dsimp only at h); go_simp <;> with_reducible rfl
   try simp only [tda, tdb, tdc, Act.put, tdd, tde, tdf]
   refine Kept.tk 6 (v := ?_) rfl ?_ hHeld ?_
   rotate_left
   ·intro w' h; (try dsimp only at h); go_simp <;> with_reducible rfl
   try simp only [tda, tdb, tdc, Act.put, tdd, tde, tdf]
   refine Kept.tk 7 (v := ?_) rfl ?_ hHeld ?_
   rotate_left
   ·intro w' h; (try dsimp only at h); go_simp <;> with_reducible rfl
   try simp only [tda, tdb, tdc, Act.put, tdd, tde, tdf]
   refine Kept.only (i := 9) (o := ?op20) (by kernel_rfl) ?ho20 (fun K hK => ?_)
   case ho20 => (conv => lhs; simp only [tdg, tdh, tdi])
   obtain ⟨b0, b1, f0, f1⟩ := HBX.out.two
   go_simp
   obtain ⟨wq21, h6, HL⟩ := lay2 (x := .int .i64 (n : Int)) (y := .slice UA m uc) HBX.out
   rw [h6]
   have HS6 := Lib.hid (HSF.out _ HL.gr)
   have HBY := Lib.hid HL.blk
   replace HBB := Lib.hid (HL.below HBB.out HBB.out.size hgi)
   clear b0 b1 f0 f1 h6 HL HBX
   refine hK.out _ _ (⟨cb HBB C0, cb HBB C1, cb HBB C2, cb HBB C3, cb HBB C4⟩) (fun hHeld2 => ?_)
   clear hK K
   replace hHeld := hHeld2
   clear hHeld2
   try simp only [tda, tdb, tdc, Act.put, tdd, tde, tdf]
   refine Kept.only (i := 10) (by kernel_rfl) rfl (fun K hK => ?_)
   go_simp
   refine hK.out _ _ hHeld (fun hHeld2 => ?_)
   clear hK K
   clear hHeld2
   refine Kept.done (by kernel_rfl) ?_
   try simp only [tda, tdb, tdc, Act.put, tdd, tde, tdf]
   clear hHeld
   go_wp2_with fail
   go_meet
   exact ⟨g, UA, uc, rfl, rfl, hgi, HBY, HS6, HBB⟩
 case rest =>
  clear c0 c1 c2 c3 c4
  obtain ⟨g, UA, uc, rfl, rfl, hg, HBY, HS5, HBB⟩ := hcut
  have HF3 := Lib.hid (HF2.out.on HBB.out)
  have hs2 := HF2.out.bel.size
  clear C0 C1 C2 C3 C4
  have c0 := HF3.out.c0; have c1 := HF3.out.c1; have c2 := HF3.out.c2
  go_wp2_with fail
  refine (HNW.out wc HF3.out.bel).mono ?_
  rintro e w5 ⟨a, rfl, hsep, hb5⟩
  have HGF := Lib.hid hsep.out
  have HF5 := Lib.hid (HF3.out.on hb5)
  have HX5 := Lib.hid (HX.out.below HF5.out.bel (Nat.le_refl _))
  have HD5 := Lib.hid (HS5.out.on hb5).out
  have HBY5 := Lib.hid (HBY.out.belowS hb5)
  clear hb5 hsep c0 c1 c2
  have x1 : w5.cell? ⟨g, 1, none⟩ = some (.slice UA m uc) := HBY5.out.cell 1
  have HO0 : Hid (OI w5.heap.size w5 (.slice none 0 0) (dotsL (refOps P M Mod) C n x 0)) := by rw [HZ0.out]; exact OI.nil w5.heap.size w5
  go_wp2_with fail
  clear x1
  go_loopw [10, 12, 42] (fun u _ i wr => ∃ k : Nat, k ≤ m ∧ i = .int .i64 (k : Int) ∧ Hid (OI w5.heap.size wr u (dotsL (refOps P M Mod) C n x k)) ∧ Hid (Below w5.heap.size w5 wr)) (fun _ _ i _ => (m - intOf i).toNat)
  case atStart => exact ⟨0, Nat.zero_le _, rfl, HO0, bl_refl _⟩
  case round =>
   clear HO0
   obtain ⟨k, hk, rfl, HO, HW⟩ := hrel
   have HBW := Lib.hid (bl_trans HF5.out.bel HW.out)
   by_cases hlt : k < m
   ·obtain ⟨ad, Ak, ck, row, rfl, hc, HR, HRE⟩ := (HD5.out.below HW.out (Nat.le_refl _)).eltA (k := k) (by rw [← HK.out]; exact hlt)
    have HRN : Hid (row.length = n) := hid' (by rw [← HRE.out]; exact HRL.out k (by rw [← HK.out]; exact hlt))
    have HDT := Lib.hid (gdot_any wr a P M (.slice Ak row.length ck) (.slice XA n xc) Mod row x (HGF.out.on HW.out) HR.out.si (HX.out.below HBW.out (Nat.le_refl _)) (by rw [HRN.out, HXL.out]))
    rw [HRN.out] at HDT hc
    have hdr := HDR.out k (by rw [← HK.out]; exact hlt)
    have HNX := Lib.hid (HSU.out k)
    rw [HRE.out] at hdr HNX
    have hdl := HDL.out k
    generalize dotL (refOps P M Mod) row x n = d at *
    go_wp2_with fail
    refine HDT.out.mono ?_
    rintro e w6 ⟨rfl, hb6⟩
    have HO6 := Lib.hid (HO.out.below hb6 (Nat.le_refl _)); have HB6 := Lib.hid (bl_trans HW.out hb6)
    have HP := Lib.hid (PushI.mk' (w0 := w5) HO6.out HB6.out HB6.out.size d)
    clear hb6 hc
    go_wp2_with (at_builtin; refine wpList_pushI rfl _ _ rfl w5.heap.size _ (dotsL (refOps P M Mod) C n x k) rfl HP.out.own w6.heap.size 1 d rfl HP.out.box (by rw [hdl]; omega) HP.out.up ?_; intro v1 w1 ho hg)
    exact ⟨⟨k + 1, by omega, rfl, by rw [HNX.out]; exact hid' ho, hid' (HP.out.below (Nat.le_refl _) hg)⟩, by simp only [intOf]; omega⟩
   ·obtain rfl : m = k := by omega
    have HSI := Lib.hid (HO.out.sep (by rw [HDL.out]; omega) (fun j => by
     by_cases hj : j < m
     ·rw [dotsL_at hj]; have := HDR.out j (by rw [← HK.out]; exact hj); exact I64.of_small (by omega) (by omega)
     ·rw [getD_len (by rw [HDL.out]; omega)]; exact I64.zero))
    go_wp2_with fail
    go_ret2
    refine ⟨_, ?_, HSI.out.mono HF5.out.bel.size, HBW.out⟩
    rfl
end Go.Proofs.YtodgdoglhecolaaGreat
