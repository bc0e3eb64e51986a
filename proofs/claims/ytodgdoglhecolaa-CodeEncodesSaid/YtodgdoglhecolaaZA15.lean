/- Texts of a claim, merged: words, plain facts and walks that the last of its texts uses. -/
import Derived.Test.YtodgdoglhecolaaZA1
import Derived.Test.YtodgdoglhecolaaZA6
import Derived.Test.YtodgdoglhecolaaZA8
import Derived.Test.YtodgdoglhecolaaZA12
import Derived.Test.YtodgdoglhecolaaZA13
set_option linter.unusedSimpArgs false
set_option linter.unusedVariables false

namespace Go.Proofs.Ytodgdoglhecolaa
open Go.RowKit
set_option maxRecDepth 100000
structure C2B (w w0 : World) (P M : Int) (mv : Value) (n : Int) (gv : Value) (P2 M2 : Int) (mv2 : Value) (n2 : Int) (gv2 : Value) : Prop where
 b1 : Blk w0 w.heap.size 32 [.int .i64 P, .int .i64 M, mv, .int .i64 n, gv]
 b2 : Blk w0 (w.heap.size + 1) 32 [.int .i64 P2, .int .i64 M2, mv2, .int .i64 n2, gv2]
 bel : Below w.heap.size w w0
structure C3B (w w0 : World) (P M : Int) (mv : Value) (n : Int) (gv : Value) (P2 M2 : Int) (mv2 : Value) (n2 : Int) (gv2 : Value) : Prop where
 cc : C2B w w0 P M mv n gv P2 M2 mv2 n2 gv2
 q : Blk w0 (w.heap.size + 1 + 1) 32 [.int .i64 0, .int .i64 0, .slice none 0 0, .int .i64 0, .slice none 0 0]
section
variable {w w0 w1 : World} {P M n P2 M2 n2 : Int} {mv gv mv2 gv2 : Value}
theorem C2B.on (h : C2B w w0 P M mv n gv P2 M2 mv2 n2 gv2) (hb : Below w0.heap.size w0 w1) : C2B w w1 P M mv n gv P2 M2 mv2 n2 gv2 := ⟨h.b1.belowS hb, h.b2.belowS hb, bl_trans h.bel hb⟩
theorem C3B.on (h : C3B w w0 P M mv n gv P2 M2 mv2 n2 gv2) (hb : Below w0.heap.size w0 w1) : C3B w w1 P M mv n gv P2 M2 mv2 n2 gv2 := ⟨h.cc.on hb, h.q.belowS hb⟩
theorem C2B.mk' (w : World) (P M : Int) (mv : Value) (n : Int) (gv : Value) (P2 M2 : Int) (mv2 : Value) (n2 : Int) (gv2 : Value) : ∃ w0, (w.alloc (.cells #[.int .i64 P, .int .i64 M, mv, .int .i64 n, gv] 32)).alloc (.cells #[.int .i64 P2, .int .i64 M2, mv2, .int .i64 n2, gv2] 32) = w0 ∧ C2B w w0 P M mv n gv P2 M2 mv2 n2 gv2 := by
 obtain ⟨w0, h1, h2, h3, h4⟩ := boxesT w 32 [.int .i64 P, .int .i64 M, mv, .int .i64 n, gv] [.int .i64 P2, .int .i64 M2, mv2, .int .i64 n2, gv2]
 exact ⟨w0, h1, h2, h3, h4⟩
theorem C3B.mk' (w : World) (P M : Int) (mv : Value) (n : Int) (gv : Value) (P2 M2 : Int) (mv2 : Value) (n2 : Int) (gv2 : Value) : ∃ w0, ((w.alloc (.cells #[.int .i64 P, .int .i64 M, mv, .int .i64 n, gv] 32)).alloc (.cells #[.int .i64 P2, .int .i64 M2, mv2, .int .i64 n2, gv2] 32)).alloc (.cells #[.int .i64 0, .int .i64 0, .slice none 0 0, .int .i64 0, .slice none 0 0] 32) = w0 ∧ C3B w w0 P M mv n gv P2 M2 mv2 n2 gv2 := by
 refine ⟨_, rfl, ?_⟩
 have hs : ((w.alloc (.cells #[.int .i64 P, .int .i64 M, mv, .int .i64 n, gv] 32)).alloc (.cells #[.int .i64 P2, .int .i64 M2, mv2, .int .i64 n2, gv2] 32)).heap.size = w.heap.size + 1 + 1 := by rw [World.size_alloc, World.size_alloc]
 obtain ⟨w1, e1, h1⟩ := C2B.mk' w P M mv n gv P2 M2 mv2 n2 gv2
 rw [e1] at hs ⊢
 refine ⟨h1.on (bl_alloc _ _), ?_⟩
 have := Blk.new w1 32 [.int .i64 0, .int .i64 0, .slice none 0 0, .int .i64 0, .slice none 0 0]
 rwa [hs] at this
end
def fit0 (e1 e2 : Int) (s : Bool) (n n2 : Int) : Int := if e1 ≠ 0 then e1 else if e2 ≠ 0 then e2 else if s = true ∧ n = n2 then 0 else 10
noncomputable def fitE (P M : Int) (Mod : List Int) (n : Int) (gen : List (List Int)) (P2 M2 : Int) (Mod2 : List Int) (n2 : Int) (gen2 : List (List Int)) : Int := fit0 (codeE P M Mod n gen) (codeE P2 M2 Mod2 n2 gen2) (sameF P M Mod P2 M2 Mod2) n n2
theorem fitE_self {P M : Int} {Mod : List Int} {n : Int} {gen gen2 : List (List Int)} (h1 : codeE P M Mod n gen = 0) (h2 : codeE P M Mod n gen2 = 0) : fitE P M Mod n gen P M Mod n gen2 = 0 := by
 unfold fitE fit0 sameF
 rw [if_neg (by simp [h1]), if_neg (by simp [h2])]
 simp
set_option maxHeartbeats 8000000 in
theorem cTwo_any (w : World) (P M n P2 M2 n2 : Int) (mv gv mv2 gv2 : Value) (Mod Mod2 : List Int) (gen gen2 : List (List Int)) (hm : SI w mv Mod) (hg : SS w gv gen) (hm2 : SI w mv2 Mod2) (hg2 : SS w gv2 gen2) :
  Calls Try.prog 70 #[.agg #[.int .i64 P, .int .i64 M, mv, .int .i64 n, gv], .agg #[.int .i64 P2, .int .i64 M2, mv2, .int .i64 n2, gv2]] w (RetI w (fitE P M Mod n gen P2 M2 Mod2 n2 gen2)) := by
 have HK1 := Lib.hid (fun (w' : World) (hb : Below w.heap.size w w') => cCheck_any w' P M n mv gv Mod gen (hm.below hb (Nat.le_refl _)) (hg.below hb (Nat.le_refl _)))
 have HK2 := Lib.hid (fun (w' : World) (hb : Below w.heap.size w w') => cCheck_any w' P2 M2 n2 mv2 gv2 Mod2 gen2 (hm2.below hb (Nat.le_refl _)) (hg2.below hb (Nat.le_refl _)))
 have HSM := Lib.hid (fun (w' : World) (hb : Below w.heap.size w w') => fSame_any w' P M P2 M2 mv mv2 Mod Mod2 (hm.below hb (Nat.le_refl _)) (hm2.below hb (Nat.le_refl _)) )
 unfold fitE
 generalize codeE P M Mod n gen = e1 at *
 generalize codeE P2 M2 Mod2 n2 gen2 = e2 at *
 generalize sameF P M Mod P2 M2 Mod2 = s at *
 clear hm hg hm2 hg2
 obtain ⟨w1, ew, hq⟩ := C2B.mk' w P M mv n gv P2 M2 mv2 n2 gv2
 have HQ := Lib.hid hq; have HE1 := Lib.hid ew; clear hq ew
 go_enter Try.func70, Try.ntmps70
 go_upto_region 1 with fail
 rw [HE1.out]
 clear HE1
 have c0 := HQ.out.b1.cell 0; have c1 := HQ.out.b1.cell 1; have c2 := HQ.out.b1.cell 2; have c3 := HQ.out.b1.cell 3; have c4 := HQ.out.b1.cell 4
 go_wp2_with fail
 refine (HK1.out w1 HQ.out.bel).mono ?_
 rintro e w2 ⟨rfl, hb2⟩
 have HQ2 := Lib.hid (HQ.out.on hb2)
 clear hb2 c0 c1 c2 c3 c4
 by_cases he1 : e1 = 0
 case neg =>
  have hE : Hid (fit0 e1 e2 s n n2 = e1) := hid' (by unfold fit0; rw [if_pos he1])
  have hb1 : (e1 == 0) = false := by rw [beq_eq_false_iff_ne]; exact he1
  clear he1
  go_wp2_with fail
  go_ret
  exact ⟨by rw [hE.out]; rfl, HQ2.out.bel⟩
 subst he1
 have d0 := HQ2.out.b2.cell 0; have d1 := HQ2.out.b2.cell 1; have d2 := HQ2.out.b2.cell 2; have d3 := HQ2.out.b2.cell 3; have d4 := HQ2.out.b2.cell 4
 go_wp2_with fail
 refine (HK2.out w2 HQ2.out.bel).mono ?_
 rintro e w3 ⟨rfl, hb3⟩
 have HQ3 := Lib.hid (HQ2.out.on hb3)
 clear hb3 d0 d1 d2 d3 d4
 by_cases he2 : e2 = 0
 case neg =>
  have hE : Hid (fit0 0 e2 s n n2 = e2) := hid' (by unfold fit0; rw [if_neg (by simp), if_pos he2])
  have hb1 : (e2 == 0) = false := by rw [beq_eq_false_iff_ne]; exact he2
  clear he2
  go_wp2_with fail
  go_ret
  exact ⟨by rw [hE.out]; rfl, HQ3.out.bel⟩
 subst he2
 have c0 := HQ3.out.b1.cell 0; have c1 := HQ3.out.b1.cell 1; have c2 := HQ3.out.b1.cell 2; have c3 := HQ3.out.b1.cell 3; have c4 := HQ3.out.b1.cell 4
 have d0 := HQ3.out.b2.cell 0; have d1 := HQ3.out.b2.cell 1; have d2 := HQ3.out.b2.cell 2; have d3 := HQ3.out.b2.cell 3; have d4 := HQ3.out.b2.cell 4
 go_wp2_with fail
 refine (HSM.out w3 HQ3.out.bel).mono ?_
 rintro e w4 ⟨rfl, hb4⟩
 have HQ4 := Lib.hid (HQ3.out.on hb4)
 clear hb4 c0 c1 c2 c3 c4 d0 d1 d2 d3 d4
 cases s
 ·have hE : Hid (fit0 0 0 false n n2 = 10) := hid' (by unfold fit0; simp)
  go_wp2_with fail
  go_ret
  exact ⟨by rw [hE.out]; rfl, HQ4.out.bel⟩
 have c3 := HQ4.out.b1.cell 3; have d3 := HQ4.out.b2.cell 3
 by_cases hn : n = n2
 ·have hE : Hid (fit0 0 0 true n n2 = 0) := hid' (by unfold fit0; simp [hn])
  have hnn : (n != n2) = false := by rw [bne_eq_false_iff_eq]; exact hn
  clear hn
  go_wp2_with fail
  go_ret
  exact ⟨by rw [hE.out]; rfl, HQ4.out.bel⟩
 ·have hE : Hid (fit0 0 0 true n n2 = 10) := hid' (by unfold fit0; simp [hn])
  have hnn : (n != n2) = true := by rw [bne_iff_ne]; exact hn
  clear hn
  go_wp2_with fail
  go_ret
  exact ⟨by rw [hE.out]; rfl, HQ4.out.bel⟩
set_option maxHeartbeats 8000000 in
theorem cList_any (w : World) (P M n : Int) (mv xv : Value) (Mod x : List Int) (hm : SI w mv Mod) (hx : SI w xv x) (hf : FieldP P M Mod) :
  Calls Try.prog 26 #[.agg #[.int .i64 P, .int .i64 M, mv], xv, .int .i64 n] w (RetI w (listF (orderF P M) x n)) := by
 by_cases hl : (x.length : Int) = n
 case neg =>
  have HE : Hid (listF (orderF P M) x n = 4) := hid' (by unfold listF; rw [if_neg hl])
  obtain ⟨XA, xc, rfl, _⟩ := hx
  obtain ⟨l, hll⟩ : ∃ l, l = x.length := ⟨_, rfl⟩
  rw [← hll] at hl ⊢
  clear hll hm hf
  have hnb : ((l : Int) != n) = true := by rw [bne_iff_ne]; exact hl
  clear hl
  have HF := Lib.hid (FBox.mk' w P M mv)
  go_enter Try.func26, Try.ntmps26
  go_upto_region 1 with fail
  generalize w.alloc (.cells #[.int .i64 P, .int .i64 M, mv] 24) = w0 at *
  go_wp2_with fail
  go_ret
  exact ⟨by rw [HE.out]; rfl, HF.out.bel⟩
 by_cases he : entriesF (orderF P M) x = 0
 ·rw [show listF (orderF P M) x n = 0 by unfold listF; rw [if_pos hl, he]]
  exact cList_ok w P M n mv xv Mod x hm hx hf hl he
 have he2 : entriesF (orderF P M) x = 2 := by rcases entriesF_cases (orderF P M) x with h | h; exact absurd h he; exact h
 rw [show listF (orderF P M) x n = 2 by unfold listF; rw [if_pos hl, he2]]
 have HNW := Lib.hid (fun (w' : World) (hb : Below w.heap.size w w') => new_ok w' P M mv Mod (hm.below hb (Nat.le_refl _)) hf)
 unfold RetG at HNW
 have HX := Lib.hid hx
 have HE : Hid (decide (entriesF (orderF P M) x ≠ 0) = true) := hid' (by rw [he2]; rfl)
 obtain ⟨XA, xc, rfl, _⟩ := hx
 obtain ⟨l, hll⟩ : ∃ l, l = x.length := ⟨_, rfl⟩
 rw [← hll] at HX hl ⊢
 clear hll hm hf he he2
 have hnb : ((l : Int) != n) = false := by rw [bne_eq_false_iff_eq]; exact hl
 clear hl
 have HF := Lib.hid (FBox.mk' w P M mv)
 go_enter Try.func26, Try.ntmps26
 go_upto_region 1 with fail
 generalize w.alloc (.cells #[.int .i64 P, .int .i64 M, mv] 24) = w0 at *
 have c0 := HF.out.c0; have c1 := HF.out.c1; have c2 := HF.out.c2
 go_wp2_with fail
 refine (HNW.out w0 HF.out.bel).mono ?_
 rintro e w1 ⟨a, rfl, hg, hb1⟩
 have HG := Lib.hid hg.out
 have HF1 := Lib.hid (HF.out.on hb1)
 clear hg hb1 c0 c1 c2
 go_upto_region 4 with fail
 obtain ⟨w2, g, e1, e2, hx2, hb2⟩ := mk_box w1 64 [.pointer (some ⟨a, 0, none⟩)]
 rw [e1, e2]
 have HF2 := Lib.hid (HF1.out.on hb2); have HG2 := Lib.hid (HG.out.on hb2); have HX2 := Lib.hid (HX.out.below HF2.out.bel (Nat.le_refl _))
 have HC := Lib.hid (containsC_any w2 g a P M Mod _ x HG2.out (hx2.cell 0) HX2.out)
 rw [HE.out] at HC
 clear e1 e2 hx2 hb2
 go_wp2_with fail
 refine HC.out.mono ?_
 rintro e w3 ⟨rfl, rfl⟩
 go_wp2_with fail
 go_ret
 exact ⟨rfl, HF2.out.bel⟩
set_option maxHeartbeats 8000000 in
theorem cWord_any (w : World) (P M n : Int) (mv gv xv : Value) (Mod x : List Int) (gen : List (List Int)) (hm : SI w mv Mod) (hg : SS w gv gen) (hx : SI w xv x) :
  Calls Try.prog 31 #[.agg #[.int .i64 P, .int .i64 M, mv, .int .i64 n, gv], xv] w (RetI w (wordE P M Mod n gen x)) := by
 have HCK := Lib.hid (fun (w' : World) (hb : Below w.heap.size w w') => cCheck_any w' P M n mv gv Mod gen (hm.below hb (Nat.le_refl _)) (hg.below hb (Nat.le_refl _)))
 by_cases hE : codeE P M Mod n gen = 0
 case neg =>
  have HE : Hid (wordE P M Mod n gen x = codeE P M Mod n gen) := hid' (by unfold wordE; rw [if_neg hE])
  rw [HE.out]
  have e2 : (codeE P M Mod n gen != 0) = true := by rw [bne_iff_ne]; exact hE
  generalize codeE P M Mod n gen = er at *
  clear hE hm hg hx HE
  have HF := Lib.hid (CBox.mk' w P M mv n gv)
  go_enter Try.func31, Try.ntmps31
  go_upto_region 1 with fail
  generalize w.alloc (.cells #[.int .i64 P, .int .i64 M, mv, .int .i64 n, gv] 32) = w0 at *
  have c0 := HF.out.c0; have c1 := HF.out.c1; have c2 := HF.out.c2; have c3 := HF.out.c3; have c4 := HF.out.c4
  go_wp2_with fail
  refine (HCK.out w0 HF.out.bel).mono ?_
  rintro e w1 ⟨rfl, hb1⟩
  have HF1 := Lib.hid (HF.out.on hb1)
  clear hb1 c0 c1 c2 c3 c4
  go_wp2_with fail
  go_ret
  exact ⟨rfl, HF1.out.bel⟩
 have HE : Hid (wordE P M Mod n gen x = listF (orderF P M) x n) := hid' (by unfold wordE; rw [if_pos hE])
 rw [HE.out]
 have HLI := Lib.hid (fun (w' : World) (hb : Below w.heap.size w w') => cList_any w' P M n mv xv Mod x (hm.below hb (Nat.le_refl _)) (hx.below hb (Nat.le_refl _)) (codeE_zero hE).1)
 rw [hE] at HCK
 generalize listF (orderF P M) x n = er at *
 clear hm hg hx hE HE
 have HF := Lib.hid (CBox.mk' w P M mv n gv)
 go_enter Try.func31, Try.ntmps31
 go_upto_region 1 with fail
 generalize w.alloc (.cells #[.int .i64 P, .int .i64 M, mv, .int .i64 n, gv] 32) = w0 at *
 have c0 := HF.out.c0; have c1 := HF.out.c1; have c2 := HF.out.c2; have c3 := HF.out.c3; have c4 := HF.out.c4
 go_wp2_with fail
 refine (HCK.out w0 HF.out.bel).mono ?_
 rintro e w1 ⟨rfl, hb1⟩
 have HF1 := Lib.hid (HF.out.on hb1)
 clear hb1 c0 c1 c2 c3 c4
 have c0 := HF1.out.c0; have c1 := HF1.out.c1; have c2 := HF1.out.c2; have c3 := HF1.out.c3
 go_wp2_with fail
 refine (HLI.out w1 HF1.out.bel).mono ?_
 rintro e w2 ⟨rfl, hb2⟩
 have HF2 := Lib.hid (HF1.out.on hb2)
 clear hb2 c0 c1 c2 c3
 go_wp2_with fail
 go_ret
 exact ⟨rfl, HF2.out.bel⟩
noncomputable def msgE (P M : Int) (Mod : List Int) (n : Int) (gen : List (List Int)) (x : List Int) : Int := if wordE P M Mod n gen x ≠ 0 then wordE P M Mod n gen x else if inL (refOps P M Mod) gen x = true then 0 else 11
noncomputable def msgL (P M : Int) (Mod : List Int) (n : Int) (gen : List (List Int)) (x : List Int) : List Int := if wordE P M Mod n gen x = 0 ∧ inL (refOps P M Mod) gen x = true then crdL (refOps P M Mod) gen n.toNat x else []
structure CW (P M : Int) (Mod : List Int) (N : Nat) (gen : List (List Int)) (x : List Int) : Prop where
 n1 : 1 ≤ N
 n2 : N ≤ 64
 code : codeE P M Mod N gen = 0
 sp : SpP P M Mod N gen
 spE : spaceE P M Mod N gen = 0
 len : x.length = N
 rng : Rng (orderF P M) x
 vec : vecE (orderF P M) x N = 0
theorem codeE_sp {P M : Int} {Mod : List Int} {n : Int} {gen : List (List Int)} (hE : codeE P M Mod n gen = 0) : spaceE P M Mod n gen = 0 := by
 unfold codeE at hE
 split at hE
 ·rename_i h; exact absurd hE h
 split at hE
 ·exact hE
 ·cases hE
theorem wordE_zero {P M n : Int} {Mod : List Int} {gen : List (List Int)} {x : List Int} (h : wordE P M Mod n gen x = 0) : ∃ N : Nat, n = (N : Int) ∧ CW P M Mod N gen x := by
 have hc : codeE P M Mod n gen = 0 := Decidable.byContradiction fun k => k (by unfold wordE at h; rwa [if_neg k] at h)
 have hl : listF (orderF P M) x n = 0 := by unfold wordE at h; rwa [if_pos hc] at h
 obtain ⟨hf, h1, h2, _⟩ := codeE_zero hc
 obtain ⟨N, rfl⟩ : ∃ N : Nat, n = (N : Int) := ⟨n.toNat, by omega⟩
 obtain ⟨h3, h4⟩ := listF_zero hl
 have hr : Rng (orderF P M) x := fun k => by
  by_cases hk : k < x.length
  ·exact h4 k hk
  ·rw [getD_len (by omega)]
   have := (ref_fld hf).lt.pos
   omega
 exact ⟨N, rfl, by omega, by omega, hc, SpP.of (codeE_sp hc), codeE_sp hc, by omega, hr, vecE_of (by omega) hr⟩
theorem crd_len {O : FOps} {A : List (List Int)} {n : Nat} {x : List Int} : (crdL O A n x).length = A.length := by unfold crdL; rw [List.length_map, List.length_range]
theorem crd_i64 {w : World} {xv : Value} {O : FOps} {A : List (List Int)} {n : Nat} {x : List Int} (hx : SI w xv x) (k : Nat) : I64 ((crdL O A n x).getD k 0) := by
 by_cases hk : k < A.length
 ·have : (crdL O A n x).getD k 0 = x.getD (pvt (pivL O A n) k) 0 := by unfold crdL; simp [List.getD, hk]
  rw [this]
  exact hx.wfs _
 ·rw [getD_len (by rw [crd_len]; omega)]; exact I64.zero
theorem coord_la (w : World) (P M : Int) (N : Nat) (mv gv xv : Value) (Mod x : List Int) (gen : List (List Int)) (hm : SI w mv Mod) (hg : SS w gv gen) (hx : SI w xv x) (hW : wordE P M Mod N gen x = 0) :
  Calls Try.prog 32 #[.agg #[.int .i64 P, .int .i64 M, mv], .agg #[.int .i64 (N : Int), gv], xv] w (RetLA w (msgL P M Mod N gen x) (msgE P M Mod N gen x)) := by
 obtain ⟨N2, e, hC⟩ := wordE_zero hW
 obtain rfl : N = N2 := by omega
 have hr2 := hC.sp.r256
 cases hin : inL (refOps P M Mod) gen x
 ·rw [show msgL P M Mod N gen x = [] by unfold msgL; rw [if_neg (by simp [hin])], show msgE P M Mod N gen x = 11 by unfold msgE; rw [if_neg (by simp [hW]), if_neg (by simp [hin])]]
  exact (sCoord_out w P M N mv gv xv Mod gen x hm hg hx hC.spE hC.vec hin).mono fun _ _ => RetZE.la
 ·rw [show msgL P M Mod N gen x = crdL (refOps P M Mod) gen N x by unfold msgL; rw [if_pos ⟨hW, hin⟩, Int.toNat_natCast], show msgE P M Mod N gen x = 0 by unfold msgE; rw [if_neg (by simp [hW]), if_pos hin]]
  exact (sCoord_ok w P M N mv gv xv Mod gen x hm hg hx hC.spE hC.vec hin).mono fun _ _ => RetIs.la (by rw [crd_len]; omega) (crd_i64 hx)
set_option maxHeartbeats 16000000 in
theorem cMessage_ok (w : World) (P M : Int) (n : Nat) (mv gv : Value) (Mod : List Int) (gen : List (List Int)) (hm : SI w mv Mod) (hg : SS w gv gen) (xv : Value) (x : List Int) (hx : SI w xv x) (hW : wordE P M Mod n gen x = 0) :
  Calls Try.prog 12 #[.agg #[.int .i64 P, .int .i64 M, mv, .int .i64 (n : Int), gv], xv] w (RetLA w (msgL P M Mod n gen x) (msgE P M Mod n gen x)) := by
 have HCK := Lib.hid (fun (w' : World) (hb : Below w.heap.size w w') => cWord_any w' P M n mv gv xv Mod x gen (hm.below hb (Nat.le_refl _)) (hg.below hb (Nat.le_refl _)) (hx.below hb (Nat.le_refl _)))
 rw [hW] at HCK
 have HCO := Lib.hid (fun (w' : World) (hb : Below w.heap.size w w') => coord_la w' P M n mv gv xv Mod x gen (hm.below hb (Nat.le_refl _)) (hg.below hb (Nat.le_refl _)) (hx.below hb (Nat.le_refl _)) hW)
 unfold RetLA at HCO
 obtain ⟨GA, gc, rfl, _⟩ := hg
 generalize gen.length = gl at *
 clear hm hW hx
 generalize msgL P M Mod n gen x = L at *
 generalize msgE P M Mod n gen x = er at *
 have HF := Lib.hid (CBox.mk' w P M mv n (.slice GA gl gc))
 go_enter Try.func12, Try.ntmps12
 go_upto_region 1 with fail
 generalize w.alloc (.cells #[.int .i64 P, .int .i64 M, mv, .int .i64 (n : Int), .slice GA gl gc] 32) = w0 at *
 have c0 := HF.out.c0; have c1 := HF.out.c1; have c2 := HF.out.c2; have c3 := HF.out.c3; have c4 := HF.out.c4
 go_wp2_with fail
 refine (HCK.out w0 HF.out.bel).mono ?_
 rintro e w1 ⟨rfl, hb1⟩
 have HF1 := Lib.hid (HF.out.on hb1)
 clear hb1 c0 c1 c2 c3 c4
 have c0 := HF1.out.c0; have c1 := HF1.out.c1; have c2 := HF1.out.c2; have c3 := HF1.out.c3; have c4 := HF1.out.c4
 go_upto_region 4 with fail
 refine Kept.start (S := fun w' => w'.cell? ⟨w.heap.size, 0, none⟩ = some (.int .i64 P) ∧ w'.cell? ⟨w.heap.size, 1, none⟩ = some (.int .i64 M) ∧ w'.cell? ⟨w.heap.size, 2, none⟩ = some mv ∧ w'.cell? ⟨w.heap.size, 3, none⟩ = some (.int .i64 (n : Int)) ∧ w'.cell? ⟨w.heap.size, 4, none⟩ = some (.slice GA gl gc)) (by kernel_rfl) (⟨c0, c1, c2, c3, c4⟩) (fun hHeld => ?_)
 change Kept _ _ _ _ 10 _ _ _
 refine Kept.tk 0 (v := ?_) rfl ?_ hHeld ?_
 rotate_left
 ·intro w' h; (try dsimp only at h); go_simp <;> with_reducible rfl
 try simp only [tda, tdb, tdc, Act.put, tdd, tde, tdf]
 refine Kept.tk 1 (v := ?_) rfl ?_ hHeld ?_
 rotate_left
 ·intro w' h; (try dsimp only at h); go_simp <;> with_reducible rfl
 try simp only [tda, tdb, tdc, Act.put, tdd, tde, tdf]
 refine Kept.tk 2 (v := ?_) rfl ?_ hHeld ?_
 rotate_left
 ·intro w' h; (try dsimp only at h); go_simp <;> with_reducible rfl
 try simp only [tda, tdb, tdc, Act.put, tdd, tde, tdf]
 refine Kept.tk 4 (v := ?_) rfl ?_ hHeld ?_
 rotate_left
 ·intro w' h; (try dsimp only at h); go_simp <;> with_reducible rfl
 try simp only [tda, tdb, tdc, Act.put, tdd, tde, tdf]
 refine Kept.only (i := 3) (by kernel_rfl) rfl (fun K hK => ?_)
 go_simp
 refine (cgen_any _ P M n mv GA gl gc).mono ?_; rintro e w3 ⟨rfl, hb3⟩; have HF3 := Lib.hid (HF1.out.on (bl_trans (bl_drew w1) hb3)); clear hb3
 refine hK.out _ _ (⟨HF3.out.c0, HF3.out.c1, HF3.out.c2, HF3.out.c3, HF3.out.c4⟩) (fun hHeld2 => ?_)
 clear hK K
 replace hHeld := hHeld2
 clear hHeld2
 try simp only [tda, tdb, tdc, Act.put, tdd, tde, tdf]
 refine Kept.only (i := 5) (by kernel_rfl) rfl (fun K hK => ?_)
 go_simp
 refine (HCO.out w3 HF3.out.bel).mono ?_; rintro e w4 ⟨u4, rfl, hs4, hb4⟩; have HS4 := Lib.hid (hs4.mono HF3.out.bel.size); have HF4 := Lib.hid (HF3.out.on hb4); clear hs4 hb4
 refine hK.out _ _ (⟨HF4.out.c0, HF4.out.c1, HF4.out.c2, HF4.out.c3, HF4.out.c4⟩) (fun hHeld2 => ?_)
 clear hK K
 replace hHeld := hHeld2
 clear hHeld2
 try simp only [tda, tdb, tdc, Act.put, tdd, tde, tdf]
 refine Kept.tk 6 (v := ?_) rfl ?_ hHeld ?_
 rotate_left
 ·intro w' h; (try dsimp only at h); go_simp <;> with_reducible rfl
 try simp only [tda, tdb, tdc, Act.put, tdd, tde, tdf]
 refine Kept.tk 7 (v := ?_) rfl ?_ hHeld ?_
 rotate_left
 ·intro w' h; (try dsimp only at h); go_simp <;> with_reducible rfl
 try simp only [tda, tdb, tdc, Act.put, tdd, tde, tdf]
 refine Kept.tk 8 (v := ?_) rfl ?_ hHeld ?_
 rotate_left
 ·intro w' h; (try dsimp only at h); go_simp <;> with_reducible rfl
 try simp only [tda, tdb, tdc, Act.put, tdd, tde, tdf]
 refine Kept.only (i := 9) (by kernel_rfl) rfl (fun K hK => ?_)
 go_simp
 refine hK.out _ _ hHeld (fun hHeld2 => ?_)
 clear hK K
 clear hHeld2
 refine Kept.done (by kernel_rfl) ?_
 try simp only [tda, tdb, tdc, Act.put, tdd, tde, tdf]
 clear hHeld
 clear c0 c1 c2 c3 c4
 go_wp2_with fail
 go_ret2
 exact ⟨_, rfl, HS4.out, HF4.out.bel⟩
set_option maxHeartbeats 32000000 in
theorem cMeet_ok (w : World) (P M : Int) (n : Nat) (mv gv mv2 gv2 : Value) (Mod : List Int) (gen gen2 : List (List Int)) (hm : SI w mv Mod) (hg : SS w gv gen) (hm2 : SI w mv2 Mod) (hg2 : SS w gv2 gen2) (hE : codeE P M Mod n gen = 0) (hE2 : codeE P M Mod n gen2 = 0) :
  Calls Try.prog 37 #[.agg #[.int .i64 P, .int .i64 M, mv, .int .i64 (n : Int), gv], .agg #[.int .i64 P, .int .i64 M, mv2, .int .i64 (n : Int), gv2]] w (RetCE w P M Mod n (meetS (refOps P M Mod) gen gen2 n) 0) := by
 have HCK := Lib.hid (fun (w' : World) (hb : Below w.heap.size w w') => cTwo_any w' P M n P M n mv gv mv2 gv2 Mod Mod gen gen2 (hm.below hb (Nat.le_refl _)) (hg.below hb (Nat.le_refl _)) (hm2.below hb (Nat.le_refl _)) (hg2.below hb (Nat.le_refl _)))
 rw [fitE_self hE hE2] at HCK
 have h64 : n ≤ 128 := by have := (codeE_zero hE).2.2.1; omega
 have HKE := Lib.hid (fun (w' : World) (hb : Below w.heap.size w w') => sMeet_ok w' P M n mv gv gv2 Mod gen gen2 (hm.below hb (Nat.le_refl _)) (hg.below hb (Nat.le_refl _)) (hg2.below hb (Nat.le_refl _)) (codeE_sp hE) (codeE_sp hE2) h64)
 have HOF := Lib.hid (fun (w' : World) (A9 : Option Addr) (l9 c9 : Nat) (hb : Below w.heap.size w w') => cof_ok w' P M n mv A9 l9 c9 Mod (hm.below hb (Nat.le_refl _)))
 have HML := Lib.hid hm.len'; have HMW := Lib.hid hm.wfs
 unfold RetMx at HKE
 unfold RetOf at HOF
 obtain ⟨GA, gc, rfl, _⟩ := hg
 generalize gen.length = gl at *
 obtain ⟨GB, kc, rfl, _⟩ := hg2
 generalize gen2.length = kl at *
 clear hm hm2 hE hE2 h64
 generalize meetS (refOps P M Mod) gen gen2 n = C at *
 obtain ⟨w1, e1, hq⟩ := C3B.mk' w P M mv n (.slice GA gl gc) P M mv2 n (.slice GB kl kc)
 have HQ := Lib.hid hq; have HE1 := Lib.hid e1; clear hq e1
 go_enter Try.func37, Try.ntmps37
 go_upto_region 1 with fail
 rw [HE1.out]
 clear HE1
 have c0 := HQ.out.cc.b1.cell 0; have c1 := HQ.out.cc.b1.cell 1; have c2 := HQ.out.cc.b1.cell 2; have c3 := HQ.out.cc.b1.cell 3; have c4 := HQ.out.cc.b1.cell 4
 have d0 := HQ.out.cc.b2.cell 0; have d1 := HQ.out.cc.b2.cell 1; have d2 := HQ.out.cc.b2.cell 2; have d3 := HQ.out.cc.b2.cell 3; have d4 := HQ.out.cc.b2.cell 4
 go_wp2_with fail
 refine (HCK.out w1 HQ.out.cc.bel).mono ?_
 rintro e w2 ⟨rfl, hb2⟩
 have HQ2 := Lib.hid (HQ.out.on hb2)
 have HB2 := Lib.hid HQ2.out.cc.bel
 clear hb2 c0 c1 c2 c3 c4 d0 d1 d2 d3 d4
 have c0 := HQ2.out.cc.b1.cell 0; have c1 := HQ2.out.cc.b1.cell 1; have c2 := HQ2.out.cc.b1.cell 2; have c3 := HQ2.out.cc.b1.cell 3; have c4 := HQ2.out.cc.b1.cell 4
 have d0 := HQ2.out.cc.b2.cell 0; have d1 := HQ2.out.cc.b2.cell 1; have d2 := HQ2.out.cc.b2.cell 2; have d3 := HQ2.out.cc.b2.cell 3; have d4 := HQ2.out.cc.b2.cell 4
 have C0 := Lib.hid c0; have C1 := Lib.hid c1; have C2 := Lib.hid c2; have C3 := Lib.hid c3; have C4 := Lib.hid c4
 have D0 := Lib.hid d0; have D1 := Lib.hid d1; have D2 := Lib.hid d2; have D3 := Lib.hid d3; have D4 := Lib.hid d4
 obtain ⟨k, hk⟩ : ∃ k, k = C.length := ⟨_, rfl⟩
 have HK := Lib.hid hk; clear hk
 go_upto_region 4 with fail
 go_cut [7, 8] from 17 to 25 (fun t5 t6 wc => ∃ g UA uc, t6 = .int .i64 0 ∧ t5 = .pointer (some ⟨g, 0, none⟩) ∧ w2.heap.size ≤ g ∧ Hid (Blk wc g 27 [.int .i64 (n : Int), .slice UA k uc]) ∧ Hid (Sep w2.heap.size wc fun w9 => SS w9 (.slice UA k uc) C) ∧ Hid (Below w2.heap.size w2 wc))
 case first =>
  refine Kept.start (S := fun w' => w'.cell? ⟨w.heap.size, 0, none⟩ = some (.int .i64 P) ∧ w'.cell? ⟨w.heap.size, 1, none⟩ = some (.int .i64 M) ∧ w'.cell? ⟨w.heap.size, 2, none⟩ = some mv ∧ w'.cell? ⟨w.heap.size, 3, none⟩ = some (.int .i64 (n : Int)) ∧ w'.cell? ⟨w.heap.size, 4, none⟩ = some (.slice GA gl gc) ∧ w'.cell? ⟨w.heap.size + 1, 0, none⟩ = some (.int .i64 P) ∧ w'.cell? ⟨w.heap.size + 1, 1, none⟩ = some (.int .i64 M) ∧ w'.cell? ⟨w.heap.size + 1, 2, none⟩ = some mv2 ∧ w'.cell? ⟨w.heap.size + 1, 3, none⟩ = some (.int .i64 (n : Int)) ∧ w'.cell? ⟨w.heap.size + 1, 4, none⟩ = some (.slice GB kl kc)) (by kernel_rfl) (⟨c0, c1, c2, c3, c4, d0, d1, d2, d3, d4⟩) (fun hHeld => ?_)
  change Kept _ _ _ _ 13 _ _ _
  have hdrew := bl_drew w2
  generalize w2.drew = wq1 at hdrew hHeld ⊢
  have HBB := Lib.hid hdrew
  clear c0 c1 c2 c3 c4 d0 d1 d2 d3 d4
  clear hdrew
  refine Kept.tk 0 (v := ?_) rfl ?_ hHeld ?_
  rotate_left
  ·intro w' h; (try dsimp only at h); go_simp <;> with_reducible rfl
  try simp only [tda, tdb, tdc, Act.put, tdd, tde, tdf]
  refine Kept.tk 1 (v := ?_) rfl ?_ hHeld ?_
  rotate_left
  ·intro w' h; (try dsimp only at h); go_simp <;> with_reducible rfl
  try simp only [tda, tdb, tdc, Act.put, tdd, tde, tdf]
  refine Kept.tk 2 (v := ?_) rfl ?_ hHeld ?_
  rotate_left
  ·intro w' h; (try dsimp only at h); go_simp <;> with_reducible rfl
  try simp only [tda, tdb, tdc, Act.put, tdd, tde, tdf]
  refine Kept.tk 4 (v := ?_) rfl ?_ hHeld ?_
  rotate_left
  ·intro w' h; (try dsimp only at h); go_simp <;> with_reducible rfl
  try simp only [tda, tdb, tdc, Act.put, tdd, tde, tdf]
  refine Kept.two (i := 3) (j := 10) (oi := ?opa2) (oj := ?opb2) (by kernel_rfl) ?hoa2 ?hob2 (fun K hK => ?way12) (fun K hK => ?way22)
  case hoa2 => (conv => lhs; simp only [tdg, tdh, tdi])
  case hob2 => (conv => lhs; simp only [tdg, tdh, tdi])
  case way12 =>
   go_simp
   refine (cgen_any _ P M n mv GA gl gc).mono ?_
   rintro e wq3 ⟨rfl, hb⟩
   replace HBB := Lib.hid (bl_trans HBB.out hb)
   clear hb
   refine hK.out _ _ (⟨cb HBB C0, cb HBB C1, cb HBB C2, cb HBB C3, cb HBB C4, cb HBB D0, cb HBB D1, cb HBB D2, cb HBB D3, cb HBB D4⟩) (fun hHeld2 => ?_)
   clear hK K
   replace hHeld := hHeld2
   clear hHeld2
   try simp only [tda, tdb, tdc, Act.put, tdd, tde, tdf]
   refine Kept.two (i := 5) (j := 10) (oi := ?opa4) (oj := ?opb4) (by kernel_rfl) ?hoa4 ?hob4 (fun K hK => ?way14) (fun K hK => ?way24)
   case hoa4 => (conv => lhs; simp only [tdg, tdh, tdi])
   case hob4 => (conv => lhs; simp only [tdg, tdh, tdi])
   case way14 =>
    go_simp
    refine (cgen_any _ P M n mv2 GB kl kc).mono ?_
    rintro e wq5 ⟨rfl, hb⟩
    replace HBB := Lib.hid (bl_trans HBB.out hb)
    clear hb
    refine hK.out _ _ (⟨cb HBB C0, cb HBB C1, cb HBB C2, cb HBB C3, cb HBB C4, cb HBB D0, cb HBB D1, cb HBB D2, cb HBB D3, cb HBB D4⟩) (fun hHeld2 => ?_)
    clear hK K
    replace hHeld := hHeld2
    clear hHeld2
    try simp only [tda, tdb, tdc, Act.put, tdd, tde, tdf]
    refine Kept.two (i := 6) (j := 10) (oi := ?opa6) (oj := ?opb6) (by kernel_rfl) ?hoa6 ?hob6 (fun K hK => ?way16) (fun K hK => ?way26)
    case hoa6 => (conv => lhs; simp only [tdg, tdh, tdi])
    case hob6 => (conv => lhs; simp only [tdg, tdh, tdi])
    case way16 =>
     have hbs0 := HBB.out.size
     go_simp
     refine (HKE.out _ (bl_trans HB2.out HBB.out)).mono ?_
     rintro e wq7 ⟨u, rfl, hx, hb⟩
     obtain ⟨UA, uc, rfl, _⟩ := hx.out
     rw [← HK.out] at hx ⊢
     have HS4 := Lib.hid (hx.mono hbs0) 
     replace HBB := Lib.hid (bl_trans HBB.out hb)
     clear hb hx hbs0
     refine hK.out _ _ (⟨cb HBB C0, cb HBB C1, cb HBB C2, cb HBB C3, cb HBB C4, cb HBB D0, cb HBB D1, cb HBB D2, cb HBB D3, cb HBB D4⟩) (fun hHeld2 => ?_)
     clear hK K
     replace hHeld := hHeld2
     clear hHeld2
     try simp only [tda, tdb, tdc, Act.put, tdd, tde, tdf]
     refine Kept.tk 7 (v := ?_) rfl ?_ hHeld ?_
     rotate_left
     ·intro w' h; (try dsimp only at h); go_simp <;> with_reducible rfl
     try simp only [tda, tdb, tdc, Act.put, tdd, tde, tdf]
     refine Kept.tk 8 (v := ?_) rfl ?_ hHeld ?_
     rotate_left
     ·intro w' h; (try dsimp only at h); go_simp <;> with_reducible rfl
     try simp only [tda, tdb, tdc, Act.put, tdd, tde, tdf]
     refine Kept.tk 9 (v := ?_) rfl ?_ hHeld ?_
     rotate_left
     ·intro w' h; (try dsimp only at h); go_simp <;> with_reducible rfl
     try simp only [tda, tdb, tdc, Act.put, tdd, tde, tdf]
     refine Kept.only (i := 10) (o := ?op8) (by kernel_rfl) ?ho8 (fun K hK => ?_)
     case ho8 => (conv => lhs; simp only [tdg, tdh, tdi])
     go_simp
     obtain ⟨wq9, g, e1, e2, hX, hb⟩ := mk_box wq7 27 [.int .i64 0, .slice none 0 0]
     rw [e1, e2]
     have HBX := Lib.hid hX
     have hgi : w2.heap.size ≤ g := (by have := HBB.out.size; omega)
     have HSF : Hid (∀ w9, World.grownBy wq9 w9 (some g) → Sep w2.heap.size w9 fun w9 => SS w9 (.slice UA k uc) C) := hid' (fun w9 hg => sep_far HS4.out hb (by omega) hg) 
     replace HBB := Lib.hid (bl_trans HBB.out hb)
     clear e1 e2 hX hb
     refine hK.out _ _ (⟨cb HBB C0, cb HBB C1, cb HBB C2, cb HBB C3, cb HBB C4, cb HBB D0, cb HBB D1, cb HBB D2, cb HBB D3, cb HBB D4⟩) (fun hHeld2 => ?_)
     clear hK K
     replace hHeld := hHeld2
     clear hHeld2
     try simp only [tda, tdb, tdc, Act.put, tdd, tde, tdf]
     refine Kept.only (i := 11) (o := ?op10) (by kernel_rfl) ?ho10 (fun K hK => ?_)
     case ho10 => (conv => lhs; simp only [tdg, tdh, tdi])
     obtain ⟨b0, b1, f0, f1⟩ := HBX.out.two
     go_simp
     obtain ⟨wq11, h6, HL⟩ := lay2 (x := .int .i64 (n : Int)) (y := .slice UA k uc) HBX.out
     rw [h6]
     have HS6 := Lib.hid (HSF.out _ HL.gr)
     have HBY := Lib.hid HL.blk
     replace HBB := Lib.hid (HL.below HBB.out HBB.out.size hgi)
     clear b0 b1 f0 f1 h6 HL HBX
     refine hK.out _ _ (⟨cb HBB C0, cb HBB C1, cb HBB C2, cb HBB C3, cb HBB C4, cb HBB D0, cb HBB D1, cb HBB D2, cb HBB D3, cb HBB D4⟩) (fun hHeld2 => ?_)
     clear hK K
     replace hHeld := hHeld2
     clear hHeld2
     try simp only [tda, tdb, tdc, Act.put, tdd, tde, tdf]
     refine Kept.only (i := 12) (by kernel_rfl) rfl (fun K hK => ?_)
     go_simp
     refine hK.out _ _ hHeld (fun hHeld2 => ?_)
     clear hK K
     clear hHeld2
     refine Kept.done (by kernel_rfl) ?_
     try simp only [tda, tdb, tdc, Act.put, tdd, tde, tdf]
     clear hHeld
     go_wp2_with fail
     go_meet
     exact ⟨g, UA, uc, rfl, rfl, hgi, HBY, HS6, HBB⟩
    case way26 =>
     go_simp
     obtain ⟨wq12, g, e1, e2, hX, hb⟩ := mk_box wq5 27 [.int .i64 0, .slice none 0 0]
     rw [e1, e2]
     have HBX := Lib.hid hX
     have hgi : w2.heap.size ≤ g := (by have := HBB.out.size; omega)
     replace HBB := Lib.hid (bl_trans HBB.out hb)
     clear e1 e2 hX hb
     refine hK.out _ _ (⟨cb HBB C0, cb HBB C1, cb HBB C2, cb HBB C3, cb HBB C4, cb HBB D0, cb HBB D1, cb HBB D2, cb HBB D3, cb HBB D4⟩) (fun hHeld2 => ?_)
     clear hK K
     replace hHeld := hHeld2
     clear hHeld2
     try simp only [tda, tdb, tdc, Act.put, tdd, tde, tdf]
     refine Kept.only (i := 6) (o := ?op13) (by kernel_rfl) ?ho13 (fun K hK => ?_)
     case ho13 => (conv => lhs; simp only [tdg, tdh, tdi])
     have hbs0 := HBB.out.size
     go_simp
     refine (HKE.out _ (bl_trans HB2.out HBB.out)).mono ?_
     rintro e wq14 ⟨u, rfl, hx, hb⟩
     obtain ⟨UA, uc, rfl, _⟩ := hx.out
     rw [← HK.out] at hx ⊢
     have hglt := HBX.out.lt 
     have HSF : Hid (∀ w9, World.grownBy wq14 w9 (some g) → Sep w2.heap.size w9 fun w9 => SS w9 (.slice UA k uc) C) := hid' (fun w9 hg => (hx.grown hg (by rintro b e; cases e; exact hglt)).mono hbs0) 
     clear hglt 
     replace HBX := Lib.hid (HBX.out.belowS hb) 
     replace HBB := Lib.hid (bl_trans HBB.out hb)
     clear hb hx hbs0
     refine hK.out _ _ (⟨cb HBB C0, cb HBB C1, cb HBB C2, cb HBB C3, cb HBB C4, cb HBB D0, cb HBB D1, cb HBB D2, cb HBB D3, cb HBB D4⟩) (fun hHeld2 => ?_)
     clear hK K
     replace hHeld := hHeld2
     clear hHeld2
     try simp only [tda, tdb, tdc, Act.put, tdd, tde, tdf]
     refine Kept.tk 7 (v := ?_) rfl ?_ hHeld ?_
     rotate_left
     ·intro w' h; (try dsimp only at h); go_simp <;> with_reducible rfl
     try simp only [tda, tdb, tdc, Act.put, tdd, tde, tdf]
     refine Kept.tk 8 (v := ?_) rfl ?_ hHeld ?_
     rotate_left
     ·intro w' h; (try dsimp only at h); go_simp <;> with_reducible rfl
     try simp only [tda, tdb, tdc, Act.put, tdd, tde, tdf]
     refine Kept.tk 9 (v := ?_) rfl ?_ hHeld ?_
     rotate_left
     ·intro w' h; (try dsimp only at h); go_simp <;> with_reducible rfl
     try simp only [tda, tdb, tdc, Act.put, tdd, tde, tdf]
     refine Kept.only (i := 11) (o := ?op15) (by kernel_rfl) ?ho15 (fun K hK => ?_)
     case ho15 => (conv => lhs; simp only [tdg, tdh, tdi])
     obtain ⟨b0, b1, f0, f1⟩ := HBX.out.two
     go_simp
     obtain ⟨wq16, h6, HL⟩ := lay2 (x := .int .i64 (n : Int)) (y := .slice UA k uc) HBX.out
     rw [h6]
     have HS6 := Lib.hid (HSF.out _ HL.gr)
     have HBY := Lib.hid HL.blk
     replace HBB := Lib.hid (HL.below HBB.out HBB.out.size hgi)
     clear b0 b1 f0 f1 h6 HL HBX
     refine hK.out _ _ (⟨cb HBB C0, cb HBB C1, cb HBB C2, cb HBB C3, cb HBB C4, cb HBB D0, cb HBB D1, cb HBB D2, cb HBB D3, cb HBB D4⟩) (fun hHeld2 => ?_)
     clear hK K
     replace hHeld := hHeld2
     clear hHeld2
     try simp only [tda, tdb, tdc, Act.put, tdd, tde, tdf]
     refine Kept.only (i := 12) (by kernel_rfl) rfl (fun K hK => ?_)
     go_simp
     refine hK.out _ _ hHeld (fun hHeld2 => ?_)
     clear hK K
     clear hHeld2
     refine Kept.done (by kernel_rfl) ?_
     try simp only [tda, tdb, tdc, Act.put, tdd, tde, tdf]
     clear hHeld
     go_wp2_with fail
     go_meet
     exact ⟨g, UA, uc, rfl, rfl, hgi, HBY, HS6, HBB⟩
   case way24 =>
    go_simp
    obtain ⟨wq17, g, e1, e2, hX, hb⟩ := mk_box wq3 27 [.int .i64 0, .slice none 0 0]
    rw [e1, e2]
    have HBX := Lib.hid hX
    have hgi : w2.heap.size ≤ g := (by have := HBB.out.size; omega)
    replace HBB := Lib.hid (bl_trans HBB.out hb)
    clear e1 e2 hX hb
    refine hK.out _ _ (⟨cb HBB C0, cb HBB C1, cb HBB C2, cb HBB C3, cb HBB C4, cb HBB D0, cb HBB D1, cb HBB D2, cb HBB D3, cb HBB D4⟩) (fun hHeld2 => ?_)
    clear hK K
    replace hHeld := hHeld2
    clear hHeld2
    try simp only [tda, tdb, tdc, Act.put, tdd, tde, tdf]
    refine Kept.only (i := 5) (o := ?op18) (by kernel_rfl) ?ho18 (fun K hK => ?_)
    case ho18 => (conv => lhs; simp only [tdg, tdh, tdi])
    go_simp
    refine (cgen_any _ P M n mv2 GB kl kc).mono ?_
    rintro e wq19 ⟨rfl, hb⟩
    replace HBX := Lib.hid (HBX.out.belowS hb) 
    replace HBB := Lib.hid (bl_trans HBB.out hb)
    clear hb
    refine hK.out _ _ (⟨cb HBB C0, cb HBB C1, cb HBB C2, cb HBB C3, cb HBB C4, cb HBB D0, cb HBB D1, cb HBB D2, cb HBB D3, cb HBB D4⟩) (fun hHeld2 => ?_)
    clear hK K
    replace hHeld := hHeld2
    clear hHeld2
    try simp only [tda, tdb, tdc, Act.put, tdd, tde, tdf]
    refine Kept.only (i := 6) (o := ?op20) (by kernel_rfl) ?ho20 (fun K hK => ?_)
    case ho20 => (conv => lhs; simp only [tdg, tdh, tdi])
    have hbs0 := HBB.out.size
    go_simp
    refine (HKE.out _ (bl_trans HB2.out HBB.out)).mono ?_
    rintro e wq21 ⟨u, rfl, hx, hb⟩
    obtain ⟨UA, uc, rfl, _⟩ := hx.out
    rw [← HK.out] at hx ⊢
    have hglt := HBX.out.lt 
    have HSF : Hid (∀ w9, World.grownBy wq21 w9 (some g) → Sep w2.heap.size w9 fun w9 => SS w9 (.slice UA k uc) C) := hid' (fun w9 hg => (hx.grown hg (by rintro b e; cases e; exact hglt)).mono hbs0) 
    clear hglt 
    replace HBX := Lib.hid (HBX.out.belowS hb) 
    replace HBB := Lib.hid (bl_trans HBB.out hb)
    clear hb hx hbs0
    refine hK.out _ _ (⟨cb HBB C0, cb HBB C1, cb HBB C2, cb HBB C3, cb HBB C4, cb HBB D0, cb HBB D1, cb HBB D2, cb HBB D3, cb HBB D4⟩) (fun hHeld2 => ?_)
    clear hK K
    replace hHeld := hHeld2
    clear hHeld2
    try simp only [tda, tdb, tdc, Act.put, tdd, tde, tdf]
    refine Kept.tk 7 (v := ?_) rfl ?_ hHeld ?_
    rotate_left
    ·intro w' h; (try dsimp only at h); go_simp <;> with_reducible rfl
    try simp only [tda, tdb, tdc, Act.put, tdd, tde, tdf]
    refine Kept.tk 8 (v := ?_) rfl ?_ hHeld ?_
    rotate_left
    ·intro w' h; (try dsimp only at h); go_simp <;> with_reducible rfl
    try simp only [tda, tdb, tdc, Act.put, tdd, tde, tdf]
    refine Kept.tk 9 (v := ?_) rfl ?_ hHeld ?_
    rotate_left
    ·intro w' h; (try dsimp only at h); go_simp <;> with_reducible rfl
    try simp only [tda, tdb, tdc, Act.put, tdd, tde, tdf]
    refine Kept.only (i := 11) (o := ?op22) (by kernel_rfl) ?ho22 (fun K hK => ?_)
    case ho22 => (conv => lhs; simp only [tdg, tdh, tdi])
    obtain ⟨b0, b1, f0, f1⟩ := HBX.out.two
    go_simp
    obtain ⟨wq23, h6, HL⟩ := lay2 (x := .int .i64 (n : Int)) (y := .slice UA k uc) HBX.out
    rw [h6]
    have HS6 := Lib.hid (HSF.out _ HL.gr)
    have HBY := Lib.hid HL.blk
    replace HBB := Lib.hid (HL.below HBB.out HBB.out.size hgi)
    clear b0 b1 f0 f1 h6 HL HBX
    refine hK.out _ _ (⟨cb HBB C0, cb HBB C1, cb HBB C2, cb HBB C3, cb HBB C4, cb HBB D0, cb HBB D1, cb HBB D2, cb HBB D3, cb HBB D4⟩) (fun hHeld2 => ?_)
    clear hK K
    replace hHeld := hHeld2
    clear hHeld2
    try simp only [tda, tdb, tdc, Act.put, tdd, tde, tdf]
    refine Kept.only (i := 12) (by kernel_rfl) rfl (fun K hK => ?_)
    go_simp
    refine hK.out _ _ hHeld (fun hHeld2 => ?_)
    clear hK K
    clear hHeld2
    refine Kept.done (by kernel_rfl) ?_
    try simp only [tda, tdb, tdc, Act.put, tdd, tde, tdf]
    clear hHeld
    go_wp2_with fail
    go_meet
    exact ⟨g, UA, uc, rfl, rfl, hgi, HBY, HS6, HBB⟩
  case way22 =>
   go_simp
   obtain ⟨wq24, g, e1, e2, hX, hb⟩ := mk_box wq1 27 [.int .i64 0, .slice none 0 0]
   rw [e1, e2]
   have HBX := Lib.hid hX
   have hgi : w2.heap.size ≤ g := (by have := HBB.out.size; omega)
   replace HBB := Lib.hid (bl_trans HBB.out hb)
   clear e1 e2 hX hb
   refine hK.out _ _ (⟨cb HBB C0, cb HBB C1, cb HBB C2, cb HBB C3, cb HBB C4, cb HBB D0, cb HBB D1, cb HBB D2, cb HBB D3, cb HBB D4⟩) (fun hHeld2 => ?_)
   clear hK K
   replace hHeld := hHeld2
   clear hHeld2
   try simp only [tda, tdb, tdc, Act.put, tdd, tde, tdf]
   refine Kept.only (i := 3) (o := ?op25) (by kernel_rfl) ?ho25 (fun K hK => ?_)
   case ho25 => (conv => lhs; simp only [tdg, tdh, tdi])
   go_simp
   refine (cgen_any _ P M n mv GA gl gc).mono ?_
   rintro e wq26 ⟨rfl, hb⟩
   replace HBX := Lib.hid (HBX.out.belowS hb) 
   replace HBB := Lib.hid (bl_trans HBB.out hb)
   clear hb
   refine hK.out _ _ (⟨cb HBB C0, cb HBB C1, cb HBB C2, cb HBB C3, cb HBB C4, cb HBB D0, cb HBB D1, cb HBB D2, cb HBB D3, cb HBB D4⟩) (fun hHeld2 => ?_)
   clear hK K
   replace hHeld := hHeld2
   clear hHeld2
   try simp only [tda, tdb, tdc, Act.put, tdd, tde, tdf]
   refine Kept.only (i := 5) (o := ?op27) (by kernel_rfl) ?ho27 (fun K hK => ?_)
   case ho27 => (conv => lhs; simp only [tdg, tdh, tdi])
   go_simp
   refine (cgen_any _ P M n mv2 GB kl kc).mono ?_
   rintro e wq28 ⟨rfl, hb⟩
   replace HBX := Lib.hid (HBX.out.belowS hb) 
   replace HBB := Lib.hid (bl_trans HBB.out hb)
   clear hb
   refine hK.out _ _ (⟨cb HBB C0, cb HBB C1, cb HBB C2, cb HBB C3, cb HBB C4, cb HBB D0, cb HBB D1, cb HBB D2, cb HBB D3, cb HBB D4⟩) (fun hHeld2 => ?_)
   clear hK K
   replace hHeld := hHeld2
   clear hHeld2
   try simp only [tda, tdb, tdc, Act.put, tdd, tde, tdf]
   refine Kept.only (i := 6) (o := ?op29) (by kernel_rfl) ?ho29 (fun K hK => ?_)
   case ho29 => (conv => lhs; simp only [tdg, tdh, tdi])
   have hbs0 := HBB.out.size
   go_simp
   refine (HKE.out _ (bl_trans HB2.out HBB.out)).mono ?_
   rintro e wq30 ⟨u, rfl, hx, hb⟩
   obtain ⟨UA, uc, rfl, _⟩ := hx.out
   rw [← HK.out] at hx ⊢
   have hglt := HBX.out.lt 
   have HSF : Hid (∀ w9, World.grownBy wq30 w9 (some g) → Sep w2.heap.size w9 fun w9 => SS w9 (.slice UA k uc) C) := hid' (fun w9 hg => (hx.grown hg (by rintro b e; cases e; exact hglt)).mono hbs0) 
   clear hglt 
   replace HBX := Lib.hid (HBX.out.belowS hb) 
   replace HBB := Lib.hid (bl_trans HBB.out hb)
   clear hb hx hbs0
   refine hK.out _ _ (⟨cb HBB C0, cb HBB C1, cb HBB C2, cb HBB C3, cb HBB C4, cb HBB D0, cb HBB D1, cb HBB D2, cb HBB D3, cb HBB D4⟩) (fun hHeld2 => ?_)
   clear hK K
   replace hHeld := hHeld2
   clear hHeld2
   try simp only [tda, tdb, tdc, Act.put, tdd, tde, tdf]
   refine Kept.tk 7 (v := ?_) rfl ?_ hHeld ?_
   rotate_left
   ·intro w' h; (try dsimp only at h); go_simp <;> with_reducible rfl
   try simp only [tda, tdb, tdc, Act.put, tdd, tde, tdf]
   refine Kept.tk 8 (v := ?_) rfl ?_ hHeld ?_
   rotate_left
   ·intro w' h; (try dsimp only at h); go_simp <;> with_reducible rfl
   try simp only [tda, tdb, tdc, Act.put, tdd, tde, tdf]
   refine Kept.tk 9 (v := ?_) rfl ?_ hHeld ?_
   rotate_left
   ·intro w' h; (try dsimp only at h); go_simp <;> with_reducible rfl
   try simp only [tda, tdb, tdc, Act.put, tdd, tde, tdf]
   refine Kept.only (i := 11) (o := ?op31) (by kernel_rfl) ?ho31 (fun K hK => ?_)
   case ho31 => (conv => lhs; simp only [tdg, tdh, tdi])
   obtain ⟨b0, b1, f0, f1⟩ := HBX.out.two
   go_simp
   obtain ⟨wq32, h6, HL⟩ := lay2 (x := .int .i64 (n : Int)) (y := .slice UA k uc) HBX.out
   rw [h6]
   have HS6 := Lib.hid (HSF.out _ HL.gr)
   have HBY := Lib.hid HL.blk
   replace HBB := Lib.hid (HL.below HBB.out HBB.out.size hgi)
   clear b0 b1 f0 f1 h6 HL HBX
   refine hK.out _ _ (⟨cb HBB C0, cb HBB C1, cb HBB C2, cb HBB C3, cb HBB C4, cb HBB D0, cb HBB D1, cb HBB D2, cb HBB D3, cb HBB D4⟩) (fun hHeld2 => ?_)
   clear hK K
   replace hHeld := hHeld2
   clear hHeld2
   try simp only [tda, tdb, tdc, Act.put, tdd, tde, tdf]
   refine Kept.only (i := 12) (by kernel_rfl) rfl (fun K hK => ?_)
   go_simp
   refine hK.out _ _ hHeld (fun hHeld2 => ?_)
   clear hK K
   clear hHeld2
   refine Kept.done (by kernel_rfl) ?_
   try simp only [tda, tdb, tdc, Act.put, tdd, tde, tdf]
   clear hHeld
   go_wp2_with fail
   go_meet
   exact ⟨g, UA, uc, rfl, rfl, hgi, HBY, HS6, HBB⟩
 case rest =>
  clear c0 c1 c2 c3 c4 d0 d1 d2 d3 d4
  obtain ⟨g, UA, uc, rfl, rfl, hg, HBY, HS5, HBB⟩ := hcut
  have HQ3 := Lib.hid (HQ2.out.on HBB.out)
  have hs2 := HBB.out.size
  clear C0 C1 C2 C3 C4 D0 D1 D2 D3 D4
  have x0 : wc.cell? ⟨g, 0, none⟩ = some (.int .i64 (n : Int)) := HBY.out.cell 0
  have x1 : wc.cell? ⟨g, 1, none⟩ = some (.slice UA k uc) := HBY.out.cell 1
  have c0 := HQ3.out.cc.b1.cell 0; have c1 := HQ3.out.cc.b1.cell 1; have c2 := HQ3.out.cc.b1.cell 2
  go_wp2_with fail
  refine (HOF.out wc _ _ _ HQ3.out.cc.bel).mono ?_
  rintro e w5 ⟨u5, rfl, hu5, hb5⟩
  obtain ⟨UA5, uc5, rfl⟩ := hu5.form'
  have HQ5 := Lib.hid (HQ3.out.on hb5); have HX5 := Lib.hid (HS5.out.on hb5)
  have HU5 := Lib.hid (hu5.sep HML.out HMW.out)
  have hs1 := HQ2.out.cc.bel.size
  have hs3 := HQ3.out.cc.bel.size
  have hq2 := HQ2.out.q.lt
  have hq3 := HQ3.out.q.lt
  clear hu5 hb5 c0 c1 c2 x0 x1
  obtain ⟨y0, y1, y2, y3, y4, f0, f1, f2, f3, f4⟩ := HQ5.out.q.five
  go_wp2_with fail
  obtain ⟨wz, hz, HL⟩ := lay5 (x := .int .i64 P) (y := .int .i64 M) (z := .slice UA5 Mod.length uc5) (u := .int .i64 (n : Int)) (v := .slice UA k uc) HQ5.out.q
  rw [hz]
  have q0 := HL.c0; have q1 := HL.c1; have q2 := HL.c2; have q3 := HL.c3; have q4 := HL.c4
  refine bodyPost_ret (v := .tuple #[.agg #[.int .i64 P, .int .i64 M, .slice UA5 Mod.length uc5, .int .i64 (n : Int), .slice UA k uc], .int .i64 0]) (by simp [results, Try.results37, go_sem, q0, q1, q2, q3, q4]) rfl ?_
  exact ⟨_, _, rfl, ((HU5.out.grown HL.gr (by rintro b e; cases e; omega)).mono hs3).and ((HX5.out.grown HL.gr (by rintro b e; cases e; omega)).mono hs1), HL.below HQ5.out.cc.bel HQ5.out.cc.bel.size (by omega)⟩
set_option maxHeartbeats 32000000 in
theorem cSyndrome_ok (w : World) (P M : Int) (n : Nat) (mv gv : Value) (Mod : List Int) (gen : List (List Int)) (hm : SI w mv Mod) (hg : SS w gv gen) (xv : Value) (x : List Int) (hx : SI w xv x) (hW : wordE P M Mod n gen x = 0) :
  Calls Try.prog 13 #[.agg #[.int .i64 P, .int .i64 M, mv, .int .i64 (n : Int), gv], xv] w (RetLA w (synL (refOps P M Mod) gen n x) 0) := by
 have HCK := Lib.hid (fun (w' : World) (hb : Below w.heap.size w w') => cWord_any w' P M n mv gv xv Mod x gen (hm.below hb (Nat.le_refl _)) (hg.below hb (Nat.le_refl _)) (hx.below hb (Nat.le_refl _)))
 rw [hW] at HCK
 obtain ⟨N2, e2, hC⟩ := wordE_zero hW
 obtain rfl : n = N2 := by omega
 have hf := hC.sp.fld
 have hE := hC.code
 have hmat : matE P M Mod n gen = 0 := by
  obtain ⟨h1, h2, h3, h4, h5, h6⟩ := codeE_zero hE
  rw [Int.toNat_natCast] at h5
  exact matE_mk h1 (by omega) h4 h5
 have hO := hC.sp.hO
 have hCn := Cn.null hO hC.sp.rref.rows
 have hle := hCn.le
 have h64 := hC.n2
 have hxl := hC.len
 have hob := orderF_bounds P M
 have HRL : Hid (∀ k, k < (nullL (refOps P M Mod) gen n).length → ((nullL (refOps P M Mod) gen n).getD k []).length = n) := hid' fun k hk => (hCn.rows k hk).1
 have HDR : Hid (∀ k, k < (nullL (refOps P M Mod) gen n).length → 0 ≤ dotL (refOps P M Mod) ((nullL (refOps P M Mod) gen n).getD k []) x n ∧ dotL (refOps P M Mod) ((nullL (refOps P M Mod) gen n).getD k []) x n ≤ 256) := hid' fun k hk => by have := dotL_rng hO ((nullL (refOps P M Mod) gen n).getD k []) x n; omega
 have HSY := Lib.hid (dotsL_all (refOps P M Mod) gen n x)
 have HKE := Lib.hid (fun (w' : World) (hb : Below w.heap.size w w') => mKernel_ok w' P M n mv gv Mod gen (hm.below hb (Nat.le_refl _)) (hg.below hb (Nat.le_refl _)) hmat)
 have HNW := Lib.hid (fun (w' : World) (hb : Below w.heap.size w w') => new_ok w' P M mv Mod (hm.below hb (Nat.le_refl _)) hf)
 have HX := Lib.hid hx
 unfold RetMx at HKE
 have HSU := Lib.hid (fun k => dotsL_succ (refOps P M Mod) (nullL (refOps P M Mod) gen n) n x k)
 have HDL := Lib.hid (fun k => dotsL_len (refOps P M Mod) (nullL (refOps P M Mod) gen n) n x k)
 have HZ0 : Hid (dotsL (refOps P M Mod) (nullL (refOps P M Mod) gen n) n x 0 = []) := hid' rfl
 obtain ⟨GA, gc, rfl, _⟩ := hg
 obtain ⟨XA, xc, rfl, _⟩ := hx
 rw [hxl] at HX HCK ⊢
 have HXL := Lib.hid hxl
 generalize gen.length = gl at *
 clear hm hW hE hmat hf e2 hC hxl hob hCn
 rw [← HSY.out]
 clear HSY
 generalize nullL (refOps P M Mod) gen n = C at *
 obtain ⟨m, hk⟩ : ∃ m, m = C.length := ⟨_, rfl⟩
 have hm64 : m ≤ 64 := by omega
 rw [← hk]
 have HK := Lib.hid hk; clear hk
 have HF := Lib.hid (CBox.mk' w P M mv n (.slice GA gl gc))
 go_enter Try.func13, Try.ntmps13
 go_upto_region 1 with fail
 generalize w.alloc (.cells #[.int .i64 P, .int .i64 M, mv, .int .i64 (n : Int), .slice GA gl gc] 32) = w0 at *
 have c0 := HF.out.c0; have c1 := HF.out.c1; have c2 := HF.out.c2; have c3 := HF.out.c3; have c4 := HF.out.c4
 go_wp2_with fail
 refine (HCK.out w0 HF.out.bel).mono ?_
 rintro e w2 ⟨rfl, hb2⟩
 have HF2 := Lib.hid (HF.out.on hb2)
 have HB2 := Lib.hid HF2.out.bel
 clear hb2 c0 c1 c2 c3 c4
 have c0 := HF2.out.c0; have c1 := HF2.out.c1; have c2 := HF2.out.c2; have c3 := HF2.out.c3; have c4 := HF2.out.c4
 have C0 := Lib.hid c0; have C1 := Lib.hid c1; have C2 := Lib.hid c2; have C3 := Lib.hid c3; have C4 := Lib.hid c4
 go_upto_region 4 with fail
 go_cut [7, 8] from 20 to 26 (fun t5 t6 wc => ∃ g UA uc, t6 = .int .i64 0 ∧ t5 = .pointer (some ⟨g, 0, none⟩) ∧ w2.heap.size ≤ g ∧ Hid (Blk wc g 27 [.int .i64 (n : Int), .slice UA m uc]) ∧ Hid (Sep w2.heap.size wc fun w9 => SS w9 (.slice UA m uc) C) ∧ Hid (Below w2.heap.size w2 wc))
 case first =>
  refine Kept.start (S := fun w' => w'.cell? ⟨w.heap.size, 0, none⟩ = some (.int .i64 P) ∧ w'.cell? ⟨w.heap.size, 1, none⟩ = some (.int .i64 M) ∧ w'.cell? ⟨w.heap.size, 2, none⟩ = some mv ∧ w'.cell? ⟨w.heap.size, 3, none⟩ = some (.int .i64 (n : Int)) ∧ w'.cell? ⟨w.heap.size, 4, none⟩ = some (.slice GA gl gc)) (by kernel_rfl) (⟨c0, c1, c2, c3, c4⟩) (fun hHeld => ?_)
  change Kept _ _ _ _ 11 _ _ _
  have hdrew := bl_drew w2
  generalize w2.drew = wq1 at hdrew hHeld ⊢
  have HBB := Lib.hid hdrew
  clear c0 c1 c2 c3 c4
  clear hdrew
  refine Kept.tk 0 (v := ?_) rfl ?_ hHeld ?_
  rotate_left
  ·intro w' h; (try dsimp only at h); go_simp <;> with_reducible rfl
  try simp only [tda, tdb, tdc, Act.put, tdd, tde, tdf]
  refine Kept.tk 1 (v := ?_) rfl ?_ hHeld ?_
  rotate_left
  ·intro w' h; (try dsimp only at h); go_simp <;> with_reducible rfl
  try simp only [tda, tdb, tdc, Act.put, tdd, tde, tdf]
  refine Kept.tk 2 (v := ?_) rfl ?_ hHeld ?_
  rotate_left
  ·intro w' h; (try dsimp only at h); go_simp <;> with_reducible rfl
  try simp only [tda, tdb, tdc, Act.put, tdd, tde, tdf]
  refine Kept.two (i := 3) (j := 8) (oi := ?opa2) (oj := ?opb2) (by kernel_rfl) ?hoa2 ?hob2 (fun K hK => ?way12) (fun K hK => ?way22)
  case hoa2 => (conv => lhs; simp only [tdg, tdh, tdi])
  case hob2 => (conv => lhs; simp only [tdg, tdh, tdi])
  case way12 =>
   go_simp
   refine (cgen_any _ P M n mv GA gl gc).mono ?_
   rintro e wq3 ⟨rfl, hb⟩
   replace HBB := Lib.hid (bl_trans HBB.out hb)
   clear hb
   refine hK.out _ _ (⟨cb HBB C0, cb HBB C1, cb HBB C2, cb HBB C3, cb HBB C4⟩) (fun hHeld2 => ?_)
   clear hK K
   replace hHeld := hHeld2
   clear hHeld2
   try simp only [tda, tdb, tdc, Act.put, tdd, tde, tdf]
   refine Kept.two (i := 4) (j := 8) (oi := ?opa4) (oj := ?opb4) (by kernel_rfl) ?hoa4 ?hob4 (fun K hK => ?way14) (fun K hK => ?way24)
   case hoa4 => (conv => lhs; simp only [tdg, tdh, tdi])
   case hob4 => (conv => lhs; simp only [tdg, tdh, tdi])
   case way14 =>
    have hbs0 := HBB.out.size
    go_simp
    refine (HKE.out _ (bl_trans HB2.out HBB.out)).mono ?_
    rintro e wq5 ⟨u, rfl, hx, hb⟩
    obtain ⟨UA, uc, rfl, _⟩ := hx.out
    rw [← HK.out] at hx ⊢
    have HS4 := Lib.hid (hx.mono hbs0) 
    replace HBB := Lib.hid (bl_trans HBB.out hb)
    clear hb hx hbs0
    refine hK.out _ _ (⟨cb HBB C0, cb HBB C1, cb HBB C2, cb HBB C3, cb HBB C4⟩) (fun hHeld2 => ?_)
    clear hK K
    replace hHeld := hHeld2
    clear hHeld2
    try simp only [tda, tdb, tdc, Act.put, tdd, tde, tdf]
    refine Kept.tk 5 (v := ?_) rfl ?_ hHeld ?_
    rotate_left
    ·intro w' h; (try dsimp only at h); go_simp <;> with_reducible rfl
    try simp only [tda, tdb, tdc, Act.put, tdd, tde, tdf]
    refine Kept.tk 6 (v := ?_) rfl ?_ hHeld ?_
    rotate_left
    ·intro w' h; (try dsimp only at h); go_simp <;> with_reducible rfl
    try simp only [tda, tdb, tdc, Act.put, tdd, tde, tdf]
    refine Kept.tk 7 (v := ?_) rfl ?_ hHeld ?_
    rotate_left
    ·intro w' h; (try dsimp only at h); go_simp <;> with_reducible rfl
    try simp only [tda, tdb, tdc, Act.put, tdd, tde, tdf]
    refine Kept.only (i := 8) (o := ?op6) (by kernel_rfl) ?ho6 (fun K hK => ?_)
    case ho6 => (conv => lhs; simp only [tdg, tdh, tdi])
    go_simp
    obtain ⟨wq7, g, e1, e2, hX, hb⟩ := mk_box wq5 27 [.int .i64 0, .slice none 0 0]
    rw [e1, e2]
    have HBX := Lib.hid hX
    have hgi : w2.heap.size ≤ g := (by have := HBB.out.size; omega)
    have HSF : Hid (∀ w9, World.grownBy wq7 w9 (some g) → Sep w2.heap.size w9 fun w9 => SS w9 (.slice UA m uc) C) := hid' (fun w9 hg => sep_far HS4.out hb (by omega) hg) 
    replace HBB := Lib.hid (bl_trans HBB.out hb)
    clear e1 e2 hX hb
    refine hK.out _ _ (⟨cb HBB C0, cb HBB C1, cb HBB C2, cb HBB C3, cb HBB C4⟩) (fun hHeld2 => ?_)
    clear hK K
    replace hHeld := hHeld2
    clear hHeld2
    try simp only [tda, tdb, tdc, Act.put, tdd, tde, tdf]
    refine Kept.only (i := 9) (o := ?op8) (by kernel_rfl) ?ho8 (fun K hK => ?_)
    case ho8 => (conv => lhs; simp only [tdg, tdh, tdi])
    obtain ⟨b0, b1, f0, f1⟩ := HBX.out.two
    go_simp
    obtain ⟨wq9, h6, HL⟩ := lay2 (x := .int .i64 (n : Int)) (y := .slice UA m uc) HBX.out
    rw [h6]
    have HS6 := Lib.hid (HSF.out _ HL.gr)
    have HBY := Lib.hid HL.blk
    replace HBB := Lib.hid (HL.below HBB.out HBB.out.size hgi)
    clear b0 b1 f0 f1 h6 HL HBX
    refine hK.out _ _ (⟨cb HBB C0, cb HBB C1, cb HBB C2, cb HBB C3, cb HBB C4⟩) (fun hHeld2 => ?_)
    clear hK K
    replace hHeld := hHeld2
    clear hHeld2
    try simp only [tda, tdb, tdc, Act.put, tdd, tde, tdf]
    refine Kept.only (i := 10) (by kernel_rfl) rfl (fun K hK => ?_)
    go_simp
    refine hK.out _ _ hHeld (fun hHeld2 => ?_)
    clear hK K
    clear hHeld2
    refine Kept.done (by kernel_rfl) ?_
    try simp only [tda, tdb, tdc, Act.put, tdd, tde, tdf]
    clear hHeld
    go_wp2_with fail
    go_meet
    exact ⟨g, UA, uc, rfl, rfl, hgi, HBY, HS6, HBB⟩
   case way24 =>
    go_simp
    obtain ⟨wq10, g, e1, e2, hX, hb⟩ := mk_box wq3 27 [.int .i64 0, .slice none 0 0]
    rw [e1, e2]
    have HBX := Lib.hid hX
    have hgi : w2.heap.size ≤ g := (by have := HBB.out.size; omega)
    replace HBB := Lib.hid (bl_trans HBB.out hb)
    clear e1 e2 hX hb
    refine hK.out _ _ (⟨cb HBB C0, cb HBB C1, cb HBB C2, cb HBB C3, cb HBB C4⟩) (fun hHeld2 => ?_)
    clear hK K
    replace hHeld := hHeld2
    clear hHeld2
    try simp only [tda, tdb, tdc, Act.put, tdd, tde, tdf]
    refine Kept.only (i := 4) (o := ?op11) (by kernel_rfl) ?ho11 (fun K hK => ?_)
    case ho11 => (conv => lhs; simp only [tdg, tdh, tdi])
    have hbs0 := HBB.out.size
    go_simp
    refine (HKE.out _ (bl_trans HB2.out HBB.out)).mono ?_
    rintro e wq12 ⟨u, rfl, hx, hb⟩
    obtain ⟨UA, uc, rfl, _⟩ := hx.out
    rw [← HK.out] at hx ⊢
    have hglt := HBX.out.lt 
    have HSF : Hid (∀ w9, World.grownBy wq12 w9 (some g) → Sep w2.heap.size w9 fun w9 => SS w9 (.slice UA m uc) C) := hid' (fun w9 hg => (hx.grown hg (by rintro b e; cases e; exact hglt)).mono hbs0) 
    clear hglt 
    replace HBX := Lib.hid (HBX.out.belowS hb) 
    replace HBB := Lib.hid (bl_trans HBB.out hb)
    clear hb hx hbs0
    refine hK.out _ _ (⟨cb HBB C0, cb HBB C1, cb HBB C2, cb HBB C3, cb HBB C4⟩) (fun hHeld2 => ?_)
    clear hK K
    replace hHeld := hHeld2
    clear hHeld2
    try simp only [tda, tdb, tdc, Act.put, tdd, tde, tdf]
    refine Kept.tk 5 (v := ?_) rfl ?_ hHeld ?_
    rotate_left
    ·intro w' h; (try dsimp only at h); go_simp <;> with_reducible rfl
    try simp only [tda, tdb, tdc, Act.put, tdd, tde, tdf]
    refine Kept.tk 6 (v := ?_) rfl ?_ hHeld ?_
    rotate_left
    ·intro w' h; (try dsimp only at h); go_simp <;> with_reducible rfl
    try simp only [tda, tdb, tdc, Act.put, tdd, tde, tdf]
    refine Kept.tk 7 (v := ?_) rfl ?_ hHeld ?_
    rotate_left
    ·intro w' h; (try dsimp only at h); go_simp <;> with_reducible rfl
    try simp only [tda, tdb, tdc, Act.put, tdd, tde, tdf]
    refine Kept.only (i := 9) (o := ?op13) (by kernel_rfl) ?ho13 (fun K hK => ?_)
    case ho13 => (conv => lhs; simp only [tdg, tdh, tdi])
    obtain ⟨b0, b1, f0, f1⟩ := HBX.out.two
    go_simp
    obtain ⟨wq14, h6, HL⟩ := lay2 (x := .int .i64 (n : Int)) (y := .slice UA m uc) HBX.out
    rw [h6]
    have HS6 := Lib.hid (HSF.out _ HL.gr)
    have HBY := Lib.hid HL.blk
    replace HBB := Lib.hid (HL.below HBB.out HBB.out.size hgi)
    clear b0 b1 f0 f1 h6 HL HBX
    refine hK.out _ _ (⟨cb HBB C0, cb HBB C1, cb HBB C2, cb HBB C3, cb HBB C4⟩) (fun hHeld2 => ?_)
    clear hK K
    replace hHeld := hHeld2
    clear hHeld2
    try simp only [tda, tdb, tdc, Act.put, tdd, tde, tdf]
    refine Kept.only (i := 10) (by kernel_rfl) rfl (fun K hK => ?_)
    go_simp
    refine hK.out _ _ hHeld (fun hHeld2 => ?_)
    clear hK K
    clear hHeld2
    refine Kept.done (by kernel_rfl) ?_
    try simp only [tda, tdb, tdc, Act.put, tdd, tde, tdf]
    clear hHeld
    go_wp2_with fail
    go_meet
    exact ⟨g, UA, uc, rfl, rfl, hgi, HBY, HS6, HBB⟩
  case way22 =>
   go_simp
   obtain ⟨wq15, g, e1, e2, hX, hb⟩ := mk_box wq1 27 [.int .i64 0, .slice none 0 0]
   rw [e1, e2]
   have HBX := Lib.hid hX
   have hgi : w2.heap.size ≤ g := (by have := HBB.out.size; omega)
   replace HBB := Lib.hid (bl_trans HBB.out hb)
   clear e1 e2 hX hb
   refine hK.out _ _ (⟨cb HBB C0, cb HBB C1, cb HBB C2, cb HBB C3, cb HBB C4⟩) (fun hHeld2 => ?_)
   clear hK K
   replace hHeld := hHeld2
   clear hHeld2
   try simp only [tda, tdb, tdc, Act.put, tdd, tde, tdf]
   refine Kept.only (i := 3) (o := ?op16) (by kernel_rfl) ?ho16 (fun K hK => ?_)
   case ho16 => (conv => lhs; simp only [tdg, tdh, tdi])
   go_simp
   refine (cgen_any _ P M n mv GA gl gc).mono ?_
   rintro e wq17 ⟨rfl, hb⟩
   replace HBX := Lib.hid (HBX.out.belowS hb) 
   replace HBB := Lib.hid (bl_trans HBB.out hb)
   clear hb
   refine hK.out _ _ (⟨cb HBB C0, cb HBB C1, cb HBB C2, cb HBB C3, cb HBB C4⟩) (fun hHeld2 => ?_)
   clear hK K
   replace hHeld := hHeld2
   clear hHeld2
   try simp only [tda, tdb, tdc, Act.put, tdd, tde, tdf]
   refine Kept.only (i := 4) (o := ?op18) (by kernel_rfl) ?ho18 (fun K hK => ?_)
   case ho18 => (conv => lhs; simp only [tdg, tdh, tdi])
   have hbs0 := HBB.out.size
   go_simp
   refine (HKE.out _ (bl_trans HB2.out HBB.out)).mono ?_
   rintro e wq19 ⟨u, rfl, hx, hb⟩
   obtain ⟨UA, uc, rfl, _⟩ := hx.out
   rw [← HK.out] at hx ⊢
   have hglt := HBX.out.lt 
   have HSF : Hid (∀ w9, World.grownBy wq19 w9 (some g) → Sep w2.heap.size w9 fun w9 => SS w9 (.slice UA m uc) C) := hid' (fun w9 hg => (hx.grown hg (by rintro b e; cases e; exact hglt)).mono hbs0) 
   clear hglt 
   replace HBX := Lib.hid (HBX.out.belowS hb) 
   replace HBB := Lib.hid (bl_trans HBB.out hb)
   clear hb hx hbs0
   refine hK.out _ _ (⟨cb HBB C0, cb HBB C1, cb HBB C2, cb HBB C3, cb HBB C4⟩) (fun hHeld2 => ?_)
   clear hK K
   replace hHeld := hHeld2
   clear hHeld2
   try simp only [tda, tdb, tdc, Act.put, tdd, tde, tdf]
   refine Kept.tk 5 (v := ?_) rfl ?_ hHeld ?_
   rotate_left
   ·intro w' h; (try dsimp only at h); go_simp <;> with_reducible rfl
   try simp only [tda, tdb, tdc, Act.put, tdd, tde, tdf]
   refine Kept.tk 6 (v := ?_) rfl ?_ hHeld ?_
   rotate_left
   ·intro w' h; (try dsimp only at h); go_simp <;> with_reducible rfl
   try simp only [tda, tdb, tdc, Act.put, tdd, tde, tdf]
   refine Kept.tk 7 (v := ?_) rfl ?_ hHeld ?_
   rotate_left
   ·intro w' h; (try dsimp only at h); go_simp <;> with_reducible rfl
   try simp only [tda, tdb, tdc, Act.put, tdd, tde, tdf]
   refine Kept.only (i := 9) (o := ?op20) (by kernel_rfl) ?ho20 (fun K hK => ?_)
   case ho20 => (conv => lhs; simp only [tdg, tdh, tdi])
   obtain ⟨b0, b1, f0, f1⟩ := HBX.out.two
   go_simp
   obtain ⟨wq21, h6, HL⟩ := lay2 (x := .int .i64 (n : Int)) (y := .slice UA m uc) HBX.out
   rw [h6]
   have HS6 := Lib.hid (HSF.out _ HL.gr)
   have HBY := Lib.hid HL.blk
   replace HBB := Lib.hid (HL.below HBB.out HBB.out.size hgi)
   clear b0 b1 f0 f1 h6 HL HBX
   refine hK.out _ _ (⟨cb HBB C0, cb HBB C1, cb HBB C2, cb HBB C3, cb HBB C4⟩) (fun hHeld2 => ?_)
   clear hK K
   replace hHeld := hHeld2
   clear hHeld2
   try simp only [tda, tdb, tdc, Act.put, tdd, tde, tdf]
   refine Kept.only (i := 10) (by kernel_rfl) rfl (fun K hK => ?_)
   go_simp
   refine hK.out _ _ hHeld (fun hHeld2 => ?_)
   clear hK K
   clear hHeld2
   refine Kept.done (by kernel_rfl) ?_
   try simp only [tda, tdb, tdc, Act.put, tdd, tde, tdf]
   clear hHeld
   go_wp2_with fail
   go_meet
   exact ⟨g, UA, uc, rfl, rfl, hgi, HBY, HS6, HBB⟩
 case rest =>
  clear c0 c1 c2 c3 c4
  obtain ⟨g, UA, uc, rfl, rfl, hg, HBY, HS5, HBB⟩ := hcut
  have HF3 := Lib.hid (HF2.out.on HBB.out)
  have hs2 := HF2.out.bel.size
  clear C0 C1 C2 C3 C4
  have c0 := HF3.out.c0; have c1 := HF3.out.c1; have c2 := HF3.out.c2
  go_wp2_with fail
  refine (HNW.out wc HF3.out.bel).mono ?_
  rintro e w5 ⟨a, rfl, hsep, hb5⟩
  have HGF := Lib.hid hsep.out
  have HF5 := Lib.hid (HF3.out.on hb5)
  have HX5 := Lib.hid (HX.out.below HF5.out.bel (Nat.le_refl _))
  have HD5 := Lib.hid (HS5.out.on hb5).out
  have HBY5 := Lib.hid (HBY.out.belowS hb5)
  clear hb5 hsep c0 c1 c2
  have x1 : w5.cell? ⟨g, 1, none⟩ = some (.slice UA m uc) := HBY5.out.cell 1
  have HO0 : Hid (OI w5.heap.size w5 (.slice none 0 0) (dotsL (refOps P M Mod) C n x 0)) := by rw [HZ0.out]; exact OI.nil w5.heap.size w5
  go_wp2_with fail
  clear x1
  go_loopw [10, 12, 42] (fun u _ i wr => ∃ k : Nat, k ≤ m ∧ i = .int .i64 (k : Int) ∧ Hid (OI w5.heap.size wr u (dotsL (refOps P M Mod) C n x k)) ∧ Hid (Below w5.heap.size w5 wr)) (fun _ _ i _ => (m - intOf i).toNat)
  case atStart => exact ⟨0, Nat.zero_le _, rfl, HO0, bl_refl _⟩
  case round =>
   clear HO0
   obtain ⟨k, hk, rfl, HO, HW⟩ := hrel
   have HBW := Lib.hid (bl_trans HF5.out.bel HW.out)
   by_cases hlt : k < m
   ·obtain ⟨ad, Ak, ck, row, rfl, hc, HR, HRE⟩ := (HD5.out.below HW.out (Nat.le_refl _)).eltA (k := k) (by rw [← HK.out]; exact hlt)
    have HRN : Hid (row.length = n) := hid' (by rw [← HRE.out]; exact HRL.out k (by rw [← HK.out]; exact hlt))
    have HDT := Lib.hid (gdot_any wr a P M (.slice Ak row.length ck) (.slice XA n xc) Mod row x (HGF.out.on HW.out) HR.out.si (HX.out.below HBW.out (Nat.le_refl _)) (by rw [HRN.out, HXL.out]))
    rw [HRN.out] at HDT hc
    have hdr := HDR.out k (by rw [← HK.out]; exact hlt)
    have HNX := Lib.hid (HSU.out k)
    rw [HRE.out] at hdr HNX
    have hdl := HDL.out k
    generalize dotL (refOps P M Mod) row x n = d at *
    go_wp2_with fail
    refine HDT.out.mono ?_
    rintro e w6 ⟨rfl, hb6⟩
    have HO6 := Lib.hid (HO.out.below hb6 (Nat.le_refl _)); have HB6 := Lib.hid (bl_trans HW.out hb6)
    have HP := Lib.hid (PushI.mk' (w0 := w5) HO6.out HB6.out HB6.out.size d)
    clear hb6 hc
    go_wp2_with (at_builtin; refine wpList_pushI rfl _ _ rfl w5.heap.size _ (dotsL (refOps P M Mod) C n x k) rfl HP.out.own w6.heap.size 1 d rfl HP.out.box (by rw [hdl]; omega) HP.out.up ?_; intro v1 w1 ho hg)
    exact ⟨⟨k + 1, by omega, rfl, by rw [HNX.out]; exact hid' ho, hid' (HP.out.below (Nat.le_refl _) hg)⟩, by simp only [intOf]; omega⟩
   ·obtain rfl : m = k := by omega
    have HSI := Lib.hid (HO.out.sep (by rw [HDL.out]; omega) (fun j => by
     by_cases hj : j < m
     ·rw [dotsL_at hj]; have := HDR.out j (by rw [← HK.out]; exact hj); exact I64.of_small (by omega) (by omega)
     ·rw [getD_len (by rw [HDL.out]; omega)]; exact I64.zero))
    go_wp2_with fail
    go_ret2
    refine ⟨_, ?_, HSI.out.mono HF5.out.bel.size, HBW.out⟩
    rfl
set_option maxHeartbeats 16000000 in
theorem cEncode_any (w : World) (P M n : Int) (mv gv lv : Value) (Mod l : List Int) (gen : List (List Int)) (hm : SI w mv Mod) (hg : SS w gv gen) (hl : SI w lv l) :
  Calls Try.prog 9 #[.agg #[.int .i64 P, .int .i64 M, mv, .int .i64 n, gv], lv] w (RetLE w (encL P M Mod n gen l) (encE P M Mod n gen l)) := by
 have HCK := Lib.hid (fun (w' : World) (hb : Below w.heap.size w w') => cCheck_any w' P M n mv gv Mod gen (hm.below hb (Nat.le_refl _)) (hg.below hb (Nat.le_refl _)))
 by_cases hE : codeE P M Mod n gen = 0
 case neg =>
  have HE : Hid (encE P M Mod n gen l = codeE P M Mod n gen) := hid' (by unfold encE; rw [if_neg hE])
  have HL : Hid (encL P M Mod n gen l = []) := hid' (by unfold encL; rw [HE.out, if_neg hE])
  rw [HE.out, HL.out]
  have e1 : (codeE P M Mod n gen == 0) = false := by rw [beq_eq_false_iff_ne]; exact hE
  have e2 : (codeE P M Mod n gen != 0) = true := by rw [bne_iff_ne]; exact hE
  generalize codeE P M Mod n gen = er at *
  clear hE hm hg hl HE HL
  have HF := Lib.hid (CBox.mk' w P M mv n gv)
  go_enter Try.func9, Try.ntmps9
  go_upto_region 1 with fail
  generalize w.alloc (.cells #[.int .i64 P, .int .i64 M, mv, .int .i64 n, gv] 32) = w0 at *
  have c0 := HF.out.c0; have c1 := HF.out.c1; have c2 := HF.out.c2; have c3 := HF.out.c3; have c4 := HF.out.c4
  go_wp2_with fail
  refine (HCK.out w0 HF.out.bel).mono ?_
  rintro e w1 ⟨rfl, hb1⟩
  have HF1 := Lib.hid (HF.out.on hb1)
  clear hb1 c0 c1 c2 c3 c4
  go_wp2_with fail
  go_ret2
  exact RetLE.nil w er HF1.out.bel
 obtain ⟨hf, hn1, hn2, hgl, hR, hcan⟩ := codeE_zero hE
 obtain ⟨N, rfl⟩ : ∃ N : Nat, n = (N : Int) := ⟨n.toNat, by omega⟩
 rw [Int.toNat_natCast] at hR hcan
 have HLI := Lib.hid (fun (w' : World) (hb : Below w.heap.size w w') => cList_any w' P M gen.length mv lv Mod l (hm.below hb (Nat.le_refl _)) (hl.below hb (Nat.le_refl _)) hf)
 have HEE : Hid (encE P M Mod N gen l = listF (orderF P M) l gen.length) := hid' (by unfold encE; rw [if_pos hE])
 rw [hE] at HCK
 have HS := Lib.hid hg
 obtain ⟨GA, gc, rfl, _⟩ := hg
 by_cases hli : listF (orderF P M) l gen.length = 0
 case neg =>
  have HL : Hid (encL P M Mod N gen l = []) := hid' (by unfold encL; rw [HEE.out, if_neg hli])
  rw [HEE.out, HL.out]
  have e2 : (listF (orderF P M) l gen.length != 0) = true := by rw [bne_iff_ne]; exact hli
  clear hE hm hl hli HL HEE hR hcan hf hgl HS
  generalize listF (orderF P M) l gen.length = er at *
  generalize gen.length = gl at *
  have HF := Lib.hid (CBox.mk' w P M mv N (.slice GA gl gc))
  go_enter Try.func9, Try.ntmps9
  go_upto_region 1 with fail
  generalize w.alloc (.cells #[.int .i64 P, .int .i64 M, mv, .int .i64 (N : Int), .slice GA gl gc] 32) = w0 at *
  have c0 := HF.out.c0; have c1 := HF.out.c1; have c2 := HF.out.c2; have c3 := HF.out.c3; have c4 := HF.out.c4
  go_wp2_with fail
  refine (HCK.out w0 HF.out.bel).mono ?_
  rintro e w1 ⟨rfl, hb1⟩
  have HF1 := Lib.hid (HF.out.on hb1)
  clear hb1 c0 c1 c2 c3 c4
  have c0 := HF1.out.c0; have c1 := HF1.out.c1; have c2 := HF1.out.c2; have c3 := HF1.out.c3; have c4 := HF1.out.c4
  go_wp2_with fail
  refine (HLI.out w1 HF1.out.bel).mono ?_
  rintro e w2 ⟨rfl, hb2⟩
  have HF2 := Lib.hid (HF1.out.on hb2)
  clear hb2 c0 c1 c2 c3 c4
  go_wp2_with fail
  go_ret2
  exact RetLE.nil w er HF2.out.bel
 obtain ⟨hll, hlr⟩ := listF_zero hli
 have hsp : spaceE P M Mod N gen = 0 := by
  unfold codeE at hE
  split at hE
  ·rename_i h; exact absurd hE h
  split at hE
  ·exact hE
  ·cases hE
 have HVC := Lib.hid (fun (w' : World) (hb : Below w.heap.size w w') => mVec_ok w' P M N mv (.slice GA gen.length gc) lv Mod l gen (hm.below hb (Nat.le_refl _)) (HS.out.below hb (Nat.le_refl _)) (hl.below hb (Nat.le_refl _)) (cspE_zero hsp).1 (by omega) (entriesF_ok fun k hk => hlr k hk))
 have HL : Hid (encL P M Mod N gen l = combL (refOps P M Mod) l gen N) := hid' (by unfold encL; rw [HEE.out, if_pos hli, Int.toNat_natCast])
 rw [HEE.out, HL.out, hli]
 rw [hli] at HLI
 clear hE hm hl hli HL HEE hR hcan hf hgl HS hlr hsp hll
 generalize combL (refOps P M Mod) l gen N = y at *
 generalize gen.length = gl at *
 unfold RetLE at HVC
 have HF := Lib.hid (CBox.mk' w P M mv N (.slice GA gl gc))
 go_enter Try.func9, Try.ntmps9
 go_upto_region 1 with fail
 generalize w.alloc (.cells #[.int .i64 P, .int .i64 M, mv, .int .i64 (N : Int), .slice GA gl gc] 32) = w0 at *
 have c0 := HF.out.c0; have c1 := HF.out.c1; have c2 := HF.out.c2; have c3 := HF.out.c3; have c4 := HF.out.c4
 go_wp2_with fail
 refine (HCK.out w0 HF.out.bel).mono ?_
 rintro e w1 ⟨rfl, hb1⟩
 have HF1 := Lib.hid (HF.out.on hb1)
 clear hb1 c0 c1 c2 c3 c4
 have c0 := HF1.out.c0; have c1 := HF1.out.c1; have c2 := HF1.out.c2; have c3 := HF1.out.c3; have c4 := HF1.out.c4
 go_wp2_with fail
 refine (HLI.out w1 HF1.out.bel).mono ?_
 rintro e w2 ⟨rfl, hb2⟩
 have HF2 := Lib.hid (HF1.out.on hb2)
 clear hb2 c0 c1 c2 c3 c4
 have c0 := HF2.out.c0; have c1 := HF2.out.c1; have c2 := HF2.out.c2; have c3 := HF2.out.c3; have c4 := HF2.out.c4
 go_upto_region 6 with fail
 refine Kept.start (S := fun w' => w'.cell? ⟨w.heap.size, 0, none⟩ = some (.int .i64 P) ∧ w'.cell? ⟨w.heap.size, 1, none⟩ = some (.int .i64 M) ∧ w'.cell? ⟨w.heap.size, 2, none⟩ = some mv ∧ w'.cell? ⟨w.heap.size, 3, none⟩ = some (.int .i64 (N : Int)) ∧ w'.cell? ⟨w.heap.size, 4, none⟩ = some (.slice GA gl gc)) (by kernel_rfl) (⟨c0, c1, c2, c3, c4⟩) (fun hHeld => ?_)
 change Kept _ _ _ _ 10 _ _ _
 refine Kept.tk 0 (v := ?_) rfl ?_ hHeld ?_
 rotate_left
 ·intro w' h; (try dsimp only at h); go_simp <;> with_reducible rfl
 try simp only [tda, tdb, tdc, Act.put, tdd, tde, tdf]
 refine Kept.tk 1 (v := ?_) rfl ?_ hHeld ?_
 rotate_left
 ·intro w' h; (try dsimp only at h); go_simp <;> with_reducible rfl
 try simp only [tda, tdb, tdc, Act.put, tdd, tde, tdf]
 refine Kept.tk 2 (v := ?_) rfl ?_ hHeld ?_
 rotate_left
 ·intro w' h; (try dsimp only at h); go_simp <;> with_reducible rfl
 try simp only [tda, tdb, tdc, Act.put, tdd, tde, tdf]
 refine Kept.tk 3 (v := ?_) rfl ?_ hHeld ?_
 rotate_left
 ·intro w' h; (try dsimp only at h); go_simp <;> with_reducible rfl
 try simp only [tda, tdb, tdc, Act.put, tdd, tde, tdf]
 refine Kept.only (i := 4) (by kernel_rfl) rfl (fun K hK => ?_)
 go_simp
 refine (cgen_any _ P M N mv GA gl gc).mono ?_; rintro e w3 ⟨rfl, hb3⟩; have HF3 := Lib.hid (HF2.out.on (bl_trans (bl_drew w2) hb3)); clear hb3
 refine hK.out _ _ (⟨HF3.out.c0, HF3.out.c1, HF3.out.c2, HF3.out.c3, HF3.out.c4⟩) (fun hHeld2 => ?_)
 clear hK K
 replace hHeld := hHeld2
 clear hHeld2
 try simp only [tda, tdb, tdc, Act.put, tdd, tde, tdf]
 refine Kept.only (i := 5) (by kernel_rfl) rfl (fun K hK => ?_)
 go_simp
 refine (HVC.out w3 HF3.out.bel).mono ?_; rintro e w4 ⟨u4, rfl, hs4, hn4, hb4⟩; have HS4 := Lib.hid hs4; have HN4 := Lib.hid hn4; have HF4 := Lib.hid (HF3.out.on hb4); clear hs4 hn4 hb4
 refine hK.out _ _ (⟨HF4.out.c0, HF4.out.c1, HF4.out.c2, HF4.out.c3, HF4.out.c4⟩) (fun hHeld2 => ?_)
 clear hK K
 replace hHeld := hHeld2
 clear hHeld2
 try simp only [tda, tdb, tdc, Act.put, tdd, tde, tdf]
 refine Kept.tk 6 (v := ?_) rfl ?_ hHeld ?_
 rotate_left
 ·intro w' h; (try dsimp only at h); go_simp <;> with_reducible rfl
 try simp only [tda, tdb, tdc, Act.put, tdd, tde, tdf]
 refine Kept.tk 7 (v := ?_) rfl ?_ hHeld ?_
 rotate_left
 ·intro w' h; (try dsimp only at h); go_simp <;> with_reducible rfl
 try simp only [tda, tdb, tdc, Act.put, tdd, tde, tdf]
 refine Kept.tk 8 (v := ?_) rfl ?_ hHeld ?_
 rotate_left
 ·intro w' h; (try dsimp only at h); go_simp <;> with_reducible rfl
 try simp only [tda, tdb, tdc, Act.put, tdd, tde, tdf]
 refine Kept.only (i := 9) (by kernel_rfl) rfl (fun K hK => ?_)
 go_simp
 refine hK.out _ _ hHeld (fun hHeld2 => ?_)
 clear hK K
 clear hHeld2
 refine Kept.done (by kernel_rfl) ?_
 try simp only [tda, tdb, tdc, Act.put, tdd, tde, tdf]
 clear hHeld
 clear c0 c1 c2 c3 c4
 go_wp2_with fail
 go_ret2
 exact ⟨_, rfl, HS4.out, HN4.out.mono HF3.out.bel, HF4.out.bel⟩
end Go.Proofs.Ytodgdoglhecolaa
