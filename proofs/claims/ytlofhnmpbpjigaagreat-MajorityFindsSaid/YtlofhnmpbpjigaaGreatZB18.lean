/- Texts of a claim, merged: words, plain facts and walks that the last of its texts uses. -/
import Derived.Test.YtlofhnmpbpjigaaGreatZB2
import Derived.Test.YtlofhnmpbpjigaaGreatZB16
import Derived.Test.YtlofhnmpbpjigaaGreatZB17
set_option linter.unusedSimpArgs false
set_option linter.unusedVariables false

namespace Go.Proofs.YtlofhnmpbpjigaaGreat
open Go.RowKit
set_option maxRecDepth 100000
theorem word_facts {P M : Int} {Mod : List Int} {N q : Nat} {gen : List (List Int)} (hE : codeE P M Mod N gen = 0) (hq : orderF P M = (q : Int)) {h : List Int} (hh : h ∈ wordsL (refOps P M Mod) q N (nullL (refOps P M Mod) gen N)) :
  h.length = N ∧ (∀ k, 0 ≤ h.getD k 0 ∧ h.getD k 0 < orderF P M) ∧ inL (refOps P M Mod) (nullL (refOps P M Mod) gen N) h = true := by
 obtain ⟨hf, hn1, hn2, hgl, hR, hcan⟩ := codeE_zero hE
 have hO := ref_fld hf
 rw [Int.toNat_natCast] at hR
 have hDR := (null_rref hO hR).rows
 obtain ⟨j, hj, rfl⟩ := List.mem_iff_getElem.1 hh
 have hj2 := hj
 rw [wordsL_len] at hj2
 have e : (wordsL (refOps P M Mod) q N (nullL (refOps P M Mod) gen N))[j] = pwL (refOps P M Mod) q N (nullL (refOps P M Mod) gen N) (nullL (refOps P M Mod) gen N).length j := by
  have := wordsL_at (O := refOps P M Mod) (n := N) hj2
  rw [← this]; simp [List.getD, hj]
 rw [e]
 have hr := pwL_rng (hq ▸ hO) N (nullL (refOps P M Mod) gen N) (nullL (refOps P M Mod) gen N).length j
 have hr2 : ∀ k, 0 ≤ (pwL (refOps P M Mod) q N (nullL (refOps P M Mod) gen N) (nullL (refOps P M Mod) gen N).length j).getD k 0 ∧ (pwL (refOps P M Mod) q N (nullL (refOps P M Mod) gen N) (nullL (refOps P M Mod) gen N).length j).getD k 0 < orderF P M := fun k => by rw [hq]; exact hr k
 refine ⟨pwL_len _ _ _ _ _ _, hr2, ?_⟩
 rw [inL_span hO (null_rref hO hR) hr2 (pwL_len _ _ _ _ _ _), ← combL_dgt (hq ▸ hO) (hq ▸ hDR) j]
 exact combL_span hO hDR (dgtL_len _ _ _)
theorem find_facts {P M : Int} {Mod : List Int} {N I x q : Nat} {gen : List (List Int)} (hE : codeE P M Mod N gen = 0) (hq : orderF P M = (q : Int)) (hI : I < N) :
  rfdTo (fun out => orthE P M Mod N gen I out == 0) I (wthL x N (wordsL (refOps P M Mod) q N (nullL (refOps P M Mod) gen N))) (wthL x N (wordsL (refOps P M Mod) q N (nullL (refOps P M Mod) gen N))).length =
   fndTo I x N (wordsL (refOps P M Mod) q N (nullL (refOps P M Mod) gen N)) (wordsL (refOps P M Mod) q N (nullL (refOps P M Mod) gen N)).length ∧
  orthE P M Mod N gen I (fndTo I x N (wordsL (refOps P M Mod) q N (nullL (refOps P M Mod) gen N)) (wordsL (refOps P M Mod) q N (nullL (refOps P M Mod) gen N)).length) = 0 := by
 have hEE := hE
 obtain ⟨hf, hn1, hn2, hgl, hR, hcan⟩ := codeE_zero hE
 have hO := ref_fld hf
 rw [Int.toNat_natCast] at hR
 have hw := fun h (hh : h ∈ wordsL (refOps P M Mod) q N (nullL (refOps P M Mod) gen N)) => word_facts hE hq hh
 have hls : ∀ out : List (List Int), (∀ g, g ∈ out → g ∈ wordsL (refOps P M Mod) q N (nullL (refOps P M Mod) gen N)) → lsE (orderF P M) N out out.length = 0 := fun out ho => lsE_all fun k hk => by
  have hm : out.getD k [] ∈ out := by rw [List.getD_eq_getElem?_getD, List.getElem?_eq_getElem hk]; exact List.getElem_mem hk
  obtain ⟨h1, h2, _⟩ := hw _ (ho _ hm)
  unfold listF
  rw [if_pos (by rw [h1])]
  exact entriesF_ok fun k _ => h2 k
 have hoe : ∀ out : List (List Int), (∀ g, g ∈ out → g ∈ wordsL (refOps P M Mod) q N (nullL (refOps P M Mod) gen N)) → orthE P M Mod N gen I out = if (orT (okG (refOps P M Mod) gen N I) I N out out.length).isSome then 0 else 13 := fun out ho => by
  unfold orthE
  rw [if_neg (fun e => e hE), if_neg (by omega), hls out ho, if_neg (by simp), Int.toNat_natCast, Int.toNat_natCast]
 obtain ⟨h1, ⟨u, hu, _⟩, h3⟩ := find_same (ok := okG (refOps P M Mod) gen N I) (okc := fun out => orthE P M Mod N gen I out == 0) (i := I) (w := x) (n := N) (L := wordsL (refOps P M Mod) q N (nullL (refOps P M Mod) gen N))
  (fun h hh h1 => by
   obtain ⟨g1, g2, g3⟩ := hw h hh
   unfold okG
   rw [← inL_dots hO hR g1 g2, g3, h1]; rfl)
  (fun out ho => by
   show (orthE P M Mod N gen I out == 0) = _
   rw [hoe out ho]
   cases (orT (okG (refOps P M Mod) gen N I) I N out out.length).isSome <;> rfl)
 refine ⟨h1, ?_⟩
 rw [hoe _ h3, hu]; rfl
def RetFi (w : World) (xs : List (List Int)) (er : Int) (e : Ending) (w' : World) : Prop := ∃ v, e = .returned (.tuple #[v, .int .i64 er]) ∧ SS w' v xs ∧ Below w.heap.size w w'
theorem fnd_len (i w n : Nat) (L : List (List Int)) : ∀ k, (fndTo i w n L k).length ≤ k
 | 0 => Nat.le_refl _
 | k + 1 => by
  have := fnd_len i w n L k
  rw [fndTo]; unfold stepF
  split
  ·rw [List.length_append, List.length_singleton]; omega
  ·omega
theorem finds (w : World) (P M n i x : Int) (mv gv : Value) (Mod : List Int) (gen : List (List Int)) (hm : SI w mv Mod) (hg : SS w gv gen) : ∃ out er, (er = 0 → orthE P M Mod n gen i out = 0) ∧
  Hid (∀ w', Below w.heap.size w w' → Calls Tryz.prog 10 #[.agg #[.int .i64 P, .int .i64 M, mv, .int .i64 n, gv], .int .i64 i, .int .i64 x] w' (RetFi w' out er)) ∧
   Hid (∀ w', Below w.heap.size w w' → Calls Tryz.prog 11 #[.agg #[.int .i64 P, .int .i64 M, mv, .int .i64 n, gv], .int .i64 i, .int .i64 x] w' (RetFi w' out er)) := by
 have M1 := fun (w' : World) (hb : Below w.heap.size w w') => hm.below hb (Nat.le_refl _)
 have G1 := fun (w' : World) (hb : Below w.heap.size w w') => hg.below hb (Nat.le_refl _)
 by_cases hE : codeE P M Mod n gen = 0
 case neg =>
  exact ⟨[], codeE P M Mod n gen, fun e => absurd e hE, hid' fun w' hb => (mFind_no w' P M n i x mv gv Mod gen (M1 w' hb) (G1 w' hb) hE).mono fun e w2 ⟨e1, e2⟩ => ⟨_, e1, SS.none_ _, e2⟩, hid' fun w' hb => (rFind_no w' P M n i x mv gv Mod gen (M1 w' hb) (G1 w' hb) hE).mono fun e w2 ⟨e1, e2⟩ => ⟨_, e1, SS.none_ _, e2⟩⟩
 obtain ⟨hf, hn1, hn2, _⟩ := codeE_zero hE
 obtain ⟨N, rfl⟩ : ∃ N : Nat, n = (N : Int) := ⟨n.toNat, by omega⟩
 by_cases hi : i < 0 ∨ (N : Int) ≤ i ∨ x < 1 ∨ (N : Int) < x
 ·exact ⟨[], 6, (fun e => absurd e (by decide)), hid' fun w' hb => (mFind_rng w' P M N i x mv gv Mod gen (M1 w' hb) (G1 w' hb) hE hi).mono fun e w2 ⟨e1, e2⟩ => ⟨_, e1, SS.none_ _, e2⟩, hid' fun w' hb => (rFind_rng w' P M N i x mv gv Mod gen (M1 w' hb) (G1 w' hb) hE hi).mono fun e w2 ⟨e1, e2⟩ => ⟨_, e1, SS.none_ _, e2⟩⟩
 obtain ⟨I, rfl⟩ : ∃ I : Nat, i = (I : Int) := ⟨i.toNat, by omega⟩
 obtain ⟨X, rfl⟩ : ∃ X : Nat, x = (X : Int) := ⟨x.toNat, by omega⟩
 have hI : I < N := by omega
 have hx1 : 1 ≤ X := by omega
 have hx2 : X ≤ N := by omega
 by_cases hs : sizeE P M Mod N (nullL (refOps P M Mod) gen N) = 0
 case neg =>
  exact ⟨[], _, fun e => absurd e hs, hid' fun w' hb => (mFind_big w' P M N I X mv gv Mod gen (M1 w' hb) (G1 w' hb) hE hI hx1 hx2 hs).mono fun e w2 ⟨e1, e2⟩ => ⟨_, e1, SS.none_ _, e2⟩, hid' fun w' hb => (rFind_big w' P M N I X mv gv Mod gen (M1 w' hb) (G1 w' hb) hE hI hx1 hx2 hs).mono fun e w2 ⟨e1, e2⟩ => ⟨_, e1, SS.none_ _, e2⟩⟩
 have hob := orderF_bounds P M
 obtain ⟨q, hq⟩ : ∃ q : Nat, orderF P M = (q : Int) := ⟨(orderF P M).toNat, by omega⟩
 have hb := (sizeE_zero hs).2
 rw [hq, Int.toNat_natCast] at hb
 obtain ⟨h1, h2⟩ := find_facts (x := X) hE hq hI
 have hl : (fndTo I X N (wordsL (refOps P M Mod) q N (nullL (refOps P M Mod) gen N)) (wordsL (refOps P M Mod) q N (nullL (refOps P M Mod) gen N)).length).length ≤ 17592186044416 := Nat.le_trans (fnd_len _ _ _ _ _) (by rw [wordsL_len]; omega)
 refine ⟨_, 0, fun _ => h2, hid' fun w' hb' => (mFind_ok w' P M N I X q mv gv Mod gen (M1 w' hb') (G1 w' hb') hE hq hI hx1 hx2 hb).mono fun e w2 ⟨v, e1, e2, e3⟩ => ⟨v, e1, e2.ss hl, e3⟩, hid' fun w' hb' => (rFind_ok w' P M N I X q mv gv Mod gen (M1 w' hb') (G1 w' hb') hE hq hI hx1 hx2 hb).mono fun e w2 ⟨v, e1, e2, e3⟩ => ⟨v, e1, ?_, e3⟩⟩
 rw [h1] at e2
 exact e2.ss hl
set_option maxHeartbeats 32000000 in
theorem lawFnd (w : World) {v : Value} (hc : ∃ P M mv Mod n gv gen, v = .agg #[.int .i64 P, .int .i64 M, mv, .int .i64 n, gv] ∧ I64 n ∧ SI w mv Mod ∧ SS w gv gen) (i x : Int) :
  Calls Tryz.prog 3 #[v, .int .i64 i, .int .i64 x] w (RetB w true) := by
 obtain ⟨P, M, mv, Mod, n, gv, gen, rfl, hn64, hm, hg⟩ := hc
 obtain ⟨out, er, horE, HF1, HF2⟩ := finds w P M n i x mv gv Mod gen hm hg
 have HCK := Lib.hid (fun (w' : World) (hb : Below w.heap.size w w') => rCCheck_any w' P M n mv gv Mod gen (hm.below hb (Nat.le_refl _)) (hg.below hb (Nat.le_refl _)))
 have HOR := Lib.hid (fun (w' : World) (cv : Value) (hb : Below w.heap.size w w') (hc : SS w' cv out) => mOrth_any w' P M n i mv gv cv Mod gen out (hm.below hb (Nat.le_refl _)) (hg.below hb (Nat.le_refl _)) hc)
 have HOE := Lib.hid horE
 have hsd : codeE P M Mod n gen = 0 → ∃ (D : List (List Int)) (N : Nat), n = (N : Int) ∧ Hid (∀ w', Below w.heap.size w w' → Calls Tryz.prog 8 #[.agg #[.int .i64 P, .int .i64 M, mv, .int .i64 n, gv], .bool true] w' (RetC w' P M Mod n D)) := fun hE => by
  obtain ⟨hf, hn1, hn2, _⟩ := codeE_zero hE
  obtain ⟨N, rfl⟩ : ∃ N : Nat, n = (N : Int) := ⟨n.toNat, by omega⟩
  exact ⟨_, N, rfl, hid' fun w' hb => rSide_ok w' P M N mv gv Mod gen (hm.below hb (Nat.le_refl _)) (hg.below hb (Nat.le_refl _)) hE⟩
 have HSD := Lib.hid hsd
 clear hm hg horE hsd
 have HC := Lib.hid (CBox.mk' w P M mv n gv)
 unfold RetFi at HF1 HF2
 have hee : (er != er) = false := by simp
 have HEE := Lib.hid hee
 clear hee
 go_enter Tryz.func3, Tryz.ntmps3
 go_upto_region 1 with fail
 generalize w.alloc (.cells #[.int .i64 P, .int .i64 M, mv, .int .i64 n, gv] 27) = w0 at *
 have c0 := HC.out.c0; have c1 := HC.out.c1; have c2 := HC.out.c2; have c3 := HC.out.c3; have c4 := HC.out.c4
 go_wp2_with fail
 refine (HCK.out w0 HC.out.bel).mono ?_
 rintro e y ⟨rfl, hb1⟩
 have HCy := Lib.hid (HC.out.on hb1)
 clear hb1 c0 c1 c2 c3 c4 HC
 by_cases hE : codeE P M Mod n gen = 0
 case neg =>
  have e1 : (codeE P M Mod n gen == 0) = false := by rw [beq_eq_false_iff_ne]; exact hE
  clear hE
  have c0 := HCy.out.c0; have c1 := HCy.out.c1; have c2 := HCy.out.c2; have c3 := HCy.out.c3; have c4 := HCy.out.c4
  go_wp2_with fail
  refine (HF1.out y HCy.out.bel).mono ?_
  rintro e z1 ⟨v1, rfl, hv1, hb1⟩
  have HV1 := Lib.hid hv1
  have HC1 := Lib.hid (HCy.out.on hb1)
  clear e1 hv1 hb1 c0 c1 c2 c3 c4 HCy
  have c0 := HC1.out.c0; have c1 := HC1.out.c1; have c2 := HC1.out.c2; have c3 := HC1.out.c3; have c4 := HC1.out.c4
  go_wp2_with fail
  refine (HF2.out z1 HC1.out.bel).mono ?_
  rintro e z2 ⟨v2, rfl, hv2, hb2⟩
  have HV2 := Lib.hid hv2
  have HV12 := Lib.hid (HV1.out.below hb2 (Nat.le_refl _))
  have HC2 := Lib.hid (HC1.out.on hb2)
  have hee := HEE.out
  clear hv2 hb2 c0 c1 c2 c3 c4 HC1 HV1
  go_wp2_with fail
  refine (sameLists_any _ _ _ out out HV12.out HV2.out).mono ?_
  rintro e z3 ⟨rfl, hb3⟩
  rw [decide_eq_true (rfl : out = out)]
  have HV3 := Lib.hid (HV12.out.below hb3 (Nat.le_refl _))
  have HC3 := Lib.hid (HC2.out.on hb3)
  clear hee hb3 HC2 HV2 HV12
  have c0 := HC3.out.c0; have c1 := HC3.out.c1; have c2 := HC3.out.c2; have c3 := HC3.out.c3; have c4 := HC3.out.c4
  by_cases her : er = 0
  case neg =>
   have e2 : (er != 0) = true := by rw [bne_iff_ne]; exact her
   clear her
   go_wp2_with fail
   refine (alive43_any _).mono ?_
   rintro e z9 ⟨rfl, hb9⟩
   have HB9 := Lib.hid (bl_trans HC3.out.bel hb9)
   clear hb9
   go_wp2_with fail
   go_ret
   exact ⟨rfl, HB9.out⟩
  have HO0 := Lib.hid (HOE.out her)
  subst her
  go_wp2_with fail
  refine (HOR.out z3 _ HC3.out.bel HV3.out).mono ?_
  rintro e z4 ⟨rfl, hb4⟩
  rw [HO0.out]
  have HB4 := Lib.hid (bl_trans HC3.out.bel hb4)
  clear hb4 c0 c1 c2 c3 c4
  go_wp2_with fail
  refine (alive43_any _).mono ?_
  rintro e z9 ⟨rfl, hb9⟩
  have HB9 := Lib.hid (bl_trans HB4.out hb9)
  clear hb9
  go_wp2_with fail
  go_ret
  exact ⟨rfl, HB9.out⟩
 obtain ⟨D, N, hnN, HS1⟩ := HSD.out hE
 rw [hE]
 clear hE hnN
 unfold RetC at HS1
 have c0 := HCy.out.c0; have c1 := HCy.out.c1; have c2 := HCy.out.c2; have c3 := HCy.out.c3; have c4 := HCy.out.c4
 go_wp2_with fail
 refine (HS1.out y HCy.out.bel).mono ?_
 rintro e y2 ⟨u, g, rfl, hx, hb2⟩
 have HXM := Lib.hid hx.out.1; have HXG := Lib.hid hx.out.2
 have HCz := Lib.hid (HCy.out.on hb2)
 clear hx hb2 c0 c1 c2 c3 c4 HCy
 go_wp2_with fail
 refine (rSize_any y2 P M n u g Mod D HXM.out HXG.out).mono ?_
 rintro e y ⟨rfl, hb3⟩
 have HCy := Lib.hid (HCz.out.on hb3)
 clear hb3 HCz HXM HXG
 generalize sizeA P M Mod n D = sa at *
 generalize sizeE P M Mod n D = se at *
 by_cases hse : se = 0
 ·subst hse
  by_cases hbig : 1024 < sa
  ·have e2 : decide (1024 < sa) = true := decide_eq_true hbig
   go_wp2_with fail
   refine (alive43_any _).mono ?_
   rintro e y9 ⟨rfl, hb9⟩
   have HB9 := Lib.hid (bl_trans HCy.out.bel hb9)
   clear hb9
   go_wp2_with fail
   go_ret
   exact ⟨rfl, HB9.out⟩
  ·have e1 : decide (1024 < sa) = false := decide_eq_false hbig
   clear hbig
   have c0 := HCy.out.c0; have c1 := HCy.out.c1; have c2 := HCy.out.c2; have c3 := HCy.out.c3; have c4 := HCy.out.c4
   go_wp2_with fail
   refine (HF1.out y HCy.out.bel).mono ?_
   rintro e z1 ⟨v1, rfl, hv1, hb1⟩
   have HV1 := Lib.hid hv1
   have HC1 := Lib.hid (HCy.out.on hb1)
   clear e1 hv1 hb1 c0 c1 c2 c3 c4 HCy
   have c0 := HC1.out.c0; have c1 := HC1.out.c1; have c2 := HC1.out.c2; have c3 := HC1.out.c3; have c4 := HC1.out.c4
   go_wp2_with fail
   refine (HF2.out z1 HC1.out.bel).mono ?_
   rintro e z2 ⟨v2, rfl, hv2, hb2⟩
   have HV2 := Lib.hid hv2
   have HV12 := Lib.hid (HV1.out.below hb2 (Nat.le_refl _))
   have HC2 := Lib.hid (HC1.out.on hb2)
   have hee := HEE.out
   clear hv2 hb2 c0 c1 c2 c3 c4 HC1 HV1
   go_wp2_with fail
   refine (sameLists_any _ _ _ out out HV12.out HV2.out).mono ?_
   rintro e z3 ⟨rfl, hb3⟩
   rw [decide_eq_true (rfl : out = out)]
   have HV3 := Lib.hid (HV12.out.below hb3 (Nat.le_refl _))
   have HC3 := Lib.hid (HC2.out.on hb3)
   clear hee hb3 HC2 HV2 HV12
   have c0 := HC3.out.c0; have c1 := HC3.out.c1; have c2 := HC3.out.c2; have c3 := HC3.out.c3; have c4 := HC3.out.c4
   by_cases her : er = 0
   case neg =>
    have e2 : (er != 0) = true := by rw [bne_iff_ne]; exact her
    clear her
    go_wp2_with fail
    refine (alive43_any _).mono ?_
    rintro e z9 ⟨rfl, hb9⟩
    have HB9 := Lib.hid (bl_trans HC3.out.bel hb9)
    clear hb9
    go_wp2_with fail
    go_ret
    exact ⟨rfl, HB9.out⟩
   have HO0 := Lib.hid (HOE.out her)
   subst her
   go_wp2_with fail
   refine (HOR.out z3 _ HC3.out.bel HV3.out).mono ?_
   rintro e z4 ⟨rfl, hb4⟩
   rw [HO0.out]
   have HB4 := Lib.hid (bl_trans HC3.out.bel hb4)
   clear hb4 c0 c1 c2 c3 c4
   go_wp2_with fail
   refine (alive43_any _).mono ?_
   rintro e z9 ⟨rfl, hb9⟩
   have HB9 := Lib.hid (bl_trans HB4.out hb9)
   clear hb9
   go_wp2_with fail
   go_ret
   exact ⟨rfl, HB9.out⟩
 ·have e1 : (se == 0) = false := by rw [beq_eq_false_iff_ne]; exact hse
  clear hse
  have c0 := HCy.out.c0; have c1 := HCy.out.c1; have c2 := HCy.out.c2; have c3 := HCy.out.c3; have c4 := HCy.out.c4
  go_wp2_with fail
  refine (HF1.out y HCy.out.bel).mono ?_
  rintro e z1 ⟨v1, rfl, hv1, hb1⟩
  have HV1 := Lib.hid hv1
  have HC1 := Lib.hid (HCy.out.on hb1)
  clear e1 hv1 hb1 c0 c1 c2 c3 c4 HCy
  have c0 := HC1.out.c0; have c1 := HC1.out.c1; have c2 := HC1.out.c2; have c3 := HC1.out.c3; have c4 := HC1.out.c4
  go_wp2_with fail
  refine (HF2.out z1 HC1.out.bel).mono ?_
  rintro e z2 ⟨v2, rfl, hv2, hb2⟩
  have HV2 := Lib.hid hv2
  have HV12 := Lib.hid (HV1.out.below hb2 (Nat.le_refl _))
  have HC2 := Lib.hid (HC1.out.on hb2)
  have hee := HEE.out
  clear hv2 hb2 c0 c1 c2 c3 c4 HC1 HV1
  go_wp2_with fail
  refine (sameLists_any _ _ _ out out HV12.out HV2.out).mono ?_
  rintro e z3 ⟨rfl, hb3⟩
  rw [decide_eq_true (rfl : out = out)]
  have HV3 := Lib.hid (HV12.out.below hb3 (Nat.le_refl _))
  have HC3 := Lib.hid (HC2.out.on hb3)
  clear hee hb3 HC2 HV2 HV12
  have c0 := HC3.out.c0; have c1 := HC3.out.c1; have c2 := HC3.out.c2; have c3 := HC3.out.c3; have c4 := HC3.out.c4
  by_cases her : er = 0
  case neg =>
   have e2 : (er != 0) = true := by rw [bne_iff_ne]; exact her
   clear her
   go_wp2_with fail
   refine (alive43_any _).mono ?_
   rintro e z9 ⟨rfl, hb9⟩
   have HB9 := Lib.hid (bl_trans HC3.out.bel hb9)
   clear hb9
   go_wp2_with fail
   go_ret
   exact ⟨rfl, HB9.out⟩
  have HO0 := Lib.hid (HOE.out her)
  subst her
  go_wp2_with fail
  refine (HOR.out z3 _ HC3.out.bel HV3.out).mono ?_
  rintro e z4 ⟨rfl, hb4⟩
  rw [HO0.out]
  have HB4 := Lib.hid (bl_trans HC3.out.bel hb4)
  clear hb4 c0 c1 c2 c3 c4
  go_wp2_with fail
  refine (alive43_any _).mono ?_
  rintro e z9 ⟨rfl, hb9⟩
  have HB9 := Lib.hid (bl_trans HB4.out hb9)
  clear hb9
  go_wp2_with fail
  go_ret
  exact ⟨rfl, HB9.out⟩
end Go.Proofs.YtlofhnmpbpjigaaGreat
