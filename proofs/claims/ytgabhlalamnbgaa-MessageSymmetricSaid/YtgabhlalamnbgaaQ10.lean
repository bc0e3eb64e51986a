/- Texts of a claim, merged: words, plain facts and walks that the last of its texts uses. -/
import Derived.Test.YtgabhlalamnbgaaQ1
import Derived.Test.YtgabhlalamnbgaaQ9
set_option linter.unusedSimpArgs false
set_option linter.unusedVariables false

/- law45.path; lengths of the lists of odd checks; the word at the end. -/
namespace Go.Proofs.Ytgabhlalamnbgaa
open Go.RowKit
set_option linter.unusedVariables false
set_option maxRecDepth 100000

theorem SS.two {w : World} {g : Nat} {u0 u1 : Value} {x0 x1 : List Int} (h : Blk w g 25 [u0, u1]) (h0 : SI w u0 x0) (h1 : SI w u1 x1) : SS w (.slice (some ⟨g, 0, none⟩) 2 2) [x0, x1] := by
  refine ⟨some ⟨g, 0, none⟩, 2, rfl, by simp, by simp, fun k hk => ?_⟩
  match k, hk with
  | 0, _ => exact ⟨⟨g, 0, none⟩, u0, rfl, by have := h.cell 0; simpa [Addr.add] using this, h0⟩
  | 1, _ => exact ⟨⟨g, 0, none⟩, u1, rfl, by have := h.cell 1; simpa [Addr.add] using this, h1⟩
def pathR : List (List Int) := [[1, 1, 0], [0, 1, 1]]
def RetPath (w : World) (e : Ending) (w' : World) : Prop := ∃ rv, e = .returned (.agg #[.int .i64 3, rv]) ∧ SS w' rv pathR ∧ Below w.heap.size w w'
theorem wf3 (a b c : Int) (ha : a = 0 ∨ a = 1) (hb : b = 0 ∨ b = 1) (hc : c = 0 ∨ c = 1) : ∀ k, I64 (([a, b, c] : List Int).getD k 0) := fun k => by
  match k with
  | 0 => exact I64.of_small (by simp; omega) (by simp; omega)
  | 1 => exact I64.of_small (by simp; omega) (by simp; omega)
  | 2 => exact I64.of_small (by simp; omega) (by simp; omega)
  | k + 3 => exact I64.zero

def pathW (w : World) (o : Obj) : World := (((w.alloc o).alloc (.cells #[.int .i64 1, .int .i64 1, .int .i64 0] 3)).alloc (.cells #[.int .i64 0, .int .i64 1, .int .i64 1] 3)).alloc (.cells #[.slice (some ⟨w.heap.size + 1, 0, none⟩) 3 3, .slice (some ⟨w.heap.size + 1 + 1, 0, none⟩) 3 3] 25)
theorem pathW_ok (w : World) (o : Obj) : SS (pathW w o) (.slice (some ⟨w.heap.size + 1 + 1 + 1, 0, none⟩) 2 2) pathR ∧ Below w.heap.size w (pathW w o) := by
  obtain ⟨w1, hw1⟩ : ∃ w1, w1 = w.alloc o := ⟨_, rfl⟩
  have s1 : w1.heap.size = w.heap.size + 1 := by rw [hw1, World.size_alloc]
  have hb1 : Below w.heap.size w w1 := by rw [hw1]; exact bl_alloc _ _
  obtain ⟨w2, hw2⟩ : ∃ w2, w2 = w1.alloc (.cells #[.int .i64 1, .int .i64 1, .int .i64 0] 3) := ⟨_, rfl⟩
  have r2 : RI w2 w1.heap.size [1, 1, 0] := by rw [hw2]; exact Blk.new w1 3 [.int .i64 1, .int .i64 1, .int .i64 0]
  have b2 : Below w1.heap.size w1 w2 := by rw [hw2]; exact bl_alloc _ _
  have s2 : w2.heap.size = w.heap.size + 1 + 1 := by rw [hw2, World.size_alloc, s1]
  obtain ⟨w3, hw3⟩ : ∃ w3, w3 = w2.alloc (.cells #[.int .i64 0, .int .i64 1, .int .i64 1] 3) := ⟨_, rfl⟩
  have r3 : RI w3 w2.heap.size [0, 1, 1] := by rw [hw3]; exact Blk.new w2 3 [.int .i64 0, .int .i64 1, .int .i64 1]
  have b3 : Below w2.heap.size w2 w3 := by rw [hw3]; exact bl_alloc _ _
  have s3 : w3.heap.size = w.heap.size + 1 + 1 + 1 := by rw [hw3, World.size_alloc, s2]
  rw [s1] at r2
  rw [s2] at r3
  obtain ⟨w4, hw4⟩ : ∃ w4, w4 = w3.alloc (.cells #[.slice (some ⟨w.heap.size + 1, 0, none⟩) 3 3, .slice (some ⟨w.heap.size + 1 + 1, 0, none⟩) 3 3] 25) := ⟨_, rfl⟩
  have r4 : Blk w4 w3.heap.size 25 [.slice (some ⟨w.heap.size + 1, 0, none⟩) 3 3, .slice (some ⟨w.heap.size + 1 + 1, 0, none⟩) 3 3] := by rw [hw4]; exact Blk.new w3 25 [.slice (some ⟨w.heap.size + 1, 0, none⟩) 3 3, .slice (some ⟨w.heap.size + 1 + 1, 0, none⟩) 3 3]
  have b4 : Below w3.heap.size w3 w4 := by rw [hw4]; exact bl_alloc _ _
  rw [s3] at r4
  have q2 : RI w4 (w.heap.size + 1) [1, 1, 0] := (r2.belowS b3).belowS b4
  have q3 : RI w4 (w.heap.size + 1 + 1) [0, 1, 1] := r3.belowS b4
  have e : pathW w o = w4 := by rw [hw4, hw3, hw2, hw1]; rfl
  rw [e]
  refine ⟨SS.two r4 ?_ ?_, bl_trans (bl_trans (bl_trans hb1 b2) b3) b4⟩
  · exact RI.si q2 (by simp) (wf3 1 1 0 (by omega) (by omega) (by omega))
  · exact RI.si q3 (by simp) (wf3 0 1 1 (by omega) (by omega) (by omega))

theorem pathW_at (w : World) (o : Obj) : (pathW w o).heap[w.heap.size]? = some o := by
  unfold pathW
  rw [heap_alloc_old _ _ (by simp only [World.size_alloc]; omega), heap_alloc_old _ _ (by simp only [World.size_alloc]; omega), heap_alloc_old _ _ (by simp only [World.size_alloc]; omega), heap_alloc_new]

set_option maxHeartbeats 4000000 in
theorem path45_any (w : World) : Calls Try.prog 26 #[] w (RetPath w) := by
  have h1 := fun o => pathW_ok w o
  have h2 := fun o => pathW_at w o
  have HS := Lib.hid h1; have HH := Lib.hid h2
  clear h1 h2
  go_enter Try.func26, Try.ntmps26
  go_wp2_with fail
  refine bodyPost_ret (results_cell_row rfl _ _ w.heap.size _ _ _ _ rfl (HH.out _) rfl rfl rfl) rfl ?_
  exact ⟨_, rfl, (HS.out _).1, (HS.out _).2⟩

theorem unsTo_cnt {rows : List (List Int)} {word : List Int} : ∀ k, k ≤ rows.length → ((unsTo rows word k).length : Int) = cntTo (badOf rows word) k
  | 0, _ => rfl
  | k + 1, h => by
    rw [cntTo, ← unsTo_cnt k (by omega), badOf_getD (by omega)]
    cases ho : oddF (rows.getD k []) word
    · rw [unsTo_no ho]; simp
    · rw [unsTo_yes ho, List.length_append]; simp
theorem uns_less {n : Nat} {rows : List (List Int)} {word : List Int} (hm : MW n rows word) {s : Nat} (h : 0 ≤ nxt rows n word s) : (unsTo rows (stF rows n word (s + 1)).1 rows.length).length < (unsTo rows (stF rows n word s).1 rows.length).length := by
  have h1 := stF_cnt hm.br hm.wl h
  rw [← unsTo_cnt _ (Nat.le_refl _), ← unsTo_cnt _ (Nat.le_refl _)] at h1
  omega
theorem stF_at (rows : List (List Int)) (n : Nat) (word : List Int) : ∀ t s, s < t → (stF rows n word t).2.getD s 0 = nxt rows n word s
  | 0, s, h => by omega
  | t + 1, s, h => by
    have hl := (stF_len rows n word t).2
    show ((stF rows n word t).2 ++ [nxt rows n word t]).getD s 0 = _
    by_cases e : s = t
    · subst e
      have : ((stF rows n word s).2 ++ [nxt rows n word s]).getD (stF rows n word s).2.length 0 = nxt rows n word s := by simp [List.getD]
      rw [hl] at this
      exact this
    · have : ((stF rows n word t).2 ++ [nxt rows n word t]).getD s 0 = (stF rows n word t).2.getD s 0 := by simp [List.getD, List.getElem?_append_left (show s < (stF rows n word t).2.length by omega)]
      rw [this]
      exact stF_at rows n word t s (by omega)
theorem mwE_st {n : Nat} {rows : List (List Int)} {word : List Int} (h : mwE n rows word = 0) (s : Nat) : mwE n rows (stF rows n word s).1 = 0 := by
  obtain ⟨h1, h2⟩ := mwE_ok h
  obtain ⟨n', hn, hm⟩ := mw_of h
  obtain rfl : n = n' := by omega
  unfold mwE
  rw [if_neg (by simpa using h1)]
  have hs := mw_st hm s
  unfold wordE
  rw [if_pos (by rw [hs.wl]), entriesF_ok fun k _ => by have := hs.wb k; omega]
theorem path_mw : mwE 3 pathR [1, 0, 0] = 0 := by
  have h1 : bitE 3 pathR = 0 := by unfold bitE; rw [matE_ok field_two', order21]; decide
  unfold mwE
  rw [if_neg (by simpa using h1)]
  decide
theorem path_uns : unsTo pathR [1, 0, 0] pathR.length = [0] := by decide
end Go.Proofs.Ytgabhlalamnbgaa

/- The law MessageDecreases returns true for every input. -/
namespace Go.Proofs.Ytgabhlalamnbgaa
open Go.RowKit
set_option linter.unusedVariables false
set_option maxRecDepth 100000

set_option maxHeartbeats 16000000 in
theorem lawDecr (w : World) {hv : Value} (hh : ∃ cols rv rows, hv = .agg #[.int .i64 cols, rv] ∧ SS w rv rows) {wv : Value} (hwv : ∃ word, SI w wv word) :
    Calls Try.prog 5 #[hv, wv] w (RetB w true) := by
  obtain ⟨cols, rv, rows, rfl, hv⟩ := hh
  obtain ⟨word, hw⟩ := hwv
  have HV := Lib.hid hv; have HW := Lib.hid hw; clear hv hw
  obtain ⟨RA, rc, rfl, _⟩ := HV.out
  obtain ⟨WA, wc, rfl, _⟩ := HW.out
  have HF := Lib.hid (MBox.mk' w cols (.slice RA rows.length rc))
  generalize hr : rows.length = r at HF HV ⊢
  have HRR := Lib.hid hr; clear hr
  generalize hwl : word.length = wl at HW ⊢
  have HWL := Lib.hid hwl; clear hwl
  cases hf4 : few45 24 24 cols rows
  · have HF4 := Lib.hid hf4; clear hf4
    go_enter Try.func5, Try.ntmps5
    go_wp2_with fail
    generalize hw0 : w.alloc (.cells #[.int .i64 cols, .slice RA r rc] 24) = w0 at *
    clear hw0
    have d0 := HF.out.d0; have d1 := HF.out.d1
    go_wp2_with fail
    refine (few45_any _ 24 24 cols (.slice RA r rc) rows (HV.out.below HF.out.bel (Nat.le_refl _))).mono ?_
    rintro e w1 ⟨rfl, hb1⟩
    rw [HF4.out]
    have HB1 := Lib.hid (bl_trans HF.out.bel hb1); clear hb1
    go_wp2_with fail
    go_ret
    exact ⟨rfl, HB1.out⟩
  have HF4 := Lib.hid hf4; clear hf4
  by_cases hne : mwE cols rows word = 0
  case neg =>
    have hbb : (mwE cols rows word != 0) = true := by rw [bne_iff_ne]; exact hne
    clear hne
    go_enter Try.func5, Try.ntmps5
    go_wp2_with fail
    generalize hw0 : w.alloc (.cells #[.int .i64 cols, .slice RA r rc] 24) = w0 at *
    clear hw0
    have d0 := HF.out.d0; have d1 := HF.out.d1
    go_wp2_with fail
    refine (few45_any _ 24 24 cols (.slice RA r rc) rows (HV.out.below HF.out.bel (Nat.le_refl _))).mono ?_
    rintro e w1 ⟨rfl, hb1⟩
    rw [HF4.out]
    have HF1 := Lib.hid (HF.out.on hb1); clear hb1 d0 d1
    have d0 := HF1.out.d0; have d1 := HF1.out.d1
    go_wp2_with fail
    refine (rWord45_any _ cols (.slice RA r rc) (.slice WA wl wc) rows word (HV.out.below HF1.out.bel (Nat.le_refl _)) (HW.out.below HF1.out.bel (Nat.le_refl _))).mono ?_
    rintro e w2 ⟨rfl, hb2⟩
    have HB2 := Lib.hid (bl_trans HF1.out.bel hb2); clear hb2 d0 d1
    go_wp2_with fail
    go_ret
    exact ⟨rfl, HB2.out⟩
  obtain ⟨n, hcn, hm⟩ := mw_of hne
  subst hcn
  obtain ⟨t, htl, ht⟩ := flip_ends hm.br hm.wl
  have HM := Lib.hid hm; have HT := Lib.hid ht; have HTL := Lib.hid htl; have HE := Lib.hid hne
  have hnn := hm.nn
  have hrl : r ≤ 256 := by have := hm.rl; have := HRR.out; omega
  have htr : t ≤ r := by have := HRR.out; omega
  have hwn : word.length = n := hm.wl
  clear hm ht htl hne
  go_enter Try.func5, Try.ntmps5
  go_wp2_with fail
  generalize hw0 : w.alloc (.cells #[.int .i64 (n : Int), .slice RA r rc] 24) = w0 at *
  clear hw0
  have HWN := Lib.hid hwn; clear hwn
  have d0 := HF.out.d0; have d1 := HF.out.d1
  go_wp2_with fail
  refine (few45_any _ 24 24 n (.slice RA r rc) rows (HV.out.below HF.out.bel (Nat.le_refl _))).mono ?_
  rintro e w1 ⟨rfl, hb1⟩
  rw [HF4.out]
  have HF1 := Lib.hid (HF.out.on hb1); clear hb1 d0 d1
  have d0 := HF1.out.d0; have d1 := HF1.out.d1
  go_wp2_with fail
  refine (rWord45_any _ n (.slice RA r rc) (.slice WA wl wc) rows word (HV.out.below HF1.out.bel (Nat.le_refl _)) (HW.out.below HF1.out.bel (Nat.le_refl _))).mono ?_
  rintro e w2 ⟨rfl, hb2⟩
  rw [HE.out]
  have HF2 := Lib.hid (HF1.out.on hb2); clear hb2 d0 d1
  have d0 := HF2.out.d0; have d1 := HF2.out.d1
  go_wp2_with fail
  refine (mFlip_ok _ n t (.slice RA r rc) (.slice WA wl wc) rows word (HV.out.below HF2.out.bel (Nat.le_refl _)) (HW.out.below HF2.out.bel (Nat.le_refl _)) HE.out HT.out HTL.out).mono ?_
  rintro e w3 ⟨u1, u2, rfl, hs1, hs2, hb3⟩
  obtain ⟨A1, c1, rfl, _⟩ := id hs1
  obtain ⟨A2, c2, rfl, _⟩ := id hs2
  have HL1 : Hid ((stF rows n word t).1.length = n) := hid' (by show _ = _; rw [(stF_len rows n word t).1, HWN.out])
  have HL2 : Hid ((stF rows n word t).2.length = t) := hid' (stF_len rows n word t).2
  rw [HL1.out] at hs1 ⊢
  rw [HL2.out] at hs2 ⊢
  have HS1 := Lib.hid hs1; have HS2 := Lib.hid hs2
  have HF3 := Lib.hid (HF2.out.on hb3); clear hb3 d0 d1 hs1 hs2
  have HOE : Hid (OI w3.heap.size (w3.alloc (.cells #[] 3)) (.slice (some ⟨w3.heap.size, 0, none⟩) 0 0) []) := OI.empty w3 (Nat.le_refl _)
  have HBE := Lib.hid (bl_alloc w3 (.cells #[] 3))
  have HWE := Lib.hid ((HW.out.below HF3.out.bel (Nat.le_refl _)).below HBE.out (Nat.le_refl _))
  have HLB : Hid (([] : List Int).length + word.length ≤ 17592186044416) := hid' (by rw [HWN.out]; simp; omega)
  have d0 := HF3.out.d0; have d1 := HF3.out.d1
  go_wp2_with (at_builtin; refine wpList_catI rfl _ _ rfl w3.heap.size _ [] rfl HOE.out _ word rfl HWE.out HLB.out HBE.out.size ?_; (intro ev w4 ho hg _; (rw [List.nil_append] at ho; have HEV := Lib.hid ho; have HB4 := Lib.hid (HOE.out.bgrown HBE.out HBE.out.size hg); have HF4' := Lib.hid (HF3.out.on HB4.out); have e0 := HF4'.out.d0; have e1 := HF4'.out.d1; clear ho hg)))
  obtain ⟨EA, ec, hev⟩ := HEV.out.form'
  rw [HWN.out] at hev
  subst hev
  clear HOE HBE HWE HLB d0 d1
  have HMS := Lib.hid (fun s => mw_st HM.out s)
  have HWF : Hid (∀ s k, I64 ((stF rows n word s).1.getD k 0)) := hid' fun s k => by
    rcases (HMS.out s).wb k with h | h <;> rw [h]
    · exact I64.zero
    · exact I64.one
  have HEVS : Hid (SI w4 (.slice EA n ec) word) := hid' (HEV.out.si (by rw [HWN.out]; omega) (HWF.out 0))
  refine (rUnsat_any _ n n (.slice RA r rc) (.slice EA n ec) rows word (HV.out.below HF4'.out.bel (Nat.le_refl _)) HEVS.out HM.out).mono ?_
  rintro e w5 ⟨u5, rfl, ho5, hb5⟩
  obtain ⟨A5, c5, rfl⟩ := ho5.form'
  have HEV5 : Hid (OI w3.heap.size w5 (.slice EA n ec) (stF rows n word 0).1) := hid' (HEV.out.below hb5 (Nat.le_refl _))
  have HB5 := Lib.hid (bl_trans HB4.out hb5)
  have hul := unsTo_len rows word rows.length
  have HU0 : Hid ((unsTo rows word rows.length).length = (unsTo rows (stF rows n word 0).1 rows.length).length) := rfl
  rw [HU0.out] at hul ⊢
  clear ho5 hb5 HEV HEVS HB4 HF4' e0 e1 HU0
  go_wp2_with fail
  go_loopw [9, 10] (fun nn i wr => ∃ s : Nat, s ≤ t ∧ i = .int .i64 (s : Int) ∧ nn = .int .i64 (((unsTo rows (stF rows n word s).1 rows.length).length : Nat) : Int) ∧ Hid (OI w3.heap.size wr (.slice EA n ec) (stF rows n word s).1) ∧ Hid (Below w3.heap.size w3 wr)) (fun _ i _ => t - (intOf i).toNat)
  case atStart => exact ⟨0, Nat.zero_le _, rfl, rfl, HEV5, HB5⟩
  case round =>
    clear HEV5 HB5 hul
    obtain ⟨s, hs, rfl, rfl, HEV, HB⟩ := hrel
    have HFr := Lib.hid (HF3.out.on HB.out)
    have d0 := HFr.out.d0; have d1 := HFr.out.d1
    have hul := unsTo_len rows (stF rows n word s).1 rows.length
    by_cases hst : s < t
    · have hz0 := HT.out.1 s hst
      have hnb := nextI_bd rows n (badOf rows (stF rows n word s).1)
      have HNX : Hid (nextI rows n (badOf rows (stF rows n word s).1) = nxt rows n word s) := rfl
      rw [HNX.out] at hnb
      obtain ⟨_, hz1, _⟩ := hnb.resolve_left (by omega)
      have HSE : Hid ((stF rows n word (s + 1)).1 = flipAt (stF rows n word s).1 (nxt rows n word s).toNat) := rfl
      have HLS := Lib.hid (uns_less HM.out hz0)
      have HAT := Lib.hid (stF_at rows n word t s hst)
      obtain ⟨ad, x, rfl, hc, _, HX⟩ := (HS2.out.below HB.out (Nat.le_refl _)).elt (k := s) (by rw [HL2.out]; exact hst)
      rw [HAT.out] at HX
      obtain ⟨p, hp⟩ : ∃ p : Nat, nxt rows n word s = (p : Int) := ⟨(nxt rows n word s).toNat, by omega⟩
      rw [hp] at HSE HX hz1
      rw [Int.toNat_natCast] at HSE
      have hxp : x = (p : Int) := HX.out.symm
      subst hxp
      have hpn : p < n := by omega
      have hp0 : decide ((p : Int) < 0) = false := by simp
      have hp1 : decide (n ≤ p) = false := by simp; omega
      clear hz0 hz1 hp hnb HX HAT HNX
      obtain ⟨ge, c', he, hge1, hge2⟩ := HEV.out.form (by rw [(HMS.out s).wl]; omega)
      injection he with e1 e2 e3
      subst e1
      clear e2 e3 c'
      have hec := HEV.out.cell p (by rw [(HMS.out s).wl]; exact hpn)
      have hef := HEV.out.frozen p
      have hyb := (HMS.out s).wb p
      have HEVs := Lib.hid (HEV.out.set p (1 - (stF rows n word s).1.getD p 0))
      have HEVs2 : Hid (OI w3.heap.size (wr.setCell ⟨ge, p, none⟩ (.int .i64 (1 - (stF rows n word s).1.getD p 0))) (.slice (some ⟨ge, 0, none⟩) n ec) (stF rows n word (s + 1)).1) := hid' (by rw [HSE.out]; exact HEVs.out)
      have HBs := Lib.hid (HB.out.setCell (p := ⟨ge, p, none⟩) hge1 (.int .i64 (1 - (stF rows n word s).1.getD p 0)))
      clear HEVs HEV
      generalize (stF rows n word s).1.getD p 0 = y at *
      have hy0 : 0 ≤ y ∧ y ≤ 1 := by omega
      obtain ⟨hy1, hy2⟩ := hy0
      have hwy : IntKind.i64.wrap (1 - y) = 1 - y := IntWalk.i64_in _ (by omega)
      clear hyb
      go_wp2_with fail
      go_quiet (fail)
      rename_i nq
      clear hp0 hp1
      go_wp2_with fail
      refine Drawn.start (S := fun w' => w'.cell? (ad.add s) = some (.int .i64 (p : Int)) ∧ w'.cell? ⟨ge, p, none⟩ = some (.int .i64 y)) (by kernel_rfl) (⟨hc, hec⟩) (fun hHeld => ?_)
      change Drawn _ _ _ _ 15 _ _ _
      refine Drawn.take (i := 0) (v := ?_) rfl (by kernel_rfl) (by kernel_rfl) (by kernel_rfl) (by kernel_rfl) (fun _ _ _ h => h) (Or.inl ⟨by kernel_rfl, ?_⟩) hHeld ?_
      rotate_left
      · intro w' hSw; (try dsimp only at hSw); first | (go_simp; done) | (go_simp; with_reducible rfl)
      try simp only [List.getElem_toArray, List.getElem_cons_zero, List.getElem_cons_succ, Act.put, List.setIfInBounds_toArray, List.set_cons_zero, List.set_cons_succ]
      refine Drawn.take (i := 1) (v := ?_) rfl (by kernel_rfl) (by kernel_rfl) (by kernel_rfl) (by kernel_rfl) (fun _ _ _ h => h) (Or.inl ⟨by kernel_rfl, ?_⟩) hHeld ?_
      rotate_left
      · intro w' hSw; (try dsimp only at hSw); first | (go_simp; done) | (go_simp; with_reducible rfl)
      try simp only [List.getElem_toArray, List.getElem_cons_zero, List.getElem_cons_succ, Act.put, List.setIfInBounds_toArray, List.set_cons_zero, List.set_cons_succ]
      refine Drawn.take (i := 2) (v := ?_) rfl (by kernel_rfl) (by kernel_rfl) (by kernel_rfl) (by kernel_rfl) (fun _ _ _ h => h) (Or.inl ⟨by kernel_rfl, ?_⟩) hHeld ?_
      rotate_left
      · intro w' hSw; (try dsimp only at hSw); first | (go_simp; done) | (go_simp; with_reducible rfl)
      try simp only [List.getElem_toArray, List.getElem_cons_zero, List.getElem_cons_succ, Act.put, List.setIfInBounds_toArray, List.set_cons_zero, List.set_cons_succ]
      refine Drawn.take (i := 3) (v := ?_) rfl (by kernel_rfl) (by kernel_rfl) (by kernel_rfl) (by kernel_rfl) (fun _ _ _ h => h) (Or.inl ⟨by kernel_rfl, ?_⟩) hHeld ?_
      rotate_left
      · intro w' hSw; (try dsimp only at hSw); first | (go_simp; done) | (go_simp; with_reducible rfl)
      try simp only [List.getElem_toArray, List.getElem_cons_zero, List.getElem_cons_succ, Act.put, List.setIfInBounds_toArray, List.set_cons_zero, List.set_cons_succ]
      refine Drawn.take (i := 4) (v := ?_) rfl (by kernel_rfl) (by kernel_rfl) (by kernel_rfl) (by kernel_rfl) (fun _ _ _ h => h) (Or.inl ⟨by kernel_rfl, ?_⟩) hHeld ?_
      rotate_left
      · intro w' hSw; (try dsimp only at hSw); first | (go_simp; done) | (go_simp; with_reducible rfl)
      try simp only [List.getElem_toArray, List.getElem_cons_zero, List.getElem_cons_succ, Act.put, List.setIfInBounds_toArray, List.set_cons_zero, List.set_cons_succ]
      refine Drawn.take (i := 5) (v := ?_) rfl (by kernel_rfl) (by kernel_rfl) (by kernel_rfl) (by kernel_rfl) (fun _ _ _ h => h) (Or.inl ⟨by kernel_rfl, ?_⟩) hHeld ?_
      rotate_left
      · intro w' hSw; (try dsimp only at hSw); first | (go_simp; done) | (go_simp; with_reducible rfl)
      try simp only [List.getElem_toArray, List.getElem_cons_zero, List.getElem_cons_succ, Act.put, List.setIfInBounds_toArray, List.set_cons_zero, List.set_cons_succ]
      refine Drawn.take (i := 6) (v := ?_) rfl (by kernel_rfl) (by kernel_rfl) (by kernel_rfl) (by kernel_rfl) (fun _ _ _ h => h) (Or.inl ⟨by kernel_rfl, ?_⟩) hHeld ?_
      rotate_left
      · intro w' hSw; (try dsimp only at hSw); first | (go_simp; done) | (go_simp; with_reducible rfl)
      try simp only [List.getElem_toArray, List.getElem_cons_zero, List.getElem_cons_succ, Act.put, List.setIfInBounds_toArray, List.set_cons_zero, List.set_cons_succ]
      refine Drawn.take (i := 7) (v := ?_) rfl (by kernel_rfl) (by kernel_rfl) (by kernel_rfl) (by kernel_rfl) (fun _ _ _ h => h) (Or.inl ⟨by kernel_rfl, ?_⟩) hHeld ?_
      rotate_left
      · intro w' hSw; (try dsimp only at hSw); first | (go_simp; done) | (go_simp; with_reducible rfl)
      try simp only [List.getElem_toArray, List.getElem_cons_zero, List.getElem_cons_succ, Act.put, List.setIfInBounds_toArray, List.set_cons_zero, List.set_cons_succ]
      refine Drawn.take (i := 8) (v := ?_) rfl (by kernel_rfl) (by kernel_rfl) (by kernel_rfl) (by kernel_rfl) (fun _ _ _ h => h) (Or.inl ⟨by kernel_rfl, ?_⟩) hHeld ?_
      rotate_left
      · intro w' hSw; (try dsimp only at hSw); first | (go_simp; done) | (go_simp; with_reducible rfl)
      try simp only [List.getElem_toArray, List.getElem_cons_zero, List.getElem_cons_succ, Act.put, List.setIfInBounds_toArray, List.set_cons_zero, List.set_cons_succ]
      refine Drawn.take (i := 9) (v := ?_) rfl (by kernel_rfl) (by kernel_rfl) (by kernel_rfl) (by kernel_rfl) (fun _ _ _ h => h) (Or.inl ⟨by kernel_rfl, ?_⟩) hHeld ?_
      rotate_left
      · intro w' hSw; (try dsimp only at hSw); first | (go_simp; done) | (go_simp; with_reducible rfl)
      try simp only [List.getElem_toArray, List.getElem_cons_zero, List.getElem_cons_succ, Act.put, List.setIfInBounds_toArray, List.set_cons_zero, List.set_cons_succ]
      refine Drawn.take (i := 10) (v := ?_) rfl (by kernel_rfl) (by kernel_rfl) (by kernel_rfl) (by kernel_rfl) (fun _ _ _ h => h) (Or.inl ⟨by kernel_rfl, ?_⟩) hHeld ?_
      rotate_left
      · intro w' hSw; (try dsimp only at hSw); first | (go_simp; done) | (go_simp; with_reducible rfl)
      try simp only [List.getElem_toArray, List.getElem_cons_zero, List.getElem_cons_succ, Act.put, List.setIfInBounds_toArray, List.set_cons_zero, List.set_cons_succ]
      refine Drawn.take (i := 11) (v := ?_) rfl (by kernel_rfl) (by kernel_rfl) (by kernel_rfl) (by kernel_rfl) (fun _ _ _ h => h) (Or.inl ⟨by kernel_rfl, ?_⟩) hHeld ?_
      rotate_left
      · intro w' hSw; (try dsimp only at hSw); first | (go_simp; done) | (go_simp; with_reducible rfl)
      try simp only [List.getElem_toArray, List.getElem_cons_zero, List.getElem_cons_succ, Act.put, List.setIfInBounds_toArray, List.set_cons_zero, List.set_cons_succ]
      refine Drawn.take (i := 12) (v := ?_) rfl (by kernel_rfl) (by kernel_rfl) (by kernel_rfl) (by kernel_rfl) (fun _ _ _ h => h) (Or.inl ⟨by kernel_rfl, ?_⟩) hHeld ?_
      rotate_left
      · intro w' hSw; (try dsimp only at hSw); first | (go_simp; done) | (go_simp; with_reducible rfl)
      try simp only [List.getElem_toArray, List.getElem_cons_zero, List.getElem_cons_succ, Act.put, List.setIfInBounds_toArray, List.set_cons_zero, List.set_cons_succ]
      refine Drawn.take (i := 13) (v := ?_) rfl (by kernel_rfl) (by kernel_rfl) (by kernel_rfl) (by kernel_rfl) (fun _ _ _ h => h) (Or.inl ⟨by kernel_rfl, ?_⟩) hHeld ?_
      rotate_left
      · intro w' hSw; (try dsimp only at hSw); first | (go_simp; done) | (go_simp; with_reducible rfl)
      try simp only [List.getElem_toArray, List.getElem_cons_zero, List.getElem_cons_succ, Act.put, List.setIfInBounds_toArray, List.set_cons_zero, List.set_cons_succ]
      refine Drawn.only (i := 14) (by kernel_rfl) rfl (fun K hK => ?_)
      go_simp
      refine hK.out _ _ (fun h => absurd rfl h) (fun hHeld2 => ?_)
      clear hK K
      clear hHeld2
      refine Drawn.done (by kernel_rfl) ?_
      try simp only [List.getElem_toArray, List.getElem_cons_zero, List.getElem_cons_succ, Act.put, List.setIfInBounds_toArray, List.set_cons_zero, List.set_cons_succ]
      clear hHeld
      generalize hwz : (wr.drewN (nq + 1)).setCell ⟨ge, p, none⟩ (.int .i64 (1 - y)) = wz at *
      have HEZ : Hid (OI w3.heap.size wz (.slice (some ⟨ge, 0, none⟩) n ec) (stF rows n word (s + 1)).1) := hid' (by rw [← hwz]; exact HEVs2.out)
      have HBZ : Hid (Below w3.heap.size w3 wz) := hid' (by rw [← hwz]; exact (bl_trans HB.out (bl_drewN wr (nq + 1))).setCell (p := ⟨ge, p, none⟩) hge1 _)
      clear HEVs2 HBs hwz hc hec hef d0 d1
      have HFz := Lib.hid (HF3.out.on HBZ.out)
      have d0 := HFz.out.d0; have d1 := HFz.out.d1
      have HEZS : Hid (SI wz (.slice (some ⟨ge, 0, none⟩) n ec) (stF rows n word (s + 1)).1) := hid' (HEZ.out.si (by rw [(HMS.out _).wl]; omega) (HWF.out _))
      go_wp2_with fail
      refine (rUnsat_any _ n n (.slice RA r rc) (.slice (some ⟨ge, 0, none⟩) n ec) rows (stF rows n word (s + 1)).1 (HV.out.below HFz.out.bel (Nat.le_refl _)) HEZS.out (HMS.out _)).mono ?_
      rintro e w6 ⟨u6, rfl, ho6, hb6⟩
      obtain ⟨A6, c6, rfl⟩ := ho6.form'
      have HEZ6 := Lib.hid (HEZ.out.below hb6 (Nat.le_refl _))
      have HBZ6 := Lib.hid (bl_trans HBZ.out hb6)
      have HLQ := HLS.out
      have hul2 := unsTo_len rows (stF rows n word (s + 1)).1 rows.length
      generalize hq0 : (unsTo rows (stF rows n word s).1 rows.length).length = q0 at *
      generalize hq1 : (unsTo rows (stF rows n word (s + 1)).1 rows.length).length = q1 at *
      have HQ1 := Lib.hid hq1
      clear ho6 hb6 HEZS d0 d1 hq1 hq0
      have hq : decide (q0 ≤ q1) = false := by simp; omega
      go_wp2_with fail
      exact ⟨⟨s + 1, by omega, by push_cast; rfl, by rw [HQ1.out], HEZ6, HBZ6⟩, by simp only [intOf]; omega⟩
    · obtain rfl : s = t := by omega
      have HNT : Hid (nextI rows n (badOf rows (stF rows n word s).1) < 0) := hid' HT.out.2
      have HE2 := Lib.hid (mwE_st HE.out s)
      have HIF2 : Hid ((if mwE n rows (stF rows n word s).1 = 0 then unsTo rows (stF rows n word s).1 rows.length else []) = unsTo rows (stF rows n word s).1 rows.length) := hid' (if_pos HE2.out)
      have HIFP : Hid ((if mwE 3 pathR [1, 0, 0] = 0 then unsTo pathR [1, 0, 0] pathR.length else []) = [0]) := hid' ((if_pos path_mw).trans path_uns)
      have HS1r := Lib.hid (HS1.out.below HB.out (Nat.le_refl _))
      go_wp2_with fail
      refine (mUnsat_any _ n (.slice RA r rc) (.slice A1 n c1) rows (stF rows n word s).1 (HV.out.below HFr.out.bel (Nat.le_refl _)) HS1r.out).mono ?_
      rintro e w6 ⟨u6, rfl, hs6, _, hb6⟩
      rw [HIF2.out] at hs6
      rw [HE2.out]
      obtain ⟨A6, c6, rfl, _⟩ := id hs6
      have HB6 := Lib.hid (bl_trans HB.out hb6)
      have HEV6 := Lib.hid (HEV.out.below hb6 (Nat.le_refl _))
      clear hb6 hs6 d0 d1
      generalize hq0 : (unsTo rows (stF rows n word s).1 rows.length).length = q0 at *
      clear hq0
      go_wp2_with fail
      refine (path45_any _).mono ?_
      rintro e w8 ⟨rv8, rfl, hs8, hb8⟩
      have HS8 := Lib.hid hs8
      have HB8 := Lib.hid (bl_trans HB6.out hb8)
      have HEV8 := Lib.hid (HEV6.out.below hb8 (Nat.le_refl _))
      clear hs8 hb8
      have ha8 := bl_alloc w8 (.cells #[.int .i64 1, .int .i64 0, .int .i64 0] 3)
      have HS9 := Lib.hid (HS8.out.below ha8 (Nat.le_refl _))
      have HB9 := Lib.hid (bl_trans HB8.out ha8)
      have HEV9 := Lib.hid (HEV8.out.below ha8 (Nat.le_refl _))
      have HL9 : Hid (SI (w8.alloc (.cells #[.int .i64 1, .int .i64 0, .int .i64 0] 3)) (.slice (some ⟨w8.heap.size, 0, none⟩) 3 3) [1, 0, 0]) := hid' (RI.si (xs := [1, 0, 0]) (show RI _ _ [1, 0, 0] from Blk.new w8 3 [.int .i64 1, .int .i64 0, .int .i64 0]) (by simp) (wf3 1 0 0 (by omega) (by omega) (by omega)))
      clear ha8 HS8 HB8 HEV8 HB6 HEV6 HEV
      go_wp2_with fail
      refine (mUnsat_any _ 3 rv8 (.slice (some ⟨w8.heap.size, 0, none⟩) 3 3) pathR [1, 0, 0] HS9.out HL9.out).mono ?_
      rintro e w10 ⟨u10, rfl, hs10, _, hb10⟩
      rw [HIFP.out] at hs10
      rw [path_mw]
      obtain ⟨A10, c10, rfl, _⟩ := id hs10
      have ha10 := bl_alloc w10 (.cells #[.int .i64 0] 3)
      have HU11 := Lib.hid (hs10.below ha10 (Nat.le_refl _))
      have hb11 := bl_trans hb10 ha10
      have HB11 := Lib.hid (bl_trans HB9.out hb11)
      have HEV11 := Lib.hid (HEV9.out.below hb11 (Nat.le_refl _))
      have HL11 : Hid (SI (w10.alloc (.cells #[.int .i64 0] 3)) (.slice (some ⟨w10.heap.size, 0, none⟩) 1 1) [0]) := hid' (RI.si (xs := [0]) (show RI _ _ [0] from Blk.new w10 3 [.int .i64 0]) (by simp) (fun k => by match k with | 0 => exact I64.zero | k + 1 => exact I64.zero))
      clear ha10 hs10 hb10 hb11 HB9 HEV9 HS9 HL9
      rw [show ([0] : List Int).length = 1 from rfl] at HU11 ⊢
      go_wp2_with fail
      refine (rSameInts_any _ _ _ _ _ HU11.out HL11.out).mono ?_
      rintro e w12 ⟨rfl, hb12⟩
      rw [decide_eq_true (rfl : ([0] : List Int) = [0])]
      have HB12 := Lib.hid (bl_trans HB11.out hb12)
      have HEV12 := Lib.hid (HEV11.out.below hb12 (Nat.le_refl _))
      have HES12 : Hid (SI w12 (.slice EA n ec) (stF rows n word s).1) := hid' (HEV12.out.si (by rw [(HMS.out _).wl]; omega) (HWF.out _))
      have HS12 := Lib.hid (HS1.out.below HB12.out (Nat.le_refl _))
      clear HU11 HL11 HB11 HEV11 hb12
      go_wp2_with fail
      refine (rSameInts_any _ _ _ _ _ HES12.out HS12.out).mono ?_
      rintro e w13 ⟨rfl, hb13⟩
      rw [decide_eq_true (rfl : (stF rows n word s).1 = (stF rows n word s).1)]
      have HB13 := Lib.hid (bl_trans HB12.out hb13)
      have HES13 := Lib.hid (HES12.out.below hb13 (Nat.le_refl _))
      have HF13 := Lib.hid (HF3.out.on HB13.out)
      have d0 := HF13.out.d0; have d1 := HF13.out.d1
      clear HES12 HS12 HB12 HEV12 hb13
      go_wp2_with fail
      refine (rNext_any _ n (.slice RA r rc) (.slice EA n ec) rows (stF rows n word s).1 (HV.out.below HF13.out.bel (Nat.le_refl _)) HES13.out (HMS.out s)).mono ?_
      rintro e w14 ⟨rfl, hb14⟩
      have HB14 := Lib.hid (bl_trans HF13.out.bel hb14)
      have hlt := HNT.out
      clear hb14 d0 d1
      go_wp2_with fail
      go_ret
      exact ⟨rfl, HB14.out⟩
end Go.Proofs.Ytgabhlalamnbgaa

/- MessageDecreases: the law returns true for every input; each argument reads behind the call as it read before. The walk is in LDecr. -/
namespace Go.Proofs.Ytgabhlalamnbgaa.messageDecreases
open Go.ChangeShapes Go.WideShapes Go.ChangeAt Go.RowKit
set_option linter.unusedVariables false

set_option maxRecDepth 100000 in
theorem lifted (os : Os) (started : os.Started) (H : Type) (enc : TypeId × Value → H) :
    ReturnsInHanded {} Try.checked os 5 .any (Rows.messageDecreasesSpec.pre6 enc Try.prog Try.f5 Rows.messageDecreasesRow.domain false) (Rows.messageDecreasesSpec.post enc Try.prog Try.f5 false true false false) := by
  refine returnsInHanded_of_change_sized (C := Try.checked) own started (by kernel_rfl) Try.func5
    (ChangeSpec.witness6 (enc := enc) (C := Try.checked) false ⟨#[], #[.agg #[.int .i64 0, .slice none 0 0], .slice none 0 0], []⟩ 8 (by kernel_rfl) (by kernel_rfl) (by kernel_rfl) (by kernel_rfl)) ?_
  intro W base args ds gs before hval0 hW _ hsz0 _
  have hsz : (DataW.weightsEach Try.prog (Try.f5.params.toList ++ Rows.messageDecreasesSpec.plain.varTypes Try.prog) (ds ++ gs)).all (· ≤ reachBytes) = true := hsz0
  have hval : ∀ (j : Nat) t v, Try.f5.params[j]? = some t → args[j]? = some v → Value.okWide Try.prog W .any base t v := hval0
  have hW' := hW
  obtain ⟨p, q, hA0, hV, rfl, hfz, hnd⟩ := hW
  have hA : DataW.TrodAll enc Try.prog W 0 (fun _ => true) true Try.f5.params.toList args.toList ds p := hA0
  rw [Try.params5] at hA hval hsz
  obtain ⟨v0, vs0, d0, ds0, p0, q0, hargs, rfl, rfl, h0, r0'⟩ := trodAll_cons hA
  obtain ⟨v1, vs1, d1, ds1, p1, q1, rfl, rfl, rfl, h1, r1'⟩ := trodAll_cons r0'
  obtain ⟨rfl, rfl, rfl⟩ := trodAll_nil r1'
  obtain rfl : args = #[v0, v1] := by cases args; simp_all
  obtain ⟨rfl, rfl⟩ := trodVars_none hV
  have k0 := h0
  have r0 := open_Matrix h0 (hval 0 24 v0 rfl rfl) (weigh hsz 0 rfl rfl)
  have k1 := h1
  have r1 := open_SI h1 (hval 1 25 v1 rfl rfl) (weigh hsz 1 rfl rfl)
  clear hA0 hval0
  refine (lawDecr W r0 r1).mono fun e W' ⟨he, bel⟩ => ?_
  subst he
  exact ⟨_, rfl, _, _, _, [], _, [], hW', trodAll_mk1 (shut_bool Try.underlying4 _), (trodAll_cons_mk (Below.trod laidOut (by kernel_rfl) (of_decide_eq_true (by kernel_rfl)) k0 bel (lt_of_trod k0)) (trodAll_cons_mk (Below.trod laidOut (by kernel_rfl) (of_decide_eq_true (by kernel_rfl)) k1 bel (lt_of_trod k1)) trodAll_mk0)), rfl, bel.frame _, fun h => by cases h⟩

theorem proved : Rows.MessageDecreasesSaid :=
  OpenClaim.holds_of_wide 5 Try.f5 rfl rfl rfl rfl rfl rfl rfl ⟨rfl, rfl, rfl, rfl, rfl⟩ rfl rfl rfl rfl rfl (by kernel_rfl) Try.func5 (by kernel_rfl)
    (of_decide_eq_true (by kernel_rfl)) (by unfold Func.isWrapper; first | (rw [if_pos (by decide +kernel)]; kernel_rfl) | (rw [if_neg (by decide +kernel)]; exact ⟨rfl, rfl⟩))
    (fun os started H enc _ => lifted os started H enc)
#print axioms proved
end Go.Proofs.Ytgabhlalamnbgaa.messageDecreases
