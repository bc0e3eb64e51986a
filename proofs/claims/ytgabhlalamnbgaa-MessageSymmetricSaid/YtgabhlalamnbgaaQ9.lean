/- Texts of a claim, merged: words, plain facts and walks that the last of its texts uses. -/
import Derived.Test.YtgabhlalamnbgaaQ1
import Derived.Test.YtgabhlalamnbgaaQ8
set_option linter.unusedSimpArgs false
set_option linter.unusedVariables false

/- message.Unsatisfied, message.Flip. -/
namespace Go.Proofs.Ytgabhlalamnbgaa
open Go.RowKit
set_option linter.unusedVariables false
set_option maxRecDepth 100000

theorem GR.hd {w : World} {g n r : Nat} {rows : List (List Int)} (h : GR w g (cksTo rows n r) (atTo rows n r 0)) : ∃ CA cc gA, w.cell? ⟨g, 0, none⟩ = some (.slice CA r cc) ∧ w.cell? ⟨g, 1, none⟩ = some (.slice (some ⟨gA, 0, none⟩) n n) ∧ EEat w gA (atTo rows n r 0) := by
  obtain ⟨cv, gA, h0, h1, ⟨CA, cc, rfl, _⟩, he⟩ := h
  rw [cksTo_len] at h0
  rw [atTo_len] at h1
  exact ⟨CA, cc, gA, h0, h1, he⟩
/-- the error of a matrix of bits and a word -/
noncomputable def mwE (cols : Int) (rows : List (List Int)) (word : List Int) : Int := if bitE cols rows ≠ 0 then bitE cols rows else wordE cols word
theorem mwE_ok {cols : Int} {rows : List (List Int)} {word : List Int} (h : mwE cols rows word = 0) : bitE cols rows = 0 ∧ wordE cols word = 0 := by
  unfold mwE at h
  by_cases h1 : bitE cols rows = 0
  · rw [if_neg (by simpa using h1)] at h; exact ⟨h1, h⟩
  · rw [if_pos h1] at h; exact absurd h h1
/-- what a right matrix and a right word give -/
structure MW (n : Nat) (rows : List (List Int)) (word : List Int) : Prop where
  nn : n ≤ 256
  rl : rows.length ≤ 256
  br : BitRows n rows
  wl : word.length = n
  wb : Bit word
theorem mw_of {cols : Int} {rows : List (List Int)} {word : List Int} (h : mwE cols rows word = 0) : ∃ n : Nat, cols = (n : Int) ∧ MW n rows word := by
  obtain ⟨h1, h2⟩ := mwE_ok h
  obtain ⟨a, b, c, d⟩ := bitE_ok h1
  obtain ⟨e, f⟩ := wordE_ok h2
  refine ⟨cols.toNat, by omega, by omega, c, fun j hj => ?_, by omega, f⟩
  obtain ⟨d1, d2⟩ := d j hj
  exact ⟨by omega, d2⟩

set_option maxHeartbeats 8000000 in
theorem mUnsat_any (w : World) (cols : Int) (rv wv : Value) (rows : List (List Int)) (word : List Int) (hv : SS w rv rows) (hw : SI w wv word) :
    Calls Try.prog 20 #[.agg #[.int .i64 cols, rv], wv] w (RetLE w (if mwE cols rows word = 0 then unsTo rows word rows.length else []) (mwE cols rows word)) := by
  have HV := Lib.hid hv; have HW := Lib.hid hw; clear hv hw
  obtain ⟨RA, rc, rfl, _⟩ := HV.out
  have HF := Lib.hid (MBox.mk' w cols (.slice RA rows.length rc))
  by_cases hb : bitE cols rows = 0
  case neg =>
    have HE : Hid (mwE cols rows word = bitE cols rows) := by show _ = _; unfold mwE; rw [if_pos hb]
    rw [HE.out, if_neg hb]
    have HBN := Lib.hid hb
    have hbb : (bitE cols rows != 0) = true := by rw [bne_iff_ne]; exact hb
    clear hb
    go_enter Try.func20, Try.ntmps20
    go_wp2_with fail
    generalize hw0 : w.alloc (.cells #[.int .i64 cols, .slice RA rows.length rc] 24) = w0 at *
    clear hw0
    have d0 := HF.out.d0; have d1 := HF.out.d1
    go_wp2_with fail
    refine (build_no _ cols _ rows (HV.out.below HF.out.bel (Nat.le_refl _)) HBN.out).mono ?_
    rintro e w1 ⟨rfl, hb1⟩
    have HB1 := Lib.hid (bl_trans HF.out.bel hb1); clear hb1
    go_wp2_with fail
    go_ret2
    exact RetLE.nil w _ HB1.out
  have HB := Lib.hid hb
  by_cases hwe : wordE cols word = 0
  case neg =>
    have HE : Hid (mwE cols rows word = wordE cols word) := by show _ = _; unfold mwE; rw [if_neg (by simpa using hb)]
    rw [HE.out, if_neg hwe]
    have hbb : (wordE cols word != 0) = true := by rw [bne_iff_ne]; exact hwe
    clear hb hwe
    go_enter Try.func20, Try.ntmps20
    go_wp2_with fail
    generalize hw0 : w.alloc (.cells #[.int .i64 cols, .slice RA rows.length rc] 24) = w0 at *
    clear hw0
    have d0 := HF.out.d0; have d1 := HF.out.d1
    go_wp2_with fail
    refine (build_ok _ cols _ rows (HV.out.below HF.out.bel (Nat.le_refl _)) HB.out).mono ?_
    rintro e w1 ⟨g, rfl, _, hb1⟩
    have HF1 := Lib.hid (HF.out.on hb1); clear hb1 d0 d1
    have d0 := HF1.out.d0; have d1 := HF1.out.d1
    go_wp2_with fail
    refine (bitsOf_any _ cols _ wv word (HW.out.below HF1.out.bel (Nat.le_refl _)) RA rows.length rc rfl).mono ?_
    rintro e w2 ⟨rfl, hb2⟩
    have HB2 := Lib.hid (bl_trans HF1.out.bel hb2); clear hb2
    go_wp2_with fail
    go_ret2
    exact RetLE.nil w _ HB2.out
  have HWE := Lib.hid hwe
  have HE : Hid (mwE cols rows word = 0) := by show _ = _; unfold mwE; rw [if_neg (by simpa using hb), hwe]
  obtain ⟨n, hcn, hm⟩ := mw_of HE.out
  rw [HE.out, if_pos rfl]
  subst hcn
  have HMW := Lib.hid hm
  clear hb hwe hm
  go_enter Try.func20, Try.ntmps20
  go_wp2_with fail
  generalize hw0 : w.alloc (.cells #[.int .i64 (n : Int), .slice RA rows.length rc] 24) = w0 at *
  clear hw0
  have d0 := HF.out.d0; have d1 := HF.out.d1
  go_wp2_with fail
  refine (build_ok _ n _ rows (HV.out.below HF.out.bel (Nat.le_refl _)) HB.out).mono ?_
  rintro e w1 ⟨g, rfl, hg1, hb1⟩
  rw [Int.toNat_natCast] at hg1
  have HG1 := Lib.hid hg1.out
  have HF1 := Lib.hid (HF.out.on hb1); clear hb1 d0 d1 hg1
  have d0 := HF1.out.d0; have d1 := HF1.out.d1
  go_wp2_with fail
  refine (bitsOf_any _ n _ wv word (HW.out.below HF1.out.bel (Nat.le_refl _)) RA rows.length rc rfl).mono ?_
  rintro e w2 ⟨rfl, hb2⟩
  rw [HWE.out]
  have HG2 := Lib.hid (HG1.out.on hb2)
  have HB2 := Lib.hid (bl_trans HF1.out.bel hb2); clear hb2 d0 d1
  go_wp2_with fail
  refine (muns_any _ g n rows wv word HG2.out HMW.out.br (HW.out.below HB2.out (Nat.le_refl _)) HMW.out.wl HMW.out.wb HMW.out.nn HMW.out.rl).mono ?_
  rintro e w3 ⟨u, rfl, hu, hb3⟩
  have HB3 := Lib.hid (bl_trans HB2.out hb3)
  have HU := Lib.hid hu
  have hul := unsTo_len rows word rows.length
  have hrl := HMW.out.rl
  clear hb3 hu
  go_wp2_with fail
  go_ret2
  exact ⟨_, rfl, HU.out.si (by omega) (fun k => by have := unsTo_bd rows word rows.length k; exact I64.of_small (by omega) (by omega)), HU.out.new HB2.out.size, HB3.out⟩

theorem stF_rng (rows : List (List Int)) (n : Nat) (word : List Int) : ∀ s k : Nat, -1 ≤ (stF rows n word s).2.getD k 0 ∧ (stF rows n word s).2.getD k 0 ≤ n
  | 0, k => by show -1 ≤ ([] : List Int).getD k 0 ∧ ([] : List Int).getD k 0 ≤ n; simp
  | s + 1, k => by
    have ih := stF_rng rows n word s k
    have hb := nextI_bd rows n (badOf rows (stF rows n word s).1)
    show -1 ≤ ((stF rows n word s).2 ++ [nextI rows n (badOf rows (stF rows n word s).1)]).getD k 0 ∧ ((stF rows n word s).2 ++ [nextI rows n (badOf rows (stF rows n word s).1)]).getD k 0 ≤ n
    by_cases h : k < (stF rows n word s).2.length
    · have e : ((stF rows n word s).2 ++ [nextI rows n (badOf rows (stF rows n word s).1)]).getD k 0 = (stF rows n word s).2.getD k 0 := by simp [List.getD, List.getElem?_append_left h]
      rw [e]; exact ih
    · by_cases h2 : k = (stF rows n word s).2.length
      · have e : ((stF rows n word s).2 ++ [nextI rows n (badOf rows (stF rows n word s).1)]).getD k 0 = nextI rows n (badOf rows (stF rows n word s).1) := by rw [h2]; simp [List.getD]
        rw [e]; omega
      · rw [getD_len (by rw [List.length_append]; simp; omega)]; omega
/-- Flip's results -/
def RetFl (w : World) (xs ys : List Int) (er : Int) (e : Ending) (w' : World) : Prop := ∃ u1 u2, e = .returned (.tuple #[u1, u2, .int .i64 er]) ∧ SI w' u1 xs ∧ SI w' u2 ys ∧ Below w.heap.size w w'
set_option maxHeartbeats 8000000 in
theorem mFlip_no (w : World) (cols : Int) (rv wv : Value) (rows : List (List Int)) (word : List Int) (hv : SS w rv rows) (hw : SI w wv word) (hne : mwE cols rows word ≠ 0) :
    Calls Try.prog 19 #[.agg #[.int .i64 cols, rv], wv] w (RetFl w [] [] (mwE cols rows word)) := by
  have HV := Lib.hid hv; have HW := Lib.hid hw; clear hv hw
  obtain ⟨RA, rc, rfl, _⟩ := HV.out
  have HF := Lib.hid (MBox.mk' w cols (.slice RA rows.length rc))
  by_cases hb : bitE cols rows = 0
  case neg =>
    have HE : Hid (mwE cols rows word = bitE cols rows) := by show _ = _; unfold mwE; rw [if_pos hb]
    rw [HE.out]
    have HBN := Lib.hid hb
    have hbb : (bitE cols rows != 0) = true := by rw [bne_iff_ne]; exact hb
    clear hb hne
    go_enter Try.func19, Try.ntmps19
    go_wp2_with fail
    generalize hw0 : w.alloc (.cells #[.int .i64 cols, .slice RA rows.length rc] 24) = w0 at *
    clear hw0
    have d0 := HF.out.d0; have d1 := HF.out.d1
    go_wp2_with fail
    refine (build_no _ cols _ rows (HV.out.below HF.out.bel (Nat.le_refl _)) HBN.out).mono ?_
    rintro e w1 ⟨rfl, hb1⟩
    have HB1 := Lib.hid (bl_trans HF.out.bel hb1); clear hb1
    go_wp2_with fail
    go_ret3
    exact ⟨_, _, rfl, SI.none_ _, SI.none_ _, HB1.out⟩
  have HB := Lib.hid hb
  have HE : Hid (mwE cols rows word = wordE cols word) := by show _ = _; unfold mwE; rw [if_neg (by simpa using hb)]
  rw [HE.out] at hne ⊢
  have hbb : (wordE cols word != 0) = true := by rw [bne_iff_ne]; exact hne
  clear hb hne
  go_enter Try.func19, Try.ntmps19
  go_wp2_with fail
  generalize hw0 : w.alloc (.cells #[.int .i64 cols, .slice RA rows.length rc] 24) = w0 at *
  clear hw0
  have d0 := HF.out.d0; have d1 := HF.out.d1
  go_wp2_with fail
  refine (build_ok _ cols _ rows (HV.out.below HF.out.bel (Nat.le_refl _)) HB.out).mono ?_
  rintro e w1 ⟨g, rfl, _, hb1⟩
  have HF1 := Lib.hid (HF.out.on hb1); clear hb1 d0 d1
  have d0 := HF1.out.d0; have d1 := HF1.out.d1
  go_wp2_with fail
  refine (bitsOf_any _ cols _ wv word (HW.out.below HF1.out.bel (Nat.le_refl _)) RA rows.length rc rfl).mono ?_
  rintro e w2 ⟨rfl, hb2⟩
  have HB2 := Lib.hid (bl_trans HF1.out.bel hb2); clear hb2
  go_wp2_with fail
  go_ret3
  exact ⟨_, _, rfl, SI.none_ _, SI.none_ _, HB2.out⟩

set_option maxHeartbeats 16000000 in
theorem mFlip_ok (w : World) (n t : Nat) (rv wv : Value) (rows : List (List Int)) (word : List Int) (hv : SS w rv rows) (hw : SI w wv word) (hE : mwE n rows word = 0) (ht : FlipT rows n word t) (htl : t ≤ rows.length) :
    Calls Try.prog 19 #[.agg #[.int .i64 (n : Int), rv], wv] w (RetFl w (stF rows n word t).1 (stF rows n word t).2 0) := by
  have HV := Lib.hid hv; have HW := Lib.hid hw; clear hv hw
  obtain ⟨RA, rc, rfl, _⟩ := HV.out
  obtain ⟨WA, wc, rfl, _⟩ := HW.out
  have HF := Lib.hid (MBox.mk' w n (.slice RA rows.length rc))
  obtain ⟨hb, hwe⟩ := mwE_ok hE
  obtain ⟨n', hn', hm⟩ := mw_of hE
  obtain rfl : n = n' := by omega
  have HB := Lib.hid hb; have HWE := Lib.hid hwe
  have HMW := Lib.hid hm; have HT := Lib.hid ht
  have hrl := hm.rl
  have hn256 := hm.nn
  clear hb hwe hm ht hE hn'
  have HMWw := HMW.out.wl
  generalize hr : rows.length = r at *
  have HRR := Lib.hid hr; clear hr
  have HWL := Lib.hid HMWw; clear HMWw
  rw [HWL.out] at HW ⊢
  have hmkb := fun (w : World) => run_mkB r (by omega) w
  go_enter Try.func19, Try.ntmps19
  go_wp2_with fail
  generalize hw0 : w.alloc (.cells #[.int .i64 (n : Int), .slice RA r rc] 24) = w0 at *
  clear hw0
  have d0 := HF.out.d0; have d1 := HF.out.d1
  go_wp2_with fail
  refine (build_ok _ n _ rows (HV.out.below HF.out.bel (Nat.le_refl _)) HB.out).mono ?_
  rintro e w1 ⟨g, rfl, hg1, hb1⟩
  rw [Int.toNat_natCast, HRR.out] at hg1
  have HG1 := Lib.hid hg1.out
  have HF1 := Lib.hid (HF.out.on hb1); clear hb1 d0 d1 hg1
  have d0 := HF1.out.d0; have d1 := HF1.out.d1
  go_wp2_with fail
  refine (bitsOf_any _ n _ (.slice WA n wc) word (HW.out.below HF1.out.bel (Nat.le_refl _)) RA r rc rfl).mono ?_
  rintro e w2 ⟨rfl, hb2⟩
  rw [HWE.out]
  have HG2 := Lib.hid (HG1.out.on hb2)
  have HB2 := Lib.hid (bl_trans HF1.out.bel hb2); clear hb2 d0 d1 HG1 HF1 HF
  have HO0 : Hid (OI w2.heap.size w2 (.slice none 0 0) []) := OI.nil _ _
  have HW2 := Lib.hid (HW.out.below HB2.out (Nat.le_refl _))
  have HLB : Hid (([] : List Int).length + word.length ≤ 17592186044416) := hid' (by rw [HWL.out]; simp; omega)
  go_wp2_with (at_builtin; refine wpList_catI rfl _ _ rfl w2.heap.size _ [] rfl HO0.out _ word rfl HW2.out HLB.out (Nat.le_refl _) ?_; (intro ev w3 ho hg _; (rw [List.nil_append] at ho; have HEV := Lib.hid ho; have HB3 : Hid (Below w2.heap.size w2 w3) := hid' (HO0.out.bgrown (bl_refl _) (Nat.le_refl _) hg); clear ho hg; obtain ⟨CA, cc, gA, g0, g1, hee⟩ := (HG2.out.on HB3.out).hd; clear hee)))
  obtain ⟨EA, ec, hev⟩ := HEV.out.form'
  rw [HWL.out] at hev
  subst hev
  have HRB := Lib.hid (RB.made w3 r)
  obtain ⟨gb, hgb⟩ : ∃ gb, gb = w3.heap.size := ⟨_, rfl⟩
  have hbA := bl_alloc w3 (.cells (madeCells #[.bool false] r) 4)
  generalize hw4 : w3.alloc (.cells (madeCells #[.bool false] r) 4) = w4 at *
  rw [← hgb] at HRB ⊢
  have HEV4 := Lib.hid (HEV.out.below hbA (Nat.le_refl _))
  have HB4 := Lib.hid (bl_trans HB3.out hbA)
  have hgb2 : w2.heap.size ≤ gb := by rw [hgb]; exact HB3.out.size
  clear hw4 hgb hbA HEV HB3 g0 g1 HO0 HW2 HLB hmkb
  go_wp2_with fail
  refine (muns_any _ g n rows (.slice WA n wc) word (by rw [HRR.out]; exact HG2.out.on HB4.out) HMW.out.br ((HW.out.below HB2.out (Nat.le_refl _)).below HB4.out (Nat.le_refl _)) HWL.out HMW.out.wb hn256 (by rw [HRR.out]; exact hrl)).mono ?_
  rintro e w5 ⟨u, rfl, hu, hb5⟩
  rw [HRR.out] at hu
  obtain ⟨UA, uc, rfl⟩ := hu.form'
  have hul := unsTo_len rows word r
  have HUB := Lib.hid (fun j => unsTo_bd rows word r j)
  have HUM : Hid (∀ k, k < (unsTo rows word r).length → ∃ j : Nat, j < r ∧ (unsTo rows word r).getD k 0 = (j : Int)) := hid' fun k hk => by
    have hm : (unsTo rows word r).getD k 0 ∈ unsTo rows word r := by rw [List.getD_eq_getElem?_getD, List.getElem?_eq_getElem hk]; exact List.getElem_mem hk
    have hm2 := hm
    unfold unsTo at hm2
    obtain ⟨p, hp, h1⟩ := List.mem_map.1 hm2
    exact ⟨p, List.mem_range.1 (List.mem_filter.1 hp).1, h1.symm⟩
  have HUS := Lib.hid (hu.si (by omega) (fun k => by have := unsTo_bd rows word r k; exact I64.of_small (by omega) (by omega)))
  have HMU : Hid (markTo r (unsTo rows word r) = badOf rows word) := hid' (by have := markTo_uns rows word; rw [HRR.out] at this; exact this)
  have HUO := Lib.hid hu
  have HRB5 : Hid (RB w5 gb (markTo r [])) := hid' (by rw [markTo_nil]; exact HRB.out.belowS hb5)
  have HEV5 := Lib.hid (HEV4.out.below hb5 (Nat.le_refl _))
  have HB5 := Lib.hid (bl_trans HB4.out hb5)
  have hgb5 := HRB5.out.lt
  generalize unsTo rows word r = us at *
  clear hb5 hu HRB HEV4 HB4
  go_wp2_with fail
  go_loopw [42] (fun i wr => ∃ k : Nat, k ≤ us.length ∧ i = .int .i64 (k : Int) ∧ Hid (RB wr gb (markTo r (us.take k))) ∧ Hid (w5.grownBy wr (some gb))) (fun i _ => us.length - (intOf i).toNat)
  case atStart => exact ⟨0, Nat.zero_le _, rfl, HRB5, World.grownBy.refl _ _⟩
  case round =>
    obtain ⟨k, hk, rfl, HR, HGR⟩ := hrel
    have HBr : Hid (Below w2.heap.size w2 wr) := hid' (HB5.out.grown HGR.out HB5.out.size fun q e => by obtain rfl := Option.some.inj e; exact hgb2)
    by_cases hlt : k < us.length
    · obtain ⟨j, hj, hje⟩ := HUM.out k hlt
      have HUSr : Hid (SI wr (.slice UA us.length uc) us) := hid' (HUS.out.grown HGR.out fun h0 g' e e2 => HUO.out.ne_blk HRB5.out (by decide) (e2 ▸ e))
      obtain ⟨ad, x, rfl, hc, _, HX⟩ := HUSr.out.elt hlt
      rw [HX.out] at hje
      subst hje
      have hbc := HR.out.cell j (by rw [markTo_len]; exact hj)
      have hbf := HR.out.frozen j
      have HR2 : Hid (RB (wr.setCell ⟨gb, j, none⟩ (.bool true)) gb (markTo r (us.take (k + 1)))) := hid' (by
        have := HR.out.set j true
        rw [take_snoc us k hlt, HX.out, ← markTo_set (by omega), Int.toNat_natCast]
        exact this)
      have HG2r := Lib.hid (gr_setCell (p := ⟨gb, j, none⟩) HGR.out (.inl rfl) (.bool true))
      generalize (markTo r (us.take k)).getD j false = ob at hbc
      go_wp2_with fail
      exact ⟨⟨k + 1, by omega, by push_cast; rfl, HR2, HG2r⟩, by simp only [intOf]; omega⟩
    · obtain rfl : us.length = k := by omega
      rw [take_len] at HR
      rw [HMU.out] at HR
      have HEVr : Hid (OI w2.heap.size wr (.slice EA n ec) word) := hid' (HEV5.out.grown HGR.out fun g' e e2 => HEV5.out.ne_blk HRB5.out (by decide) (e2 ▸ e))
      clear HRB5 HEV5 HB5 HGR HUS HUM HMU HUB hlt hk hgb5 HUO
      have HF0 : Hid (OI w2.heap.size wr (.slice none 0 0) (stF rows n word 0).2) := OI.nil _ _
      go_wp2_with fail
      go_loopw [4, 5] (fun ev fv wr => ∃ (s : Nat) (FA : Option Addr) (fc : Nat), s ≤ t ∧ ev = .slice EA n ec ∧ fv = .slice FA s fc ∧ Hid (OI w2.heap.size wr ev (stF rows n word s).1) ∧ Hid (OI w2.heap.size wr fv (stF rows n word s).2) ∧ Hid (∀ q, ev.ownBlock = some q → fv.ownBlock ≠ some q) ∧ Hid (RB wr gb (badOf rows (stF rows n word s).1)) ∧ Hid (Below w2.heap.size w2 wr)) (fun _ fv _ => t - slLen fv)
      case atStart => exact ⟨0, none, 0, Nat.zero_le _, rfl, rfl, HEVr, HF0, hid' (fun q _ h => by simp [Value.ownBlock] at h), HR, HBr⟩
      case round =>
        clear HEVr HF0 HR HBr
        obtain ⟨s, FA, fc, hs, rfl, rfl, HEV, HFV, HNE, HR, HBr⟩ := hrel
        have hst := stF_len rows n word s
        have HSL : Hid ((stF rows n word s).1.length = n) := hid' (by show _ = _; rw [hst.1, HWL.out])
        have HSB : Hid (Bit (stF rows n word s).1) := stF_bit HMW.out.wb s
        have HNX : Hid (nxt rows n word s = nextI rows n (badOf rows (stF rows n word s).1)) := rfl
        have hnb := nextI_bd rows n (badOf rows (stF rows n word s).1)
        have HSE : Hid ((stF rows n word (s + 1)).1 = flipAt (stF rows n word s).1 (nextI rows n (badOf rows (stF rows n word s).1)).toNat) := rfl
        have HSF : Hid ((stF rows n word (s + 1)).2 = (stF rows n word s).2 ++ [nextI rows n (badOf rows (stF rows n word s).1)]) := rfl
        have HBF : Hid (∀ p, p < n → badOf rows (flipAt (stF rows n word s).1 p) = togB rows p (badOf rows (stF rows n word s).1) r) := hid' fun p hp => by
          have := badOf_flip HMW.out.br HSL.out hp
          rw [HRR.out] at this
          exact this
        have HBLN : Hid ((badOf rows (stF rows n word s).1).length = r) := hid' (by show _ = _; rw [badOf_len, HRR.out])
        clear hst
        go_wp2_with fail
        have hwo := mworst_any wr g n rows gb (badOf rows (stF rows n word s).1) (by rw [HRR.out]; exact HG2.out.on HBr.out) HR.out (by rw [HBLN.out, HRR.out]) hn256 (by rw [HRR.out]; exact hrl)
        rw [HRR.out] at hwo
        refine hwo.mono ?_
        clear hwo
        rintro e w6 ⟨rfl, hb6⟩
        have HEV6 := Lib.hid (HEV.out.below hb6 (Nat.le_refl _))
        have HFV6 := Lib.hid (HFV.out.below hb6 (Nat.le_refl _))
        have HR6 := Lib.hid (HR.out.belowS hb6)
        have HB6 := Lib.hid (bl_trans HBr.out hb6)
        clear hb6 HEV HFV HR HBr
        by_cases hz : nextI rows n (badOf rows (stF rows n word s).1) < 0
        · obtain rfl : s = t := HT.out.le hs (by rw [HNX.out]; exact hz)
          have HFL : Hid ((stF rows n word s).2.length = s) := hid' (stF_len rows n word s).2
          have HFB : Hid (∀ k, -1 ≤ (stF rows n word s).2.getD k 0 ∧ (stF rows n word s).2.getD k 0 ≤ n) := stF_rng rows n word s
          clear HSE HSF HBF hnb HNX
          generalize nextI rows n (badOf rows (stF rows n word s).1) = z at hz
          go_wp2_with fail
          go_ret3
          refine ⟨_, _, rfl, HEV6.out.si (by rw [HSL.out]; omega) (fun k => ?_), HFV6.out.si (by rw [HFL.out]; omega) (fun k => ?_), bl_trans HB2.out HB6.out⟩
          · rcases HSB.out k with h | h <;> rw [h]
            · exact I64.zero
            · exact I64.one
          · have := HFB.out k; exact I64.of_small (by omega) (by omega)
        · obtain ⟨hz0, hz1, _⟩ := hnb.resolve_left (by omega)
          have hst : s < t := Nat.lt_of_le_of_ne hs fun e => by
            have := HT.out.2
            rw [← e, HNX.out] at this
            exact hz this
          obtain ⟨p, hp⟩ : ∃ p : Nat, nextI rows n (badOf rows (stF rows n word s).1) = (p : Int) := ⟨(nextI rows n (badOf rows (stF rows n word s).1)).toNat, by omega⟩
          rw [hp] at HSE HSF hz1 ⊢
          rw [Int.toNat_natCast] at HSE
          have hpn : p < n := by omega
          clear hz hz0 hz1 hp HNX hnb
          have hzp : ¬ ((p : Int) < 0) := by omega
          obtain ⟨ge, c', he, hge1, hge2⟩ := HEV6.out.form (by rw [HSL.out]; omega)
          injection he with e1 e2 e3
          subst e1
          clear e2 e3 c'
          have hec := HEV6.out.cell p (by rw [HSL.out]; exact hpn)
          have hef := HEV6.out.frozen p
          have hyb := HSB.out p
          have HEVs := Lib.hid (HEV6.out.set p (1 - (stF rows n word s).1.getD p 0))
          have HEVs2 : Hid (OI w2.heap.size (w6.setCell ⟨ge, p, none⟩ (.int .i64 (1 - (stF rows n word s).1.getD p 0))) (.slice (some ⟨ge, 0, none⟩) n ec) (stF rows n word (s + 1)).1) := hid' (by rw [HSE.out]; exact HEVs.out)
          have hgeb : gb ≠ ge := fun e => HEV6.out.ne_blk HR6.out (by decide) (by rw [e]; rfl)
          have HFVs := Lib.hid (HFV6.out.grown (gr_set1 w6 ge p (.int .i64 (1 - (stF rows n word s).1.getD p 0))) fun q hq e2 => HNE.out ge rfl (by rw [Option.some.inj e2]; exact hq))
          have HRs := Lib.hid (HR6.out.far (p := ⟨ge, p, none⟩) hgeb (.int .i64 (1 - (stF rows n word s).1.getD p 0)))
          have HBs := Lib.hid (HB6.out.setCell (p := ⟨ge, p, none⟩) hge1 (.int .i64 (1 - (stF rows n word s).1.getD p 0)))
          clear HEVs HEV6 HFV6 HR6 HB6
          generalize (stF rows n word s).1.getD p 0 = y at *
          have hy0 : 0 ≤ y ∧ y ≤ 1 := by omega
          obtain ⟨hy1, hy2⟩ := hy0
          clear hyb
          obtain ⟨wa, hwa⟩ : ∃ wa, wa = w6.setCell ⟨ge, p, none⟩ (.int .i64 (1 - y)) := ⟨_, rfl⟩
          have hsza : wa.heap.size = w6.heap.size := by rw [hwa, World.size_setCell]
          rw [← hwa] at HEVs2 HFVs HRs HBs
          have HPB : Hid (SI (wa.alloc (.cells #[.int .i64 (p : Int)] 3)) (.slice (some ⟨w6.heap.size, 0, none⟩) 1 1) [(p : Int)]) := hid' (hsza ▸ SI.lit wa [(p : Int)] (by simp) (fun k => by match k with | 0 => exact I64.of_small (by simp <;> omega) (by simp <;> omega) | k + 1 => exact I64.zero))
          have HOA := Lib.hid (HFVs.out.alloc (.cells #[.int .i64 (p : Int)] 3))
          have HFL : Hid ((stF rows n word s).2.length = s) := hid' (stF_len rows n word s).2
          have HUP : Hid (w2.heap.size ≤ (wa.alloc (.cells #[.int .i64 (p : Int)] 3)).heap.size) := hid' (by have := HBs.out.size; rw [World.size_alloc]; omega)
          have HLB : Hid ((stF rows n word s).2.length + [(p : Int)].length ≤ 17592186044416) := hid' (by show _ ≤ _; rw [HFL.out]; simp; omega)
          have HBa := Lib.hid (bl_alloc wa (.cells #[.int .i64 (p : Int)] 3))
          have HEA := Lib.hid (HEVs2.out.alloc (.cells #[.int .i64 (p : Int)] 3))
          have HRA := Lib.hid (HRs.out.alloc (.cells #[.int .i64 (p : Int)] 3))
          have HBa2 := Lib.hid (bl_trans HBs.out HBa.out)
          have HESZ : Hid (∀ q, (Value.slice (some ⟨ge, 0, none⟩) n ec).ownBlock = some q → q < (wa.alloc (.cells #[.int .i64 (p : Int)] 3)).heap.size) := hid' fun q hq => (HEA.out.lt hq).2
          clear HEVs2 HFVs HRs HBs HBa hsza
          rw [hwa] at HPB HOA HUP HEA HRA HBa2 HESZ
          clear hwa
          go_wp2_with (at_builtin; refine wpList_catI rfl _ _ rfl w2.heap.size _ (stF rows n word s).2 rfl HOA.out _ [(p : Int)] rfl HPB.out HLB.out HUP.out ?_; (intro v7 w7 ho hg hv7; (rw [← HSF.out] at ho; have HFV7 := Lib.hid ho; have HEV7 := Lib.hid (HEA.out.grown hg (fun q hq e => HNE.out q hq e)); have HNE7 : Hid (∀ q, (Value.slice (some ⟨ge, 0, none⟩) n ec).ownBlock = some q → v7.ownBlock ≠ some q) := hid' (fun q hq e => hv7.elim (fun h => HNE.out q hq (h ▸ e)) (fun h => (by rw [h] at e; have h1 := Option.some.inj e; have h2 := HESZ.out q hq; omega))); have HR7 : Hid (RB w7 gb (badOf rows (stF rows n word s).1)) := hid' (HRA.out.grown hg (fun e => HOA.out.ne_blk HRA.out (by decide) e.symm)); have HB7 := Lib.hid (HOA.out.bgrown HBa2.out HUP.out hg); clear ho hg hv7; obtain ⟨CA7, cc7, gA7, _, g10, hee⟩ := HG2.out.hd; have g1 := cell_below HB7.out g10; obtain ⟨XA, xc, es, ec00, HES, HEE⟩ := hee.elt (p := p) (by rw [atTo_len]; exact hpn); have ec0 := cell_below HB7.out ec00; clear hee g10 ec00)))
          obtain ⟨FA7, fc7, hv7⟩ := HFV7.out.form'
          rw [(stF_len rows n word (s + 1)).2] at hv7
          subst hv7
          rw [atTo_getD hpn, if_neg (by omega)] at HEE
          have HFST := Lib.hid (fun k => @edges_fst rows p r k)
          have hel := edgesTo_len rows p r
          have HTG : Hid (togE (badOf rows (stF rows n word s).1) es = badOf rows (stF rows n word (s + 1)).1) := hid' (by
            show _ = _
            rw [HSE.out, HBF.out p hpn, ← HEE.out]
            have := togE_edges (rows := rows) (p := p) (bad := badOf rows (stF rows n word s).1) (by rw [badOf_len]) rows.length (Nat.le_refl _)
            rw [HRR.out] at this
            exact this)
          rw [HEE.out] at HFST hel
          have HBLs : Hid (∀ k, (togE (badOf rows (stF rows n word s).1) (es.take k)).length = r) := hid' fun k => by rw [togE_len, HBLN.out]
          have HT0 : Hid (RB w7 gb (togE (badOf rows (stF rows n word s).1) (es.take 0))) := HR7
          have HT7 := HR7
          clear HEE HR7 g1 ec0 hec hef HPB HOA HUP HLB HEA HRA HBa2 HESZ HBF HBLN hge2
          generalize hb0 : badOf rows (stF rows n word s).1 = bad0 at *
          clear hb0
          generalize hem : es.length = em at *
          have HEM := Lib.hid hem; clear hem
          go_loopw [77] (fun i wr => ∃ k : Nat, k ≤ em ∧ i = .int .i64 (k : Int) ∧ Hid (RB wr gb (togE bad0 (es.take k))) ∧ Hid (w7.grownBy wr (some gb))) (fun i _ => em - (intOf i).toNat)
          case atStart => exact ⟨0, Nat.zero_le _, rfl, HT0, World.grownBy.refl _ _⟩
          case round =>
            clear HT0
            obtain ⟨k, hk, rfl, HR, HGR⟩ := hrel
            have HBr : Hid (Below w2.heap.size w2 wr) := hid' (HB7.out.grown HGR.out HB7.out.size fun q e => by obtain rfl := Option.some.inj e; exact hgb2)
            by_cases hkl : k < em
            · obtain ⟨ad, x, y2, hEA, hc0, hc1, HXY⟩ := HES.out.elt (k := k) (by rw [HEM.out]; exact hkl)
              subst hEA
              obtain ⟨j, hj, hje⟩ := HFST.out k hkl
              rw [HXY.out] at hje
              have hje2 : x = (j : Int) := hje
              subst hje2
              clear hje
              have d0 := cell_below HBr.out hc0
              have d1 := cell_below HBr.out hc1
              have HBX := Lib.hid (Blk.new wr 81 [.int .i64 (j : Int), .int .i64 y2])
              have hbx : (wr.alloc (.cells #[.int .i64 (j : Int), .int .i64 y2] 81)).cell? ⟨wr.heap.size, 0, none⟩ = some (.int .i64 (j : Int)) := HBX.out.cell 0
              have HRA := Lib.hid (HR.out.alloc (.cells #[.int .i64 (j : Int), .int .i64 y2] 81))
              have hbc := HRA.out.cell j (by rw [HBLs.out]; exact hj)
              have hbf := HRA.out.frozen j
              have HTS : Hid (togE bad0 (es.take (k + 1)) = (togE bad0 (es.take k)).set j (!((togE bad0 (es.take k)).getD j false))) := hid' (by
                show _ = _
                rw [take_snocE es k (by rw [HEM.out]; exact hkl), togE_snoc, HXY.out]; rfl)
              have HR2 := Lib.hid (HRA.out.set j (!((togE bad0 (es.take k)).getD j false)))
              rw [← HTS.out] at HR2
              generalize (togE bad0 (es.take k)).getD j false = bj at *
              have HG2r := Lib.hid (gr_setCell (p := ⟨gb, j, none⟩) (gr_alloc HGR.out (.cells #[.int .i64 (j : Int), .int .i64 y2] 81)) (.inl rfl) (.bool (!bj)))
              clear hc0 hc1
              go_wp2_with fail
              refine Drawn.start (S := fun w' => w'.cell? ⟨wr.heap.size, 0, none⟩ = some (.int .i64 (j : Int)) ∧ w'.cell? ⟨gb, j, none⟩ = some (.bool bj)) (by kernel_rfl) (⟨hbx, hbc⟩) (fun hHeld => ?_)
              change Drawn _ _ _ _ 11 _ _ _
              refine Drawn.take (i := 0) (v := ?_) rfl (by kernel_rfl) (by kernel_rfl) (by kernel_rfl) (by kernel_rfl) (fun _ _ _ h => h) (Or.inl ⟨by kernel_rfl, ?_⟩) hHeld ?_
              rotate_left
              · intro w' hSw; (try dsimp only at hSw); first | (go_simp; done) | (go_simp; with_reducible rfl)
              try simp only [List.getElem_toArray, List.getElem_cons_zero, List.getElem_cons_succ, Act.put, List.setIfInBounds_toArray, List.set_cons_zero, List.set_cons_succ]
              refine Drawn.take (i := 1) (v := ?_) rfl (by kernel_rfl) (by kernel_rfl) (by kernel_rfl) (by kernel_rfl) (fun _ _ _ h => h) (Or.inl ⟨by kernel_rfl, ?_⟩) hHeld ?_
              rotate_left
              · intro w' hSw; (try dsimp only at hSw); first | (go_simp; done) | (go_simp; with_reducible rfl)
              try simp only [List.getElem_toArray, List.getElem_cons_zero, List.getElem_cons_succ, Act.put, List.setIfInBounds_toArray, List.set_cons_zero, List.set_cons_succ]
              refine Drawn.take (i := 2) (v := ?_) rfl (by kernel_rfl) (by kernel_rfl) (by kernel_rfl) (by kernel_rfl) (fun _ _ _ h => h) (Or.inl ⟨by kernel_rfl, ?_⟩) hHeld ?_
              rotate_left
              · intro w' hSw; (try dsimp only at hSw); first | (go_simp; done) | (go_simp; with_reducible rfl)
              try simp only [List.getElem_toArray, List.getElem_cons_zero, List.getElem_cons_succ, Act.put, List.setIfInBounds_toArray, List.set_cons_zero, List.set_cons_succ]
              refine Drawn.take (i := 3) (v := ?_) rfl (by kernel_rfl) (by kernel_rfl) (by kernel_rfl) (by kernel_rfl) (fun _ _ _ h => h) (Or.inl ⟨by kernel_rfl, ?_⟩) hHeld ?_
              rotate_left
              · intro w' hSw; (try dsimp only at hSw); first | (go_simp; done) | (go_simp; with_reducible rfl)
              try simp only [List.getElem_toArray, List.getElem_cons_zero, List.getElem_cons_succ, Act.put, List.setIfInBounds_toArray, List.set_cons_zero, List.set_cons_succ]
              refine Drawn.take (i := 4) (v := ?_) rfl (by kernel_rfl) (by kernel_rfl) (by kernel_rfl) (by kernel_rfl) (fun _ _ _ h => h) (Or.inl ⟨by kernel_rfl, ?_⟩) hHeld ?_
              rotate_left
              · intro w' hSw; (try dsimp only at hSw); first | (go_simp; done) | (go_simp; with_reducible rfl)
              try simp only [List.getElem_toArray, List.getElem_cons_zero, List.getElem_cons_succ, Act.put, List.setIfInBounds_toArray, List.set_cons_zero, List.set_cons_succ]
              refine Drawn.take (i := 5) (v := ?_) rfl (by kernel_rfl) (by kernel_rfl) (by kernel_rfl) (by kernel_rfl) (fun _ _ _ h => h) (Or.inl ⟨by kernel_rfl, ?_⟩) hHeld ?_
              rotate_left
              · intro w' hSw; (try dsimp only at hSw); first | (go_simp; done) | (go_simp; with_reducible rfl)
              try simp only [List.getElem_toArray, List.getElem_cons_zero, List.getElem_cons_succ, Act.put, List.setIfInBounds_toArray, List.set_cons_zero, List.set_cons_succ]
              refine Drawn.take (i := 6) (v := ?_) rfl (by kernel_rfl) (by kernel_rfl) (by kernel_rfl) (by kernel_rfl) (fun _ _ _ h => h) (Or.inl ⟨by kernel_rfl, ?_⟩) hHeld ?_
              rotate_left
              · intro w' hSw; (try dsimp only at hSw); first | (go_simp; done) | (go_simp; with_reducible rfl)
              try simp only [List.getElem_toArray, List.getElem_cons_zero, List.getElem_cons_succ, Act.put, List.setIfInBounds_toArray, List.set_cons_zero, List.set_cons_succ]
              refine Drawn.take (i := 7) (v := ?_) rfl (by kernel_rfl) (by kernel_rfl) (by kernel_rfl) (by kernel_rfl) (fun _ _ _ h => h) (Or.inl ⟨by kernel_rfl, ?_⟩) hHeld ?_
              rotate_left
              · intro w' hSw; (try dsimp only at hSw); first | (go_simp; done) | (go_simp; with_reducible rfl)
              try simp only [List.getElem_toArray, List.getElem_cons_zero, List.getElem_cons_succ, Act.put, List.setIfInBounds_toArray, List.set_cons_zero, List.set_cons_succ]
              refine Drawn.take (i := 8) (v := ?_) rfl (by kernel_rfl) (by kernel_rfl) (by kernel_rfl) (by kernel_rfl) (fun _ _ _ h => h) (Or.inl ⟨by kernel_rfl, ?_⟩) hHeld ?_
              rotate_left
              · intro w' hSw; (try dsimp only at hSw); first | (go_simp; done) | (go_simp; with_reducible rfl)
              try simp only [List.getElem_toArray, List.getElem_cons_zero, List.getElem_cons_succ, Act.put, List.setIfInBounds_toArray, List.set_cons_zero, List.set_cons_succ]
              refine Drawn.take (i := 9) (v := ?_) rfl (by kernel_rfl) (by kernel_rfl) (by kernel_rfl) (by kernel_rfl) (fun _ _ _ h => h) (Or.inl ⟨by kernel_rfl, ?_⟩) hHeld ?_
              rotate_left
              · intro w' hSw; (try dsimp only at hSw); first | (go_simp; done) | (go_simp; with_reducible rfl)
              try simp only [List.getElem_toArray, List.getElem_cons_zero, List.getElem_cons_succ, Act.put, List.setIfInBounds_toArray, List.set_cons_zero, List.set_cons_succ]
              refine Drawn.only (i := 10) (by kernel_rfl) rfl (fun K hK => ?_)
              go_simp
              refine hK.out _ _ (fun h => absurd rfl h) (fun hHeld2 => ?_)
              clear hK K
              clear hHeld2
              refine Drawn.done (by kernel_rfl) ?_
              try simp only [List.getElem_toArray, List.getElem_cons_zero, List.getElem_cons_succ, Act.put, List.setIfInBounds_toArray, List.set_cons_zero, List.set_cons_succ]
              clear hHeld
              go_wp2_with fail
              exact ⟨⟨k + 1, by omega, by push_cast; rfl, HR2, hid' (gr_drew HG2r.out)⟩, by simp only [intOf]; omega⟩
            · obtain rfl : em = k := by omega
              have hte : es.take em = es := by rw [← HEM.out]; exact List.take_of_length_le (Nat.le_refl _)
              rw [hte, HTG.out] at HR
              have HEV8 := Lib.hid (HEV7.out.grown HGR.out fun q hq e => by have h1 := Option.some.inj e; have h2 : ge = q := Option.some.inj hq; omega)
              have HFV8 := Lib.hid (HFV7.out.grown HGR.out fun q hq e => HFV7.out.ne_blk HT7.out (by decide) (by rw [hq, e]))
              clear hte
              go_wp2_with fail
              exact ⟨⟨s + 1, FA7, fc7, by omega, rfl, rfl, HEV8, HFV8, HNE7, HR, HBr⟩, by simp only [slLen]; omega⟩
end Go.Proofs.Ytgabhlalamnbgaa

/- ref45.Word, Odd, Unsatisfied, Next, Flip, Few; ref09.Few. -/
namespace Go.Proofs.Ytgabhlalamnbgaa
open Go.RowKit
set_option linter.unusedVariables false
set_option maxRecDepth 100000

set_option maxHeartbeats 8000000 in
theorem rWord45_any (w : World) (cols : Int) (rv wv : Value) (rows : List (List Int)) (word : List Int) (hv : SS w rv rows) (hw : SI w wv word) :
    Calls Try.prog 21 #[.agg #[.int .i64 cols, rv], wv] w (RetI w (mwE cols rows word)) := by
  have HV := Lib.hid hv; have HW := Lib.hid hw; clear hv hw
  obtain ⟨RA, rc, rfl, _⟩ := HV.out
  obtain ⟨WA, wc, rfl, _⟩ := HW.out
  have HF := Lib.hid (MBox.mk' w cols (.slice RA rows.length rc))
  generalize hr : rows.length = r at HF HV ⊢
  clear hr
  have HM : Hid (matE 2 1 [] cols rows = bitE cols rows) := rfl
  by_cases hb : bitE cols rows = 0
  case neg =>
    have HE : Hid (mwE cols rows word = bitE cols rows) := by show _ = _; unfold mwE; rw [if_pos hb]
    rw [HE.out]
    have hbb : (bitE cols rows != 0) = true := by rw [bne_iff_ne]; exact hb
    clear hb
    generalize bitE cols rows = er at *
    go_enter Try.func21, Try.ntmps21
    go_wp2_with fail
    generalize hw0 : w.alloc (.cells #[.int .i64 cols, .slice RA r rc] 24) = w0 at *
    clear hw0
    have d0 := HF.out.d0; have d1 := HF.out.d1
    go_wp2_with fail
    refine Kept.start (S := fun w' => w'.cell? ⟨w.heap.size, 0, none⟩ = some (.int .i64 cols) ∧ w'.cell? ⟨w.heap.size, 1, none⟩ = some (.slice RA r rc)) (by kernel_rfl) (⟨d0, d1⟩) (fun hHeld => ?_)
    change Kept _ _ _ _ 4 _ _ _
    refine Kept.take (i := 1) (v := ?_) rfl (by kernel_rfl) (by kernel_rfl) (by kernel_rfl) (fun _ _ _ h => h) (Or.inl ⟨by kernel_rfl, ?_⟩) hHeld ?_
    rotate_left
    · intro w' hSw; (try dsimp only at hSw); first | (go_simp; done) | (go_simp; with_reducible rfl)
    try simp only [List.getElem_toArray, List.getElem_cons_zero, List.getElem_cons_succ, Act.put, List.setIfInBounds_toArray, List.set_cons_zero, List.set_cons_succ]
    refine Kept.only (i := 0) (by kernel_rfl) rfl (fun K hK => ?_)
    go_simp
    refine (rTwo45_any _).mono ?_; rintro e w1 ⟨rfl, hb1⟩; have HF1 := Lib.hid ((HF.out.on (bl_drew _)).on hb1); clear hb1; have e0 := HF1.out.d0; have e1 := HF1.out.d1
    refine hK.out _ _ (⟨e0, e1⟩) (fun hHeld2 => ?_)
    clear hK K
    replace hHeld := hHeld2
    clear hHeld2
    try simp only [List.getElem_toArray, List.getElem_cons_zero, List.getElem_cons_succ, Act.put, List.setIfInBounds_toArray, List.set_cons_zero, List.set_cons_succ]
    refine Kept.only (i := 2) (by kernel_rfl) rfl (fun K hK => ?_)
    go_simp
    refine (rMCheck_any _ 2 1 cols (.slice none 0 0) (.slice RA r rc) [] rows (SI.none_ _) (HV.out.below HF1.out.bel (Nat.le_refl _))).mono ?_; rintro e w2 ⟨rfl, hb2⟩; rw [HM.out]; have HF2 := Lib.hid (HF1.out.on hb2); clear hb2
    refine hK.out _ _ (⟨HF2.out.d0, HF2.out.d1⟩) (fun hHeld2 => ?_)
    clear hK K
    replace hHeld := hHeld2
    clear hHeld2
    try simp only [List.getElem_toArray, List.getElem_cons_zero, List.getElem_cons_succ, Act.put, List.setIfInBounds_toArray, List.set_cons_zero, List.set_cons_succ]
    refine Kept.only (i := 3) (by kernel_rfl) rfl (fun K hK => ?_)
    go_simp
    refine hK.out _ _ hHeld (fun hHeld2 => ?_)
    clear hK K
    clear hHeld2
    refine Kept.done (by kernel_rfl) ?_
    try simp only [List.getElem_toArray, List.getElem_cons_zero, List.getElem_cons_succ, Act.put, List.setIfInBounds_toArray, List.set_cons_zero, List.set_cons_succ]
    clear hHeld
    clear d0 d1 e0 e1
    go_wp2_with fail
    go_ret
    exact ⟨rfl, HF2.out.bel⟩
  rw [hb] at HM
  have HE : Hid (mwE cols rows word = wordE cols word) := by show _ = _; unfold mwE; rw [if_neg (by simpa using hb)]
  rw [HE.out]
  clear hb
  by_cases hl : (word.length : Int) = cols
  · have hb2 : ((word.length : Int) != cols) = false := by rw [bne_eq_false_iff_eq]; exact hl
    have HE2 : Hid (wordE cols word = entriesF (orderF 2 1) word) := by show _ = _; unfold wordE; rw [if_pos hl, order21]
    rw [HE2.out]
    clear hl
    go_enter Try.func21, Try.ntmps21
    go_wp2_with fail
    generalize hw0 : w.alloc (.cells #[.int .i64 cols, .slice RA r rc] 24) = w0 at *
    clear hw0
    have d0 := HF.out.d0; have d1 := HF.out.d1
    go_wp2_with fail
    refine Kept.start (S := fun w' => w'.cell? ⟨w.heap.size, 0, none⟩ = some (.int .i64 cols) ∧ w'.cell? ⟨w.heap.size, 1, none⟩ = some (.slice RA r rc)) (by kernel_rfl) (⟨d0, d1⟩) (fun hHeld => ?_)
    change Kept _ _ _ _ 4 _ _ _
    refine Kept.take (i := 1) (v := ?_) rfl (by kernel_rfl) (by kernel_rfl) (by kernel_rfl) (fun _ _ _ h => h) (Or.inl ⟨by kernel_rfl, ?_⟩) hHeld ?_
    rotate_left
    · intro w' hSw; (try dsimp only at hSw); first | (go_simp; done) | (go_simp; with_reducible rfl)
    try simp only [List.getElem_toArray, List.getElem_cons_zero, List.getElem_cons_succ, Act.put, List.setIfInBounds_toArray, List.set_cons_zero, List.set_cons_succ]
    refine Kept.only (i := 0) (by kernel_rfl) rfl (fun K hK => ?_)
    go_simp
    refine (rTwo45_any _).mono ?_; rintro e w1 ⟨rfl, hb1⟩; have HF1 := Lib.hid ((HF.out.on (bl_drew _)).on hb1); clear hb1; have e0 := HF1.out.d0; have e1 := HF1.out.d1
    refine hK.out _ _ (⟨e0, e1⟩) (fun hHeld2 => ?_)
    clear hK K
    replace hHeld := hHeld2
    clear hHeld2
    try simp only [List.getElem_toArray, List.getElem_cons_zero, List.getElem_cons_succ, Act.put, List.setIfInBounds_toArray, List.set_cons_zero, List.set_cons_succ]
    refine Kept.only (i := 2) (by kernel_rfl) rfl (fun K hK => ?_)
    go_simp
    refine (rMCheck_any _ 2 1 cols (.slice none 0 0) (.slice RA r rc) [] rows (SI.none_ _) (HV.out.below HF1.out.bel (Nat.le_refl _))).mono ?_; rintro e w2 ⟨rfl, hb2⟩; rw [HM.out]; have HF2 := Lib.hid (HF1.out.on hb2); clear hb2; have f0 := HF2.out.d0; have f1 := HF2.out.d1
    refine hK.out _ _ (⟨f0, f1⟩) (fun hHeld2 => ?_)
    clear hK K
    replace hHeld := hHeld2
    clear hHeld2
    try simp only [List.getElem_toArray, List.getElem_cons_zero, List.getElem_cons_succ, Act.put, List.setIfInBounds_toArray, List.set_cons_zero, List.set_cons_succ]
    refine Kept.only (i := 3) (by kernel_rfl) rfl (fun K hK => ?_)
    go_simp
    refine hK.out _ _ hHeld (fun hHeld2 => ?_)
    clear hK K
    clear hHeld2
    refine Kept.done (by kernel_rfl) ?_
    try simp only [List.getElem_toArray, List.getElem_cons_zero, List.getElem_cons_succ, Act.put, List.setIfInBounds_toArray, List.set_cons_zero, List.set_cons_succ]
    clear hHeld
    clear d0 d1 e0 e1
    go_wp2_with fail
    refine (rTwo45_any _).mono ?_
    rintro e w3 ⟨rfl, hb3⟩
    have HF3 := Lib.hid (HF2.out.on hb3); clear hb3 f0 f1
    go_wp2_with fail
    refine (entries_any _ 2 1 _ _ word (HW.out.below HF3.out.bel (Nat.le_refl _))).mono ?_
    rintro e w4 ⟨rfl, hb4⟩
    have HB4 := Lib.hid (bl_trans HF3.out.bel hb4); clear hb4
    go_wp2_with fail
    go_ret
    exact ⟨rfl, HB4.out⟩
  · have hb2 : ((word.length : Int) != cols) = true := by rw [bne_iff_ne]; exact hl
    have HE2 : Hid (wordE cols word = 4) := by show _ = _; unfold wordE; rw [if_neg hl]
    rw [HE2.out]
    clear hl
    go_enter Try.func21, Try.ntmps21
    go_wp2_with fail
    generalize hw0 : w.alloc (.cells #[.int .i64 cols, .slice RA r rc] 24) = w0 at *
    clear hw0
    have d0 := HF.out.d0; have d1 := HF.out.d1
    go_wp2_with fail
    refine Kept.start (S := fun w' => w'.cell? ⟨w.heap.size, 0, none⟩ = some (.int .i64 cols) ∧ w'.cell? ⟨w.heap.size, 1, none⟩ = some (.slice RA r rc)) (by kernel_rfl) (⟨d0, d1⟩) (fun hHeld => ?_)
    change Kept _ _ _ _ 4 _ _ _
    refine Kept.take (i := 1) (v := ?_) rfl (by kernel_rfl) (by kernel_rfl) (by kernel_rfl) (fun _ _ _ h => h) (Or.inl ⟨by kernel_rfl, ?_⟩) hHeld ?_
    rotate_left
    · intro w' hSw; (try dsimp only at hSw); first | (go_simp; done) | (go_simp; with_reducible rfl)
    try simp only [List.getElem_toArray, List.getElem_cons_zero, List.getElem_cons_succ, Act.put, List.setIfInBounds_toArray, List.set_cons_zero, List.set_cons_succ]
    refine Kept.only (i := 0) (by kernel_rfl) rfl (fun K hK => ?_)
    go_simp
    refine (rTwo45_any _).mono ?_; rintro e w1 ⟨rfl, hb1⟩; have HF1 := Lib.hid ((HF.out.on (bl_drew _)).on hb1); clear hb1; have e0 := HF1.out.d0; have e1 := HF1.out.d1
    refine hK.out _ _ (⟨e0, e1⟩) (fun hHeld2 => ?_)
    clear hK K
    replace hHeld := hHeld2
    clear hHeld2
    try simp only [List.getElem_toArray, List.getElem_cons_zero, List.getElem_cons_succ, Act.put, List.setIfInBounds_toArray, List.set_cons_zero, List.set_cons_succ]
    refine Kept.only (i := 2) (by kernel_rfl) rfl (fun K hK => ?_)
    go_simp
    refine (rMCheck_any _ 2 1 cols (.slice none 0 0) (.slice RA r rc) [] rows (SI.none_ _) (HV.out.below HF1.out.bel (Nat.le_refl _))).mono ?_; rintro e w2 ⟨rfl, hb2⟩; rw [HM.out]; have HF2 := Lib.hid (HF1.out.on hb2); clear hb2; have f0 := HF2.out.d0; have f1 := HF2.out.d1
    refine hK.out _ _ (⟨f0, f1⟩) (fun hHeld2 => ?_)
    clear hK K
    replace hHeld := hHeld2
    clear hHeld2
    try simp only [List.getElem_toArray, List.getElem_cons_zero, List.getElem_cons_succ, Act.put, List.setIfInBounds_toArray, List.set_cons_zero, List.set_cons_succ]
    refine Kept.only (i := 3) (by kernel_rfl) rfl (fun K hK => ?_)
    go_simp
    refine hK.out _ _ hHeld (fun hHeld2 => ?_)
    clear hK K
    clear hHeld2
    refine Kept.done (by kernel_rfl) ?_
    try simp only [List.getElem_toArray, List.getElem_cons_zero, List.getElem_cons_succ, Act.put, List.setIfInBounds_toArray, List.set_cons_zero, List.set_cons_succ]
    clear hHeld
    clear d0 d1 e0 e1
    go_wp2_with fail
    go_ret
    exact ⟨rfl, HF2.out.bel⟩

set_option maxHeartbeats 4000000 in
theorem rOdd_any (w : World) (lv wv : Value) (row word : List Int) (hl : SI w lv row) (hw : SI w wv word) (hn : row.length = word.length) (hr : Bit row) (hb : Bit word) (hn2 : word.length ≤ 256) :
    Calls Try.prog 52 #[lv, wv] w (RetB w (oddF row word)) := by
  have HE : Hid (oddF row word = decide (dotN row word row.length % 2 = 1)) := rfl
  have HDB := Lib.hid (fun k => dotN_bd hr hb k)
  have HRB := Lib.hid hr; have HWB := Lib.hid hb
  have HL := Lib.hid hl; have HW := Lib.hid hw; clear hl hw hr hb
  obtain ⟨A, c, rfl, _⟩ := HL.out
  obtain ⟨B, d, rfl, _⟩ := HW.out
  rw [← hn] at hn2
  have HN := Lib.hid hn; clear hn
  go_enter Try.func52, Try.ntmps52
  go_wp2_with fail
  go_loopw [5, 6] (fun s i wr => ∃ k : Nat, k ≤ row.length ∧ i = .int .i64 (k : Int) ∧ s = .int .i64 (dotN row word k) ∧ Hid (Below w.heap.size w wr)) (fun _ i _ => row.length - (intOf i).toNat)
  case atStart => exact ⟨0, Nat.zero_le _, rfl, rfl, bl_refl _⟩
  case round =>
    obtain ⟨k, hk, rfl, rfl, HB⟩ := hrel
    have hsb := HDB.out k
    by_cases hlt : k < row.length
    · obtain ⟨ad, x, rfl, hc, _, HX⟩ := (HL.out.below HB.out (Nat.le_refl _)).elt hlt
      obtain ⟨bd, y, rfl, hd, _, HY⟩ := (HW.out.below HB.out (Nat.le_refl _)).elt (k := k) (by rw [← HN.out]; exact hlt)
      have hxb := HRB.out k
      have hyb := HWB.out k
      rw [HX.out] at hxb
      rw [HY.out] at hyb
      have hkw : k < word.length := by rw [← HN.out]; exact hlt
      have HS : Hid (dotN row word (k + 1) = dotN row word k + x * y) := hid' (by show _ = _; rw [dotN, HX.out, HY.out])
      generalize dotN row word k = s at *
      obtain ⟨hs0, hs1⟩ := hsb
      have hw1 : IntKind.i64.wrap (x * y) = x * y := IntWalk.i64_in _ (by rcases hxb with h | h <;> rcases hyb with h2 | h2 <;> rw [h, h2] <;> omega)
      have hw2 : IntKind.i64.wrap (s + x * y) = s + x * y := IntWalk.i64_in _ (by rcases hxb with h | h <;> rcases hyb with h2 | h2 <;> rw [h, h2] <;> omega)
      clear hxb hyb
      go_wp2_with fail
      go_quiet (fail)
      go_wp2_with fail
      exact ⟨⟨k + 1, by omega, by push_cast; rfl, by rw [HS.out], bl_trans HB.out (bl_drewN _ _)⟩, by simp only [intOf]; omega⟩
    · obtain rfl : row.length = k := by omega
      generalize dotN row word row.length = s at *
      obtain ⟨hs0, hs1⟩ := hsb
      by_cases ho : s % 2 = 1
      · have hb : (s % 2 == 1) = true := by rw [beq_iff_eq]; exact ho
        have HE2 : Hid (oddF row word = true) := hid' (by rw [HE.out]; simpa using ho)
        clear ho
        go_wp2_with fail
        go_ret
        exact ⟨by rw [HE2.out]; rfl, HB.out⟩
      · have hb : (s % 2 == 1) = false := by rw [beq_eq_false_iff_ne]; exact ho
        have HE2 : Hid (oddF row word = false) := hid' (by rw [HE.out]; simpa using ho)
        clear ho
        go_wp2_with fail
        go_ret
        exact ⟨by rw [HE2.out]; rfl, HB.out⟩

set_option maxHeartbeats 8000000 in
theorem rUnsat_any (w : World) (cols : Int) (n : Nat) (rv wv : Value) (rows : List (List Int)) (word : List Int) (hv : SS w rv rows) (hw : SI w wv word) (hm : MW n rows word) :
    Calls Try.prog 23 #[.agg #[.int .i64 cols, rv], wv] w (RetO w (unsTo rows word rows.length)) := by
  have HV := Lib.hid hv; have HW := Lib.hid hw; have HM := Lib.hid hm
  have hrl := hm.rl
  have hwl : word.length ≤ 256 := by rw [hm.wl]; exact hm.nn
  clear hv hw hm
  obtain ⟨RA, rc, rfl, _⟩ := HV.out
  have HF := Lib.hid (MBox.mk' w cols (.slice RA rows.length rc))
  generalize hr : rows.length = r at HF HV hrl ⊢
  have HR := Lib.hid hr; clear hr
  have HO0 : Hid (OI (w.heap.size + 1) (w.alloc (.cells #[.int .i64 cols, .slice RA r rc] 24)) (.slice none 0 0) (unsTo rows word 0)) := OI.nil _ _
  go_enter Try.func23, Try.ntmps23
  go_wp2_with fail
  go_loopw [5, 6] (fun u i wr => ∃ (k : Nat) (A : Option Addr) (m c : Nat), k ≤ r ∧ i = .int .i64 (k : Int) ∧ u = .slice A m c ∧ Hid (OI (w.heap.size + 1) wr u (unsTo rows word k)) ∧ Hid (MBox w wr cols (.slice RA r rc)) ∧ Hid (w.heap.size + 1 ≤ wr.heap.size)) (fun _ i _ => r - (intOf i).toNat)
  case atStart => exact ⟨0, none, 0, 0, Nat.zero_le _, rfl, rfl, HO0, HF, hid' (by rw [World.size_alloc]; omega)⟩
  case round =>
    clear HO0 HF
    obtain ⟨k, A, m, c, hk, rfl, rfl, HO, HF, HZ⟩ := hrel
    have d0 := HF.out.d0; have d1 := HF.out.d1
    by_cases hlt : k < r
    · obtain ⟨ad, Ak, ck, x, rfl, hc, HX, HXE⟩ := (HV.out.below HF.out.bel (Nat.le_refl _)).eltA (k := k) (by rw [HR.out]; exact hlt)
      obtain ⟨hx1, hx2⟩ := HM.out.br k (by rw [HR.out]; exact hlt)
      rw [HXE.out] at hx1 hx2
      have HX1 := Lib.hid hx1; have HX2 := Lib.hid hx2; clear hx1 hx2
      go_wp2_with fail
      refine (rOdd_any _ _ wv x word HX.out.si (HW.out.below HF.out.bel (Nat.le_refl _)) (by rw [HX1.out, HM.out.wl]) HX2.out HM.out.wb hwl).mono ?_
      rintro e w3 ⟨rfl, hb3⟩
      have HF3 := Lib.hid (HF.out.on hb3)
      have HO3 := Lib.hid (HO.out.below hb3 (Nat.le_refl _))
      have HZ3 : Hid (w.heap.size + 1 ≤ w3.heap.size) := hid' (Nat.le_trans HZ.out hb3.size)
      clear hb3 d0 d1 hc
      cases ho : oddF x word
      · have HU : Hid (unsTo rows word (k + 1) = unsTo rows word k) := unsTo_no (by rw [HXE.out]; exact ho)
        clear ho
        go_wp2_with fail
        exact ⟨⟨k + 1, A, m, c, by omega, by push_cast; rfl, rfl, by rw [HU.out]; exact HO3, HF3, HZ3⟩, by simp only [intOf]; omega⟩
      · have HU : Hid (unsTo rows word (k + 1) = unsTo rows word k ++ [(k : Int)]) := unsTo_yes (by rw [HXE.out]; exact ho)
        clear ho
        have hul := unsTo_len rows word k
        have HP := Lib.hid (PushI.mk' (w0 := w) HO3.out HF3.out.bel HZ3.out (k : Int))
        have HFa := Lib.hid (HF3.out.on (bl_alloc w3 (.cells #[.int .i64 (k : Int)] 3)))
        go_wp2_with (at_builtin; refine wpList_pushI rfl _ _ rfl (w.heap.size + 1) _ (unsTo rows word k) rfl HP.out.own w3.heap.size 1 (k : Int) rfl HP.out.box (by omega) HP.out.up ?_; (intro v1 w5 ho hg); (rw [← HU.out] at ho; have HO5 := Lib.hid ho; have HF5 := Lib.hid (HFa.out.grown hg (fun q e => by have := (HP.out.own.lt e).1; omega)); have HZ5 : Hid (w.heap.size + 1 ≤ w5.heap.size) := hid' (Nat.le_trans HP.out.up hg.size); clear ho hg))
        obtain ⟨A5, c5, rfl⟩ := HO5.out.form'
        exact ⟨⟨k + 1, A5, _, c5, by omega, by push_cast; rfl, rfl, HO5, HF5, HZ5⟩, by simp only [intOf]; omega⟩
    · obtain rfl : r = k := by omega
      go_wp2_with fail
      go_ret
      exact ⟨_, rfl, HO.out.mono (by omega), HF.out.bel⟩

set_option maxHeartbeats 8000000 in
theorem rNext_any (w : World) (n : Nat) (rv wv : Value) (rows : List (List Int)) (word : List Int) (hv : SS w rv rows) (hw : SI w wv word) (hm : MW n rows word) :
    Calls Try.prog 27 #[.agg #[.int .i64 (n : Int), rv], wv] w (RetI w (nextI rows n (badOf rows word))) := by
  have HV := Lib.hid hv; have HW := Lib.hid hw; have HM := Lib.hid hm
  have hrl := hm.rl
  have hnn := hm.nn
  have hwl : word.length ≤ 256 := by rw [hm.wl]; exact hm.nn
  clear hv hw hm
  obtain ⟨RA, rc, rfl, _⟩ := HV.out
  have HF := Lib.hid (MBox.mk' w n (.slice RA rows.length rc))
  generalize hr : rows.length = r at HF HV hrl ⊢
  have HR := Lib.hid hr; clear hr
  have HN0 : Hid (nextI rows n (badOf rows word) = nxF rows (badOf rows word) n 0) := rfl
  go_enter Try.func27, Try.ntmps27
  go_wp2_with fail
  go_loopw [5] (fun i wr => ∃ k : Nat, k ≤ n ∧ i = .int .i64 (k : Int) ∧ Hid (nextI rows n (badOf rows word) = nxF rows (badOf rows word) (n - k) k) ∧ Hid (MBox w wr n (.slice RA r rc))) (fun i _ => n - (intOf i).toNat)
  case atStart => exact ⟨0, Nat.zero_le _, rfl, HN0, HF⟩
  case round =>
    clear HN0 HF
    obtain ⟨p, hp, rfl, HNX, HF⟩ := hrel
    have d0 := HF.out.d0; have d1 := HF.out.d1
    by_cases hlt : p < n
    · go_wp2_with fail
      obtain ⟨wo, hwo⟩ : ∃ wo, wo = wr := ⟨_, rfl⟩
      rw [← hwo] at HF d0 d1 ⊢
      clear hwo
      go_loopw [6, 7] (fun s i wr => ∃ k : Nat, k ≤ r ∧ i = .int .i64 (k : Int) ∧ s = .int .i64 (scoreTo rows (badOf rows word) p k) ∧ Hid (MBox w wr n (.slice RA r rc))) (fun _ i _ => r - (intOf i).toNat)
      case atStart => exact ⟨0, Nat.zero_le _, rfl, rfl, HF⟩
      case round =>
        clear HF d0 d1
        obtain ⟨k, hk, rfl, rfl, HF⟩ := hrel
        have d0 := HF.out.d0; have d1 := HF.out.d1
        have hsb := scoreTo_bd rows (badOf rows word) p k
        by_cases hkr : k < r
        · obtain ⟨ad, Ak, ck, x, rfl, hc, HX, HXE⟩ := (HV.out.below HF.out.bel (Nat.le_refl _)).eltA (k := k) (by rw [HR.out]; exact hkr)
          obtain ⟨hx1, hx2⟩ := HM.out.br k (by rw [HR.out]; exact hkr)
          rw [HXE.out] at hx1 hx2
          have HX1 := Lib.hid hx1; have HX2 := Lib.hid hx2
          obtain ⟨bd, y, rfl, hd, _, HY⟩ := HX.out.si.elt (k := p) (by rw [hx1]; exact hlt)
          have hpx : p < x.length := by rw [hx1]; exact hlt
          have HS : Hid (scoreTo rows (badOf rows word) p (k + 1) = scoreTo rows (badOf rows word) p k + (if y = 1 then (if oddF x word = true then 1 else -1) else 0)) := hid' (by show _ = _; rw [scoreTo, badOf_getD (by rw [HR.out]; exact hkr), HXE.out, HY.out])
          clear hx1 hx2
          generalize scoreTo rows (badOf rows word) p k = s at *
          obtain ⟨hs0, hs1⟩ := hsb
          by_cases hy : y = 1
          · have hb : (y == 1) = true := by rw [beq_iff_eq]; exact hy
            rw [if_pos hy] at HS
            clear hy
            go_wp2_with fail
            refine (rOdd_any _ _ wv x word HX.out.si (HW.out.below HF.out.bel (Nat.le_refl _)) (by rw [HX1.out, HM.out.wl]) HX2.out HM.out.wb hwl).mono ?_
            rintro e w3 ⟨rfl, hb3⟩
            have HF3 := Lib.hid (HF.out.on hb3)
            have e0 := HF3.out.d0; have e1 := HF3.out.d1
            have hc3 := cell_below hb3 hc
            have hd3 := cell_below hb3 hd
            clear hb3 d0 d1 hc hd
            cases ho : oddF x word
            · rw [ho] at HS
              have HS2 : Hid (scoreTo rows (badOf rows word) p (k + 1) = s - 1) := hid' (by rw [HS.out]; rfl)
              clear HS ho
              go_wp2_with fail
              exact ⟨⟨k + 1, by omega, by push_cast; rfl, by rw [HS2.out], HF3⟩, by simp only [intOf]; omega⟩
            · rw [ho] at HS
              have HS2 : Hid (scoreTo rows (badOf rows word) p (k + 1) = s + 1) := hid' (by rw [HS.out]; rfl)
              clear HS ho
              go_wp2_with fail
              exact ⟨⟨k + 1, by omega, by push_cast; rfl, by rw [HS2.out], HF3⟩, by simp only [intOf]; omega⟩
          · have hb : (y == 1) = false := by rw [beq_eq_false_iff_ne]; exact hy
            rw [if_neg hy, Int.add_zero] at HS
            clear hy
            go_wp2_with fail
            exact ⟨⟨k + 1, by omega, by push_cast; rfl, by rw [HS.out], HF⟩, by simp only [intOf]; omega⟩
        · obtain rfl : r = k := by omega
          have HNS : Hid (nextI rows n (badOf rows word) = if 0 < scoreTo rows (badOf rows word) p r then (p : Int) else nxF rows (badOf rows word) (n - (p + 1)) (p + 1)) := hid' (by
            show _ = _
            rw [HNX.out, show n - p = (n - (p + 1)) + 1 by omega, nxF, HR.out])
          generalize scoreTo rows (badOf rows word) p r = s at *
          by_cases hs : 0 < s
          · have HZ : Hid (nextI rows n (badOf rows word) = (p : Int)) := hid' (by rw [HNS.out, if_pos hs])
            go_wp2_with fail
            go_ret
            exact ⟨by rw [HZ.out]; rfl, HF.out.bel⟩
          · have HZ : Hid (nextI rows n (badOf rows word) = nxF rows (badOf rows word) (n - (p + 1)) (p + 1)) := hid' (by rw [HNS.out, if_neg hs])
            go_wp2_with fail
            exact ⟨⟨p + 1, by omega, by push_cast; rfl, HZ, HF⟩, by simp only [intOf]; omega⟩
    · obtain rfl : n = p := by omega
      have HZ : Hid (nextI rows n (badOf rows word) = -1) := hid' (by show _ = _; rw [HNX.out, Nat.sub_self]; rfl)
      go_wp2_with fail
      go_ret
      exact ⟨by rw [HZ.out]; rfl, HF.out.bel⟩
end Go.Proofs.Ytgabhlalamnbgaa

/- ref45.Flip, ref45.Few, ref09.Few. -/
namespace Go.Proofs.Ytgabhlalamnbgaa
open Go.RowKit
set_option linter.unusedVariables false
set_option maxRecDepth 100000

def few45 (a b cols : Int) (rows : List (List Int)) : Bool := !(decide (a < (rows.length : Int)) || decide (b < cols)) && rows.all fun r => decide ((r.length : Int) ≤ b)
def few09To (left : Int) : List (List Int) → Bool
  | [] => true
  | r :: rs => if left < (r.length : Int) then false else few09To (left - r.length) rs
def few09 (n cols : Int) (rows : List (List Int)) : Bool := if 260 < cols ∨ n < (rows.length : Int) then false else few09To (n - rows.length) rows
theorem drop_getDL {l : List (List Int)} {k : Nat} (h : k < l.length) : l.drop k = l.getD k [] :: l.drop (k + 1) := by
  rw [List.drop_eq_getElem_cons h]; simp [List.getD, h]

set_option maxHeartbeats 8000000 in
theorem few45_any (w : World) (a b cols : Int) (rv : Value) (rows : List (List Int)) (hv : SS w rv rows) :
    Calls Try.prog 24 #[.agg #[.int .i64 cols, rv], .int .i64 a, .int .i64 b] w (RetB w (few45 a b cols rows)) := by
  have HV := Lib.hid hv; clear hv
  obtain ⟨RA, rc, rfl, hs⟩ := HV.out
  have hrl := hs.len
  clear hs
  have HF := Lib.hid (MBox.mk' w cols (.slice RA rows.length rc))
  have HR1 : Hid (a < (rows.length : Int) → few45 a b cols rows = false) := hid' fun h => by unfold few45; rw [decide_eq_true h]; rfl
  have HR2 : Hid (b < cols → few45 a b cols rows = false) := hid' fun h => by unfold few45; rw [decide_eq_true h]; simp
  have HR3 : Hid (¬ a < (rows.length : Int) → ¬ b < cols → few45 a b cols rows = rows.all fun r => decide ((r.length : Int) ≤ b)) := hid' fun h1 h2 => by unfold few45; rw [decide_eq_false h1, decide_eq_false h2]; rfl
  generalize hr : rows.length = r at *
  have HR := Lib.hid hr; clear hr
  by_cases h1 : a < (r : Int)
  · have b1 : decide (a < (r : Int)) = true := by simpa using h1
    have HE : Hid (few45 a b cols rows = false) := HR1.out h1
    clear h1
    go_enter Try.func24, Try.ntmps24
    go_wp2_with fail
    go_ret
    exact ⟨by rw [HE.out]; rfl, HF.out.bel⟩
  have b1 : decide (a < (r : Int)) = false := by simpa using h1
  by_cases h2 : b < cols
  · have b2 : decide (b < cols) = true := by simpa using h2
    have HE : Hid (few45 a b cols rows = false) := HR2.out h2
    clear h1 h2
    go_enter Try.func24, Try.ntmps24
    go_wp2_with fail
    go_ret
    exact ⟨by rw [HE.out]; rfl, HF.out.bel⟩
  have b2 : decide (b < cols) = false := by simpa using h2
  have HE : Hid (few45 a b cols rows = rows.all fun r => decide ((r.length : Int) ≤ b)) := HR3.out h1 h2
  clear h1 h2 HR1 HR2 HR3
  go_enter Try.func24, Try.ntmps24
  go_wp2_with fail
  clear b1 b2
  generalize hw0 : w.alloc (.cells #[.int .i64 cols, .slice RA r rc] 24) = w0 at *
  clear hw0
  have d0 := HF.out.d0; have d1 := HF.out.d1
  go_loop [7] (fun i => ∃ k : Nat, k ≤ r ∧ i = .int .i64 (k : Int) ∧ Hid (∀ j, j < k → ((rows.getD j []).length : Int) ≤ b)) (fun i => r - (intOf i).toNat)
  case atStart => exact ⟨0, Nat.zero_le _, rfl, hid' fun j hj => absurd hj (by omega)⟩
  case round =>
    obtain ⟨k, hk, rfl, HG⟩ := hrel
    by_cases hlt : k < r
    · obtain ⟨ad, Ak, ck, x, rfl, hc, HX, HXE⟩ := (HV.out.below HF.out.bel (Nat.le_refl _)).eltA (k := k) (by rw [HR.out]; exact hlt)
      by_cases hx : b < (x.length : Int)
      · have HE2 : Hid (few45 a b cols rows = false) := hid' (by
          rw [HE.out]
          exact all_not (k := k) (by rw [HR.out]; exact hlt) (by rw [HXE.out]; exact decide_eq_false (by omega)))
        go_wp2_with fail
        go_ret
        exact ⟨by rw [HE2.out]; rfl, HF.out.bel⟩
      · have HXX : Hid ((x.length : Int) ≤ b) := hid' (by omega)
        go_wp2_with fail
        go_round
        case rel => exact ⟨k + 1, by omega, by go_num, hid' fun j hj => by
          by_cases e : j = k
          · subst e; rw [HXE.out]; exact HXX.out
          · exact HG.out j (by omega)⟩
        case measure => simp [intOf]; omega
    · obtain rfl : r = k := by omega
      have HE2 : Hid (few45 a b cols rows = true) := hid' (by
        rw [HE.out]
        exact all_of_getD fun j hj => decide_eq_true (HG.out j (by rw [← HR.out]; exact hj)))
      go_wp2_with fail
      go_ret
      exact ⟨by rw [HE2.out]; rfl, HF.out.bel⟩

set_option maxHeartbeats 8000000 in
theorem few09_any (w : World) (cols : Int) (rv : Value) (rows : List (List Int)) (hv : SS w rv rows) :
    Calls Try.prog 13 #[.agg #[.int .i64 cols, rv], .int .i64 2000] w (RetB w (few09 2000 cols rows)) := by
  have HV := Lib.hid hv; clear hv
  obtain ⟨RA, rc, rfl, hs⟩ := HV.out
  have hrl := hs.len
  clear hs
  have HF := Lib.hid (MBox.mk' w cols (.slice RA rows.length rc))
  have HDR := Lib.hid (fun k (h : k < rows.length) => drop_getDL h)
  have HR1 : Hid (260 < cols ∨ 2000 < (rows.length : Int) → few09 2000 cols rows = false) := hid' fun h => by unfold few09; rw [if_pos h]
  have HR3 : Hid (¬ (260 < cols ∨ 2000 < (rows.length : Int)) → few09 2000 cols rows = few09To (2000 - rows.length) rows) := hid' fun h => by unfold few09; rw [if_neg h]
  generalize hr : rows.length = r at *
  have HR := Lib.hid hr; clear hr
  by_cases h1 : 260 < cols
  · have b1 : decide (260 < cols) = true := by simpa using h1
    have HE : Hid (few09 2000 cols rows = false) := HR1.out (.inl h1)
    clear h1
    go_enter Try.func13, Try.ntmps13
    go_wp2_with fail
    go_ret
    exact ⟨by rw [HE.out]; rfl, HF.out.bel⟩
  have b1 : decide (260 < cols) = false := by simpa using h1
  by_cases h2 : 2000 < (r : Int)
  · have b2 : decide (2000 < (r : Int)) = true := by simpa using h2
    have HE : Hid (few09 2000 cols rows = false) := HR1.out (.inr h2)
    clear h1
    go_enter Try.func13, Try.ntmps13
    go_wp2_with fail
    go_ret
    exact ⟨by rw [HE.out]; rfl, HF.out.bel⟩
  have b2 : decide (2000 < (r : Int)) = false := by simpa using h2
  have HE : Hid (few09 2000 cols rows = few09To (2000 - r) rows) := HR3.out (by omega)
  clear h1 HR1 HR3
  go_enter Try.func13, Try.ntmps13
  go_wp2_with fail
  clear b1 b2
  generalize hw0 : w.alloc (.cells #[.int .i64 cols, .slice RA r rc] 24) = w0 at *
  clear hw0
  have d0 := HF.out.d0; have d1 := HF.out.d1
  go_loop [5, 6] (fun l i => ∃ (k : Nat) (lf : Int), k ≤ r ∧ i = .int .i64 (k : Int) ∧ l = .int .i64 lf ∧ 0 ≤ lf ∧ lf ≤ 2000 ∧ Hid (few09 2000 cols rows = few09To lf (rows.drop k))) (fun _ i => r - (intOf i).toNat)
  case atStart => exact ⟨0, _, Nat.zero_le _, rfl, rfl, by omega, by omega, by rw [List.drop_zero]; exact HE⟩
  case round =>
    obtain ⟨k, lf, hk, rfl, rfl, hl0, hl1, HG⟩ := hrel
    by_cases hlt : k < r
    · obtain ⟨ad, Ak, ck, x, rfl, hc, HX, HXE⟩ := (HV.out.below HF.out.bel (Nat.le_refl _)).eltA (k := k) (by rw [HR.out]; exact hlt)
      have HS : Hid (few09 2000 cols rows = if lf < (x.length : Int) then false else few09To (lf - x.length) (rows.drop (k + 1))) := hid' (by show _ = _; rw [HG.out, HDR.out k hlt, few09To, HXE.out])
      by_cases hx : lf < (x.length : Int)
      · have HE2 : Hid (few09 2000 cols rows = false) := hid' (by rw [HS.out, if_pos hx])
        go_wp2_with fail
        go_ret
        exact ⟨by rw [HE2.out]; rfl, HF.out.bel⟩
      · have HE2 : Hid (few09 2000 cols rows = few09To (lf - x.length) (rows.drop (k + 1))) := hid' (by rw [HS.out, if_neg hx])
        go_wp2_with fail
        go_round
        case rel => exact ⟨k + 1, _, by omega, by go_num, rfl, by omega, by omega, HE2⟩
        case measure => simp [intOf]; omega
    · obtain rfl : r = k := by omega
      have HE2 : Hid (few09 2000 cols rows = true) := hid' (by
        rw [HG.out, List.drop_of_length_le (by rw [HR.out]; exact Nat.le_refl _)]; rfl)
      go_wp2_with fail
      go_ret
      exact ⟨by rw [HE2.out]; rfl, HF.out.bel⟩

theorem mw_st {n : Nat} {rows : List (List Int)} {word : List Int} (h : MW n rows word) (s : Nat) : MW n rows (stF rows n word s).1 := ⟨h.nn, h.rl, h.br, by rw [(stF_len rows n word s).1, h.wl], stF_bit h.wb s⟩
/-- two lists come back -/
def RetLL (w : World) (xs ys : List Int) (e : Ending) (w' : World) : Prop := ∃ u1 u2, e = .returned (.tuple #[u1, u2]) ∧ SI w' u1 xs ∧ SI w' u2 ys ∧ Below w.heap.size w w'
set_option maxHeartbeats 16000000 in
theorem rFlip_any (w : World) (n t : Nat) (rv wv : Value) (rows : List (List Int)) (word : List Int) (hv : SS w rv rows) (hw : SI w wv word) (hm : MW n rows word) (ht : FlipT rows n word t) (htl : t ≤ rows.length) :
    Calls Try.prog 25 #[.agg #[.int .i64 (n : Int), rv], wv] w (RetLL w (stF rows n word t).1 (stF rows n word t).2) := by
  have HV := Lib.hid hv; have HW := Lib.hid hw; have HMW := Lib.hid hm; have HT := Lib.hid ht
  have hrl := hm.rl
  have hn256 := hm.nn
  have HWL := Lib.hid hm.wl
  clear hv hw hm ht
  obtain ⟨RA, rc, rfl, _⟩ := HV.out
  obtain ⟨WA, wc, rfl, _⟩ := HW.out
  have HF := Lib.hid (MBox.mk' w n (.slice RA rows.length rc))
  generalize hr : rows.length = r at *
  have HRR := Lib.hid hr; clear hr
  rw [HWL.out] at HW ⊢
  obtain ⟨w0, hw0⟩ : ∃ w0, w0 = w.alloc (.cells #[.int .i64 (n : Int), .slice RA r rc] 24) := ⟨_, rfl⟩
  have hsz : w0.heap.size = w.heap.size + 1 := by rw [hw0, World.size_alloc]
  rw [← hw0] at HF
  have HOE : Hid (OI w0.heap.size (w0.alloc (.cells #[] 3)) (.slice (some ⟨w0.heap.size, 0, none⟩) 0 0) []) := OI.empty w0 (Nat.le_refl _)
  have HBE := Lib.hid (bl_alloc w0 (.cells #[] 3))
  have HWE := Lib.hid ((HW.out.below HF.out.bel (Nat.le_refl _)).below HBE.out (Nat.le_refl _))
  have HLB : Hid (([] : List Int).length + word.length ≤ 17592186044416) := hid' (by rw [HWL.out]; simp; omega)
  have HUP : Hid (w0.heap.size ≤ (w0.alloc (.cells #[] 3)).heap.size) := HBE.out.size
  have HFE := Lib.hid (HF.out.on HBE.out)
  rw [hsz] at HOE
  rw [hw0] at HOE HBE HWE HUP HFE
  have HSZ := Lib.hid hsz
  have hB1 : w.heap.size + 1 ≤ w.heap.size + 1 := Nat.le_refl _
  clear hw0 hsz HF
  rw [show (w.alloc (.cells #[.int .i64 (n : Int), .slice RA r rc] 24)).heap.size = w.heap.size + 1 from World.size_alloc _ _] at HUP
  go_enter Try.func25, Try.ntmps25
  go_wp2_with (at_builtin; refine wpList_catI rfl _ _ rfl (w.heap.size + 1) _ [] rfl HOE.out _ word rfl HWE.out HLB.out HUP.out ?_; (intro ev w3 ho hg _; (rw [List.nil_append] at ho; have HEV := Lib.hid ho; have HF3 := Lib.hid (HFE.out.grown hg (fun q e => by have := (HOE.out.lt e).1; omega)); have HZ3 : Hid (w.heap.size + 1 ≤ w3.heap.size) := hid' (Nat.le_trans HUP.out hg.size); have d0 := HF3.out.d0; have d1 := HF3.out.d1; clear ho hg)))
  obtain ⟨EA, ec, hev⟩ := HEV.out.form'
  rw [HWL.out] at hev
  subst hev
  clear HOE HBE HWE HLB HUP HFE HSZ hB1
  have HMS := Lib.hid (fun s => mw_st HMW.out s)
  have HEVS : Hid (SI w3 (.slice EA n ec) word) := hid' (HEV.out.si (by rw [HWL.out]; omega) (fun k => by rcases HMW.out.wb k with h | h <;> rw [h]; exact I64.zero; exact I64.one))
  refine (rNext_any _ n (.slice RA r rc) (.slice EA n ec) rows word (HV.out.below HF3.out.bel (Nat.le_refl _)) HEVS.out HMW.out).mono ?_
  rintro e w4 ⟨rfl, hb4⟩
  have HEV4 : Hid (OI (w.heap.size + 1) w4 (.slice EA n ec) (stF rows n word 0).1) := HEV.out.below hb4 (Nat.le_refl _)
  have HF4 := Lib.hid (HF3.out.on hb4)
  have HZ4 : Hid (w.heap.size + 1 ≤ w4.heap.size) := hid' (Nat.le_trans HZ3.out hb4.size)
  have HFV0 : Hid (OI (w.heap.size + 1) w4 (.slice none 0 0) (stF rows n word 0).2) := OI.nil _ _
  have HN0 : Hid (nextI rows n (badOf rows word) = nxt rows n word 0) := rfl
  rw [HN0.out]
  clear hb4 HEV HF3 HZ3 HEVS d0 d1 HN0
  go_wp2_with fail
  go_loopw [7, 8] (fun fv z wr => ∃ (s : Nat) (FA : Option Addr) (fc : Nat), s ≤ t ∧ fv = .slice FA s fc ∧ z = .int .i64 (nxt rows n word s) ∧ Hid (OI (w.heap.size + 1) wr (.slice EA n ec) (stF rows n word s).1) ∧ Hid (OI (w.heap.size + 1) wr fv (stF rows n word s).2) ∧ Hid (∀ q, (Value.slice EA n ec).ownBlock = some q → fv.ownBlock ≠ some q) ∧ Hid (MBox w wr n (.slice RA r rc)) ∧ Hid (w.heap.size + 1 ≤ wr.heap.size)) (fun fv _ _ => t - slLen fv)
  case atStart => exact ⟨0, none, 0, Nat.zero_le _, rfl, rfl, HEV4, HFV0, hid' (fun q _ h => by simp [Value.ownBlock] at h), HF4, HZ4⟩
  case round =>
    clear HEV4 HFV0 HF4 HZ4
    obtain ⟨s, FA, fc, hs, rfl, rfl, HEV, HFV, HNE, HF, HZ⟩ := hrel
    have HSL : Hid ((stF rows n word s).1.length = n) := (HMS.out s).wl
    have HSB : Hid (Bit (stF rows n word s).1) := (HMS.out s).wb
    have hnb := nextI_bd rows n (badOf rows (stF rows n word s).1)
    have HSE : Hid ((stF rows n word (s + 1)).1 = flipAt (stF rows n word s).1 (nxt rows n word s).toNat) := rfl
    have HSF : Hid ((stF rows n word (s + 1)).2 = (stF rows n word s).2 ++ [nxt rows n word s]) := rfl
    have HFL : Hid ((stF rows n word s).2.length = s) := hid' (stF_len rows n word s).2
    have hnb2 : nxt rows n word s = -1 ∨ (0 ≤ nxt rows n word s ∧ nxt rows n word s < n) := by
      rcases hnb with h | ⟨h1, h2, _⟩
      · exact .inl h
      · exact .inr ⟨h1, h2⟩
    clear hnb
    by_cases hz : nxt rows n word s < 0
    · obtain rfl : s = t := HT.out.le hs hz
      have HFB : Hid (∀ k, -1 ≤ (stF rows n word s).2.getD k 0 ∧ (stF rows n word s).2.getD k 0 ≤ n) := stF_rng rows n word s
      clear HSE HSF hnb2
      generalize nxt rows n word s = z at hz
      go_wp2_with fail
      go_ret2
      refine ⟨_, _, rfl, HEV.out.si (by rw [HSL.out]; omega) (fun k => ?_), HFV.out.si (by rw [HFL.out]; omega) (fun k => ?_), HF.out.bel⟩
      · rcases HSB.out k with h | h <;> rw [h]
        · exact I64.zero
        · exact I64.one
      · have := HFB.out k; exact I64.of_small (by omega) (by omega)
    · obtain ⟨hz0, hz1⟩ := hnb2.resolve_left (by omega)
      have hst : s < t := Nat.lt_of_le_of_ne hs fun e => by
        have := HT.out.2
        rw [← e] at this
        exact hz this
      obtain ⟨p, hp⟩ : ∃ p : Nat, nxt rows n word s = (p : Int) := ⟨(nxt rows n word s).toNat, by omega⟩
      rw [hp] at HSE HSF hz1 ⊢
      rw [Int.toNat_natCast] at HSE
      have hpn : p < n := by omega
      clear hz hz0 hz1 hp hnb2
      have hzp : (0 : Int) ≤ (p : Int) := by omega
      obtain ⟨ge, c', he, hge1, hge2⟩ := HEV.out.form (by rw [HSL.out]; omega)
      injection he with e1 e2 e3
      subst e1
      clear e2 e3 c'
      have hec := HEV.out.cell p (by rw [HSL.out]; exact hpn)
      have hef := HEV.out.frozen p
      have hyb := HSB.out p
      have HEVs := Lib.hid (HEV.out.set p (1 - (stF rows n word s).1.getD p 0))
      have HEVs2 : Hid (OI (w.heap.size + 1) (wr.setCell ⟨ge, p, none⟩ (.int .i64 (1 - (stF rows n word s).1.getD p 0))) (.slice (some ⟨ge, 0, none⟩) n ec) (stF rows n word (s + 1)).1) := hid' (by rw [HSE.out]; exact HEVs.out)
      have HFVs := Lib.hid (HFV.out.grown (gr_set1 wr ge p (.int .i64 (1 - (stF rows n word s).1.getD p 0))) fun q hq e2 => HNE.out ge rfl (by rw [Option.some.inj e2]; exact hq))
      have HFs := Lib.hid (HF.out.grown (gr_set1 wr ge p (.int .i64 (1 - (stF rows n word s).1.getD p 0))) fun q e => by have := Option.some.inj e; omega)
      clear HEVs HEV HFV HF
      generalize (stF rows n word s).1.getD p 0 = y at *
      have hy0 : 0 ≤ y ∧ y ≤ 1 := by omega
      obtain ⟨hy1, hy2⟩ := hy0
      clear hyb
      obtain ⟨wa, hwa⟩ : ∃ wa, wa = wr.setCell ⟨ge, p, none⟩ (.int .i64 (1 - y)) := ⟨_, rfl⟩
      have hsza : wa.heap.size = wr.heap.size := by rw [hwa, World.size_setCell]
      rw [← hwa] at HEVs2 HFVs HFs
      have HPB : Hid (SI (wa.alloc (.cells #[.int .i64 (p : Int)] 3)) (.slice (some ⟨wr.heap.size, 0, none⟩) 1 1) [(p : Int)]) := hid' (hsza ▸ SI.lit wa [(p : Int)] (by simp) (fun k => by match k with | 0 => exact I64.of_small (by simp <;> omega) (by simp <;> omega) | k + 1 => exact I64.zero))
      have HOA := Lib.hid (HFVs.out.alloc (.cells #[.int .i64 (p : Int)] 3))
      have HUP : Hid (w.heap.size + 1 ≤ (wa.alloc (.cells #[.int .i64 (p : Int)] 3)).heap.size) := hid' (by have := HZ.out; rw [World.size_alloc]; omega)
      have HLB : Hid ((stF rows n word s).2.length + [(p : Int)].length ≤ 17592186044416) := hid' (by show _ ≤ _; rw [HFL.out]; simp; omega)
      have HEA := Lib.hid (HEVs2.out.alloc (.cells #[.int .i64 (p : Int)] 3))
      have HFA := Lib.hid (HFs.out.on (bl_alloc wa (.cells #[.int .i64 (p : Int)] 3)))
      have HESZ : Hid (∀ q, (Value.slice (some ⟨ge, 0, none⟩) n ec).ownBlock = some q → q < (wa.alloc (.cells #[.int .i64 (p : Int)] 3)).heap.size) := hid' fun q hq => (HEA.out.lt hq).2
      clear HEVs2 HFVs HFs hsza
      rw [hwa] at HPB HOA HUP HEA HFA HESZ
      clear hwa
      go_wp2_with (at_builtin; refine wpList_catI rfl _ _ rfl (w.heap.size + 1) _ (stF rows n word s).2 rfl HOA.out _ [(p : Int)] rfl HPB.out HLB.out HUP.out ?_; (intro v7 w7 ho hg hv7; (rw [← HSF.out] at ho; have HFV7 := Lib.hid ho; have HEV7 := Lib.hid (HEA.out.grown hg (fun q hq e => HNE.out q hq e)); have HNE7 : Hid (∀ q, (Value.slice (some ⟨ge, 0, none⟩) n ec).ownBlock = some q → v7.ownBlock ≠ some q) := hid' (fun q hq e => hv7.elim (fun h => HNE.out q hq (h ▸ e)) (fun h => (by rw [h] at e; have h1 := Option.some.inj e; have h2 := HESZ.out q hq; omega))); have HF7 := Lib.hid (HFA.out.grown hg (fun q e => by have := (HOA.out.lt e).1; omega)); have HZ7 : Hid (w.heap.size + 1 ≤ w7.heap.size) := hid' (Nat.le_trans HUP.out hg.size); have q0 := HF7.out.d0; have q1 := HF7.out.d1; clear ho hg hv7)))
      obtain ⟨FA7, fc7, hv7⟩ := HFV7.out.form'
      rw [(stF_len rows n word (s + 1)).2] at hv7
      subst hv7
      have HEVS : Hid (SI w7 (.slice (some ⟨ge, 0, none⟩) n ec) (stF rows n word (s + 1)).1) := hid' (by
        have h1 := HEV7.out.si (by rw [(HMS.out (s + 1)).wl]; omega) (fun k => by rcases (HMS.out (s + 1)).wb k with h | h <;> rw [h]; exact I64.zero; exact I64.one)
        exact h1)
      refine (rNext_any _ n (.slice RA r rc) (.slice (some ⟨ge, 0, none⟩) n ec) rows (stF rows n word (s + 1)).1 (HV.out.below HF7.out.bel (Nat.le_refl _)) HEVS.out (HMS.out (s + 1))).mono ?_
      rintro e w8 ⟨rfl, hb8⟩
      have HEV8 := Lib.hid (HEV7.out.below hb8 (Nat.le_refl _))
      have HFV8 := Lib.hid (HFV7.out.below hb8 (Nat.le_refl _))
      have HF8 := Lib.hid (HF7.out.on hb8)
      have HZ8 : Hid (w.heap.size + 1 ≤ w8.heap.size) := hid' (Nat.le_trans HZ7.out hb8.size)
      have HN8 : Hid (nextI rows n (badOf rows (stF rows n word (s + 1)).1) = nxt rows n word (s + 1)) := rfl
      rw [HN8.out]
      clear hb8 HEV7 HFV7 HF7 HZ7 HEVS q0 q1 hec hef HPB HOA HUP HEA HFA HESZ
      go_wp2_with fail
      exact ⟨⟨s + 1, FA7, fc7, by omega, rfl, rfl, HEV8, HFV8, HNE7, HF8, HZ8⟩, by simp only [slLen]; omega⟩
end Go.Proofs.Ytgabhlalamnbgaa

/- The law MessageFlips returns true for every input. -/
namespace Go.Proofs.Ytgabhlalamnbgaa
open Go.RowKit
set_option linter.unusedVariables false
set_option maxRecDepth 100000

set_option maxHeartbeats 8000000 in
theorem lawFlips (w : World) {hv : Value} (hh : ∃ cols rv rows, hv = .agg #[.int .i64 cols, rv] ∧ SS w rv rows) {wv : Value} (hwv : ∃ word, SI w wv word) :
    Calls Try.prog 4 #[hv, wv] w (RetB w true) := by
  obtain ⟨cols, rv, rows, rfl, hv⟩ := hh
  obtain ⟨word, hw⟩ := hwv
  have HV := Lib.hid hv; have HW := Lib.hid hw; clear hv hw
  obtain ⟨RA, rc, rfl, _⟩ := HV.out
  obtain ⟨WA, wc, rfl, _⟩ := HW.out
  have HF := Lib.hid (MBox.mk' w cols (.slice RA rows.length rc))
  generalize hr : rows.length = r at HF HV ⊢
  have HRR := Lib.hid hr; clear hr
  generalize hwl : word.length = wl at HW ⊢
  have HWL := Lib.hid hwl; clear hwl
  cases hf9 : few09 2000 cols rows
  · have HF9 := Lib.hid hf9; clear hf9
    go_enter Try.func4, Try.ntmps4
    go_wp2_with fail
    generalize hw0 : w.alloc (.cells #[.int .i64 cols, .slice RA r rc] 24) = w0 at *
    clear hw0
    have d0 := HF.out.d0; have d1 := HF.out.d1
    go_wp2_with fail
    refine (few09_any _ cols (.slice RA r rc) rows (HV.out.below HF.out.bel (Nat.le_refl _))).mono ?_
    rintro e w1 ⟨rfl, hb1⟩
    rw [HF9.out]
    have HB1 := Lib.hid (bl_trans HF.out.bel hb1); clear hb1
    go_wp2_with fail
    go_ret
    exact ⟨rfl, HB1.out⟩
  have HF9 := Lib.hid hf9; clear hf9
  by_cases hne : mwE cols rows word = 0
  case neg =>
    have hbb : (mwE cols rows word != 0) = true := by rw [bne_iff_ne]; exact hne
    have HNE := Lib.hid hne
    have HIF : Hid ((if mwE cols rows word = 0 then unsTo rows word rows.length else []) = []) := hid' (if_neg hne)
    have her : (mwE cols rows word == mwE cols rows word) = true := by simp
    clear hne
    go_enter Try.func4, Try.ntmps4
    go_wp2_with fail
    generalize hw0 : w.alloc (.cells #[.int .i64 cols, .slice RA r rc] 24) = w0 at *
    clear hw0
    have d0 := HF.out.d0; have d1 := HF.out.d1
    go_wp2_with fail
    refine (few09_any _ cols (.slice RA r rc) rows (HV.out.below HF.out.bel (Nat.le_refl _))).mono ?_
    rintro e w1 ⟨rfl, hb1⟩
    rw [HF9.out]
    have HF1 := Lib.hid (HF.out.on hb1); clear hb1 d0 d1
    have d0 := HF1.out.d0; have d1 := HF1.out.d1
    go_wp2_with fail
    refine (mFlip_no _ cols (.slice RA r rc) (.slice WA wl wc) rows word (HV.out.below HF1.out.bel (Nat.le_refl _)) (HW.out.below HF1.out.bel (Nat.le_refl _)) HNE.out).mono ?_
    rintro e w2 ⟨u1, u2, rfl, hs1, hs2, hb2⟩
    obtain ⟨A1, c1, rfl, _⟩ := hs1
    obtain ⟨A2, c2, rfl, _⟩ := hs2
    rw [List.length_nil]
    have HF2 := Lib.hid (HF1.out.on hb2); clear hb2 d0 d1
    have d0 := HF2.out.d0; have d1 := HF2.out.d1
    go_wp2_with fail
    refine (mUnsat_any _ cols (.slice RA r rc) (.slice WA wl wc) rows word (HV.out.below HF2.out.bel (Nat.le_refl _)) (HW.out.below HF2.out.bel (Nat.le_refl _))).mono ?_
    rintro e w3 ⟨u3, rfl, hs3, _, hb3⟩
    rw [HIF.out] at hs3
    obtain ⟨A3, c3, rfl, _⟩ := hs3
    rw [List.length_nil]
    have HF3 := Lib.hid (HF2.out.on hb3); clear hb3 d0 d1
    have d0 := HF3.out.d0; have d1 := HF3.out.d1
    go_wp2_with fail
    refine (rWord45_any _ cols (.slice RA r rc) (.slice WA wl wc) rows word (HV.out.below HF3.out.bel (Nat.le_refl _)) (HW.out.below HF3.out.bel (Nat.le_refl _))).mono ?_
    rintro e w4 ⟨rfl, hb4⟩
    have HB4 := Lib.hid (bl_trans HF3.out.bel hb4); clear hb4 d0 d1
    go_wp2_with fail
    go_ret
    exact ⟨rfl, HB4.out⟩
  obtain ⟨n, hcn, hm⟩ := mw_of hne
  subst hcn
  obtain ⟨t, htl, ht⟩ := flip_ends hm.br hm.wl
  have HM := Lib.hid hm; have HT := Lib.hid ht; have HTL := Lib.hid htl; have HE := Lib.hid hne
  have HIF : Hid ((if mwE n rows word = 0 then unsTo rows word rows.length else []) = unsTo rows word rows.length) := hid' (if_pos hne)
  clear hm ht htl hne
  go_enter Try.func4, Try.ntmps4
  go_wp2_with fail
  generalize hw0 : w.alloc (.cells #[.int .i64 (n : Int), .slice RA r rc] 24) = w0 at *
  clear hw0
  have d0 := HF.out.d0; have d1 := HF.out.d1
  go_wp2_with fail
  refine (few09_any _ n (.slice RA r rc) rows (HV.out.below HF.out.bel (Nat.le_refl _))).mono ?_
  rintro e w1 ⟨rfl, hb1⟩
  rw [HF9.out]
  have HF1 := Lib.hid (HF.out.on hb1); clear hb1 d0 d1
  have d0 := HF1.out.d0; have d1 := HF1.out.d1
  go_wp2_with fail
  refine (mFlip_ok _ n t (.slice RA r rc) (.slice WA wl wc) rows word (HV.out.below HF1.out.bel (Nat.le_refl _)) (HW.out.below HF1.out.bel (Nat.le_refl _)) HE.out HT.out HTL.out).mono ?_
  rintro e w2 ⟨u1, u2, rfl, hs1, hs2, hb2⟩
  have HS1 := Lib.hid hs1; have HS2 := Lib.hid hs2
  have HF2 := Lib.hid (HF1.out.on hb2); clear hb2 d0 d1 hs1 hs2
  have d0 := HF2.out.d0; have d1 := HF2.out.d1
  go_wp2_with fail
  refine (mUnsat_any _ n (.slice RA r rc) (.slice WA wl wc) rows word (HV.out.below HF2.out.bel (Nat.le_refl _)) (HW.out.below HF2.out.bel (Nat.le_refl _))).mono ?_
  rintro e w3 ⟨u3, rfl, hs3, _, hb3⟩
  rw [HIF.out] at hs3
  rw [HE.out]
  have HS3 := Lib.hid hs3
  have HF3 := Lib.hid (HF2.out.on hb3)
  have HS13 := Lib.hid (HS1.out.below hb3 (Nat.le_refl _)); have HS23 := Lib.hid (HS2.out.below hb3 (Nat.le_refl _))
  clear hb3 d0 d1 hs3 HS1 HS2
  have d0 := HF3.out.d0; have d1 := HF3.out.d1
  go_wp2_with fail
  refine (rWord45_any _ n (.slice RA r rc) (.slice WA wl wc) rows word (HV.out.below HF3.out.bel (Nat.le_refl _)) (HW.out.below HF3.out.bel (Nat.le_refl _))).mono ?_
  rintro e w4 ⟨rfl, hb4⟩
  rw [HE.out]
  have HF4 := Lib.hid (HF3.out.on hb4)
  have HS14 := Lib.hid (HS13.out.below hb4 (Nat.le_refl _)); have HS24 := Lib.hid (HS23.out.below hb4 (Nat.le_refl _)); have HS34 := Lib.hid (HS3.out.below hb4 (Nat.le_refl _))
  clear hb4 d0 d1 HS13 HS23 HS3
  have d0 := HF4.out.d0; have d1 := HF4.out.d1
  go_wp2_with fail
  refine (rUnsat_any _ n n (.slice RA r rc) (.slice WA wl wc) rows word (HV.out.below HF4.out.bel (Nat.le_refl _)) (HW.out.below HF4.out.bel (Nat.le_refl _)) HM.out).mono ?_
  rintro e w5 ⟨u5, rfl, ho5, hb5⟩
  have hul := unsTo_len rows word rows.length
  have hrl := HM.out.rl
  have HS5 := Lib.hid (ho5.si (by omega) (fun k => by have := unsTo_bd rows word rows.length k; exact I64.of_small (by omega) (by omega)))
  have HF5 := Lib.hid (HF4.out.on hb5)
  have HS15 := Lib.hid (HS14.out.below hb5 (Nat.le_refl _)); have HS25 := Lib.hid (HS24.out.below hb5 (Nat.le_refl _)); have HS35 := Lib.hid (HS34.out.below hb5 (Nat.le_refl _))
  clear hb5 d0 d1 HS14 HS24 HS34 ho5 hul hrl
  go_wp2_with fail
  refine (rSameInts_any _ _ _ _ _ HS35.out HS5.out).mono ?_
  rintro e w6 ⟨rfl, hb6⟩
  rw [decide_eq_true (rfl : unsTo rows word rows.length = unsTo rows word rows.length)]
  have HF6 := Lib.hid (HF5.out.on hb6)
  have HS16 := Lib.hid (HS15.out.below hb6 (Nat.le_refl _)); have HS26 := Lib.hid (HS25.out.below hb6 (Nat.le_refl _))
  clear hb6 HS15 HS25 HS35 HS5
  have d0 := HF6.out.d0; have d1 := HF6.out.d1
  go_wp2_with fail
  refine (few45_any _ 24 24 n (.slice RA r rc) rows (HV.out.below HF6.out.bel (Nat.le_refl _))).mono ?_
  rintro e w7 ⟨rfl, hb7⟩
  have HF7 := Lib.hid (HF6.out.on hb7)
  have HS17 := Lib.hid (HS16.out.below hb7 (Nat.le_refl _)); have HS27 := Lib.hid (HS26.out.below hb7 (Nat.le_refl _))
  clear hb7 HS16 HS26 d0 d1
  have d0 := HF7.out.d0; have d1 := HF7.out.d1
  cases few45 24 24 n rows
  · go_wp2_with fail
    go_ret
    exact ⟨rfl, HF7.out.bel⟩
  · go_wp2_with fail
    refine (rFlip_any _ n t (.slice RA r rc) (.slice WA wl wc) rows word (HV.out.below HF7.out.bel (Nat.le_refl _)) (HW.out.below HF7.out.bel (Nat.le_refl _)) HM.out HT.out HTL.out).mono ?_
    rintro e w8 ⟨u6, u7, rfl, hs6, hs7, hb8⟩
    have HS6 := Lib.hid hs6; have HS7 := Lib.hid hs7
    have HS18 := Lib.hid (HS17.out.below hb8 (Nat.le_refl _)); have HS28 := Lib.hid (HS27.out.below hb8 (Nat.le_refl _))
    have HB8 := Lib.hid (bl_trans HF7.out.bel hb8)
    clear hb8 hs6 hs7 HS17 HS27 d0 d1
    go_wp2_with fail
    refine (rSameInts_any _ _ _ _ _ HS18.out HS6.out).mono ?_
    rintro e w9 ⟨rfl, hb9⟩
    rw [decide_eq_true (rfl : (stF rows n word t).1 = (stF rows n word t).1)]
    have HS29 := Lib.hid (HS28.out.below hb9 (Nat.le_refl _)); have HS79 := Lib.hid (HS7.out.below hb9 (Nat.le_refl _))
    have HB9 := Lib.hid (bl_trans HB8.out hb9)
    clear hb9 HS28 HS7
    go_wp2_with fail
    refine (rSameInts_any _ _ _ _ _ HS29.out HS79.out).mono ?_
    rintro e w10 ⟨rfl, hb10⟩
    rw [decide_eq_true (rfl : (stF rows n word t).2 = (stF rows n word t).2)]
    have HB10 := Lib.hid (bl_trans HB9.out hb10)
    clear hb10
    go_wp2_with fail
    go_ret
    exact ⟨rfl, HB10.out⟩
end Go.Proofs.Ytgabhlalamnbgaa

/- MessageFlips: the law returns true for every input; each argument reads behind the call as it read before. The walk is in LFlips. -/
namespace Go.Proofs.Ytgabhlalamnbgaa.messageFlips
open Go.ChangeShapes Go.WideShapes Go.ChangeAt Go.RowKit
set_option linter.unusedVariables false

set_option maxRecDepth 100000 in
theorem lifted (os : Os) (started : os.Started) (H : Type) (enc : TypeId × Value → H) :
    ReturnsInHanded {} Try.checked os 4 .any (Rows.messageFlipsSpec.pre6 enc Try.prog Try.f4 Rows.messageFlipsRow.domain false) (Rows.messageFlipsSpec.post enc Try.prog Try.f4 false true false false) := by
  refine returnsInHanded_of_change_sized (C := Try.checked) own started (by kernel_rfl) Try.func4
    (ChangeSpec.witness6 (enc := enc) (C := Try.checked) false ⟨#[], #[.agg #[.int .i64 0, .slice none 0 0], .slice none 0 0], []⟩ 8 (by kernel_rfl) (by kernel_rfl) (by kernel_rfl) (by kernel_rfl)) ?_
  intro W base args ds gs before hval0 hW _ hsz0 _
  have hsz : (DataW.weightsEach Try.prog (Try.f4.params.toList ++ Rows.messageFlipsSpec.plain.varTypes Try.prog) (ds ++ gs)).all (· ≤ reachBytes) = true := hsz0
  have hval : ∀ (j : Nat) t v, Try.f4.params[j]? = some t → args[j]? = some v → Value.okWide Try.prog W .any base t v := hval0
  have hW' := hW
  obtain ⟨p, q, hA0, hV, rfl, hfz, hnd⟩ := hW
  have hA : DataW.TrodAll enc Try.prog W 0 (fun _ => true) true Try.f4.params.toList args.toList ds p := hA0
  rw [Try.params4] at hA hval hsz
  obtain ⟨v0, vs0, d0, ds0, p0, q0, hargs, rfl, rfl, h0, r0'⟩ := trodAll_cons hA
  obtain ⟨v1, vs1, d1, ds1, p1, q1, rfl, rfl, rfl, h1, r1'⟩ := trodAll_cons r0'
  obtain ⟨rfl, rfl, rfl⟩ := trodAll_nil r1'
  obtain rfl : args = #[v0, v1] := by cases args; simp_all
  obtain ⟨rfl, rfl⟩ := trodVars_none hV
  have k0 := h0
  have r0 := open_Matrix h0 (hval 0 24 v0 rfl rfl) (weigh hsz 0 rfl rfl)
  have k1 := h1
  have r1 := open_SI h1 (hval 1 25 v1 rfl rfl) (weigh hsz 1 rfl rfl)
  clear hA0 hval0
  refine (lawFlips W r0 r1).mono fun e W' ⟨he, bel⟩ => ?_
  subst he
  exact ⟨_, rfl, _, _, _, [], _, [], hW', trodAll_mk1 (shut_bool Try.underlying4 _), (trodAll_cons_mk (Below.trod laidOut (by kernel_rfl) (of_decide_eq_true (by kernel_rfl)) k0 bel (lt_of_trod k0)) (trodAll_cons_mk (Below.trod laidOut (by kernel_rfl) (of_decide_eq_true (by kernel_rfl)) k1 bel (lt_of_trod k1)) trodAll_mk0)), rfl, bel.frame _, fun h => by cases h⟩

theorem proved : Rows.MessageFlipsSaid :=
  OpenClaim.holds_of_wide 4 Try.f4 rfl rfl rfl rfl rfl rfl rfl ⟨rfl, rfl, rfl, rfl, rfl⟩ rfl rfl rfl rfl rfl (by kernel_rfl) Try.func4 (by kernel_rfl)
    (of_decide_eq_true (by kernel_rfl)) (by unfold Func.isWrapper; first | (rw [if_pos (by decide +kernel)]; kernel_rfl) | (rw [if_neg (by decide +kernel)]; exact ⟨rfl, rfl⟩))
    (fun os started H enc _ => lifted os started H enc)
#print axioms proved
end Go.Proofs.Ytgabhlalamnbgaa.messageFlips
