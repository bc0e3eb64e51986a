/- MessageMinSums: the law returns true for every input; each argument reads behind the call as it read before. The walk is in LMin. -/
import Derived.Test.YtgabhlalamnbgaaQ1
import Derived.Test.YtgabhlalamnbgaaQ9
import Derived.Test.YtgabhlalamnbgaaQ13
import Derived.Test.YtgabhlalamnbgaaQ17
set_option linter.unusedSimpArgs false
set_option linter.unusedVariables false

/- message.MinSum, ref45.MinSum. -/
namespace Go.Proofs.Ytgabhlalamnbgaa
open Go.RowKit
set_option linter.unusedVariables false
set_option maxRecDepth 100000

/-- the decisions behind s rounds -/
def wdM (rows : List (List Int)) (n : Nat) (inp : List Int) (s : Nat) : List Int := decL (belL rows n inp (itM rows n inp s))
theorem wdM_len (rows : List (List Int)) (n : Nat) (inp : List Int) (s : Nat) : (wdM rows n inp s).length = n := by unfold wdM decL; rw [List.length_map, belL_len]
theorem decL_bit (l : List Int) : Bit (decL l) := fun k => by
  by_cases hk : k < l.length
  · rw [decL_fill, rowOf_getD hk]
    split
    · exact .inr rfl
    · exact .inl rfl
  · left; exact getD_len (by unfold decL; rw [List.length_map]; omega)
theorem wdM_mw {n : Nat} {rows : List (List Int)} {inp : List Int} (hb : BI n rows inp) (s : Nat) : MW n rows (wdM rows n inp s) := ⟨hb.nn, hb.rl, hb.br, wdM_len _ _ _ _, decL_bit _⟩
/-- the first round from s on whose decisions satisfy all checks -/
def msT (rows : List (List Int)) (n : Nat) (inp : List Int) (t s : Nat) : Option Nat := firstF (fun s => if unsTo rows (wdM rows n inp s) rows.length = [] then some s else none) s (t + 1 - s)
theorem msT_yes {rows : List (List Int)} {n : Nat} {inp : List Int} {t s : Nat} (h : s ≤ t) (hu : unsTo rows (wdM rows n inp s) rows.length = []) : msT rows n inp t s = some s := by
  unfold msT; rw [show t + 1 - s = (t - s) + 1 by omega, firstF, if_pos hu]
theorem msT_no {rows : List (List Int)} {n : Nat} {inp : List Int} {t s : Nat} (h : s ≤ t) (hu : unsTo rows (wdM rows n inp s) rows.length ≠ []) : msT rows n inp t s = msT rows n inp t (s + 1) := by
  unfold msT; rw [show t + 1 - s = (t - s) + 1 by omega, firstF, if_neg hu, show t + 1 - (s + 1) = t - s by omega]
theorem msT_out {rows : List (List Int)} {n : Nat} {inp : List Int} {t s : Nat} (h : ¬ s ≤ t) : msT rows n inp t s = none := by
  unfold msT; rw [show t + 1 - s = 0 by omega]; rfl
def miW (rows : List (List Int)) (n : Nat) (inp : List Int) : Option Nat → List Int
  | some s => wdM rows n inp s
  | none => []
def miN : Option Nat → Int
  | some s => s
  | none => 0
def miE : Option Nat → Int
  | some _ => 0
  | none => 12
def RetMi (w : World) (xs : List Int) (z er : Int) (e : Ending) (w' : World) : Prop := ∃ u, e = .returned (.tuple #[u, .int .i64 z, .int .i64 er]) ∧ SI w' u xs ∧ Below w.heap.size w w'

set_option maxHeartbeats 16000000 in
theorem mMin_no (w : World) (cols t : Int) (rv iv : Value) (rows : List (List Int)) (inp : List Int) (hv : SS w rv rows) (hi : SI w iv inp) (hE : argE cols rows inp t ≠ 0) :
    Calls Try.prog 40 #[.agg #[.int .i64 cols, rv], iv, .int .i64 t] w (RetMi w [] 0 (argE cols rows inp t)) := by
  have HV := Lib.hid hv; have HI := Lib.hid hi; clear hv hi
  obtain ⟨RA, rc, rfl, _⟩ := HV.out
  have HF := Lib.hid (MBox.mk' w cols (.slice RA rows.length rc))
  by_cases hb : bitE cols rows = 0
  case neg =>
    have HE : Hid (argE cols rows inp t = bitE cols rows) := hid' (by unfold argE; rw [if_pos hb])
    rw [HE.out]
    have HBN := Lib.hid hb
    have hbb : (bitE cols rows != 0) = true := by rw [bne_iff_ne]; exact hb
    clear hb hE
    go_enter Try.func40, Try.ntmps40
    go_wp2_with fail
    generalize hw0 : w.alloc (.cells #[.int .i64 cols, .slice RA rows.length rc] 24) = w0 at *
    clear hw0
    have d0 := HF.out.d0; have d1 := HF.out.d1
    go_wp2_with fail
    refine (build_no _ cols _ rows (HV.out.below HF.out.bel (Nat.le_refl _)) HBN.out).mono ?_
    rintro e w1 ⟨rfl, hb1⟩
    have HB1 := Lib.hid (bl_trans HF.out.bel hb1); clear hb1
    go_wp2_with fail
    go_ret3
    exact ⟨_, rfl, SI.none_ _, HB1.out⟩
  obtain ⟨n, hcn, hm⟩ := mr_of hb
  subst hcn
  have HE : Hid (argE n rows inp t = inpE n inp t) := hid' (by unfold argE; rw [if_neg (fun e => e hb)])
  rw [HE.out] at hE ⊢
  have hbb : (inpE n inp t != 0) = true := by rw [bne_iff_ne]; exact hE
  have HB := Lib.hid hb
  clear hb hE hm
  go_enter Try.func40, Try.ntmps40
  go_wp2_with fail
  generalize hw0 : w.alloc (.cells #[.int .i64 (n : Int), .slice RA rows.length rc] 24) = w0 at *
  clear hw0
  have d0 := HF.out.d0; have d1 := HF.out.d1
  go_wp2_with fail
  refine (build_ok _ n _ rows (HV.out.below HF.out.bel (Nat.le_refl _)) HB.out).mono ?_
  rintro e w1 ⟨g, rfl, hg1, hb1⟩
  have HF1 := Lib.hid (HF.out.on hb1); clear hb1 d0 d1 hg1
  have d0 := HF1.out.d0; have d1 := HF1.out.d1
  go_wp2_with fail
  refine (inputs_any _ n t _ _ inp (HI.out.below HF1.out.bel (Nat.le_refl _))).mono ?_
  rintro e w2 ⟨rfl, hb2⟩
  have HB2 := Lib.hid (bl_trans HF1.out.bel hb2); clear hb2 d0 d1
  generalize inpE n inp t = er at *
  go_wp2_with fail
  go_ret3
  exact ⟨_, rfl, SI.none_ _, HB2.out⟩

set_option maxHeartbeats 16000000 in
theorem mMin_ok (w : World) (n t : Nat) (rv iv : Value) (rows : List (List Int)) (inp : List Int) (hv : SS w rv rows) (hi : SI w iv inp) (hE : argE n rows inp t = 0) (ht : t ≤ 256) (hbE : bitE n rows = 0) (hb : BI n rows inp) :
    Calls Try.prog 40 #[.agg #[.int .i64 (n : Int), rv], iv, .int .i64 (t : Int)] w (RetMi w (miW rows n inp (msT rows n inp t 0)) (miN (msT rows n inp t 0)) (miE (msT rows n inp t 0))) := by
  have HV := Lib.hid hv; have HI := Lib.hid hi; have HB := Lib.hid hbE; have HBI := Lib.hid hb
  have hie : inpE n inp t = 0 := by unfold argE at hE; rwa [if_neg (fun e => e hbE)] at hE
  have HIE := Lib.hid hie
  have hnn := hb.nn; have hrl := hb.rl
  have HIL := Lib.hid hb.il
  have HMW := Lib.hid (fun s => wdM_mw hb s)
  clear hv hi hE hbE hie hb
  obtain ⟨RA, rc, rfl, _⟩ := HV.out
  obtain ⟨IA, ic, rfl, _⟩ := HI.out
  rw [HIL.out] at HI ⊢
  have HF := Lib.hid (MBox.mk' w n (.slice RA rows.length rc))
  have HIT := Lib.hid (fun k => itM_bd rows n inp k)
  go_enter Try.func40, Try.ntmps40
  go_wp2_with fail
  generalize hw0 : w.alloc (.cells #[.int .i64 (n : Int), .slice RA rows.length rc] 24) = w0 at *
  clear hw0
  have d0 := HF.out.d0; have d1 := HF.out.d1
  go_wp2_with fail
  refine (build_ok _ n _ rows (HV.out.below HF.out.bel (Nat.le_refl _)) HB.out).mono ?_
  rintro e w1 ⟨g, rfl, hg1, hb1⟩
  rw [Int.toNat_natCast] at hg1
  have HG1 := Lib.hid hg1.out
  have HF1 := Lib.hid (HF.out.on hb1); clear hb1 d0 d1 hg1
  have d0 := HF1.out.d0; have d1 := HF1.out.d1
  go_wp2_with fail
  refine (inputs_any _ n t _ _ inp (HI.out.below HF1.out.bel (Nat.le_refl _))).mono ?_
  rintro e w2 ⟨rfl, hb2⟩
  rw [HIE.out]
  have HF2 := Lib.hid (HF1.out.on hb2)
  have HG2 := Lib.hid (HG1.out.on hb2)
  clear hb2 d0 d1
  go_wp2_with fail
  refine (gmsg_any _ g n rows HG2.out hnn hrl).mono ?_
  rintro e w3 ⟨u3, gs3, rfl, ho3, hb3⟩
  have HZ : Hid (dnM rows n (fun _ _ => 0) = dnM rows n (itM rows n inp 0)) := rfl
  have hss3 := ho3.ss (by rw [dnM_len]; omega) (dnM_rows hnn (fun _ _ => ⟨by decide, by decide⟩))
  obtain ⟨A3, c3, rfl⟩ := ho3.form
  rw [dnM_len]
  rw [HZ.out, dnM_len] at hss3
  have HS3 := Lib.hid hss3
  have HF3 := Lib.hid (HF2.out.on hb3)
  have HG3 := Lib.hid (HG2.out.on hb3)
  clear ho3 hb3 hss3
  go_wp2_with fail
  go_loopw [11, 12] (fun u i wr => ∃ (k : Nat) (A : Option Addr) (c : Nat), k ≤ t ∧ i = .int .i64 (k : Int) ∧ u = .slice A rows.length c ∧ Hid (msT rows n inp t 0 = msT rows n inp t k) ∧ Hid (SS wr (.slice A rows.length c) (dnM rows n (itM rows n inp k))) ∧ Hid (GR wr g (cksTo rows n rows.length) (atTo rows n rows.length 0)) ∧ Hid (MBox w wr n (.slice RA rows.length rc))) (fun _ i _ => t + 1 - (intOf i).toNat)
  case atStart => exact ⟨0, A3, c3, Nat.zero_le _, rfl, rfl, rfl, HS3, HG3, HF3⟩
  case round =>
    clear HS3 HG3 HF3
    obtain ⟨k, A, c, hk, rfl, rfl, HQ, HS, HG, HFr⟩ := hrel
    go_wp2_with fail
    refine (gbel_any _ g n _ _ rows inp (itM rows n inp k) HG.out (HI.out.below HFr.out.bel (Nat.le_refl _)) HS.out (HIT.out k) HBI.out).mono ?_
    rintro e w4 ⟨u4, rfl, ho4, hb4⟩
    have HU4 := Lib.hid (ho4.si (by rw [belL_len]; omega) (belL_wf rows n inp (itM rows n inp k)))
    have HS4 := Lib.hid (HS.out.below hb4 (Nat.le_refl _)); have HG4 := Lib.hid (HG.out.on hb4); have HF4 := Lib.hid (HFr.out.on hb4)
    clear ho4 hb4 HS HG HFr
    go_wp2_with fail
    refine (mdec_any _ _ _ HU4.out).mono ?_
    rintro e w5 ⟨u5, rfl, ho5, hb5⟩
    have HWD : Hid (decL (belL rows n inp (itM rows n inp k)) = wdM rows n inp k) := rfl
    rw [HWD.out] at ho5
    have HU5 := Lib.hid (ho5.si (by rw [wdM_len]; omega) (decL_wf _))
    have HS5 := Lib.hid (HS4.out.below hb5 (Nat.le_refl _)); have HG5 := Lib.hid (HG4.out.on hb5); have HF5 := Lib.hid (HF4.out.on hb5)
    clear ho5 hb5 HS4 HG4 HF4 HU4
    go_wp2_with fail
    refine (muns_any _ g n rows _ (wdM rows n inp k) HG5.out HBI.out.br HU5.out (wdM_len _ _ _ _) (HMW.out k).wb hnn hrl).mono ?_
    rintro e w6 ⟨u6, rfl, ho6, hb6⟩
    obtain ⟨A6, c6, rfl⟩ := ho6.form'
    have HU6 := Lib.hid (HU5.out.below hb6 (Nat.le_refl _)); have HS6 := Lib.hid (HS5.out.below hb6 (Nat.le_refl _)); have HG6 := Lib.hid (HG5.out.on hb6); have HF6 := Lib.hid (HF5.out.on hb6)
    clear ho6 hb6 HS5 HG5 HF5 HU5
    by_cases hu : unsTo rows (wdM rows n inp k) rows.length = []
    · have HSQ := Lib.hid (msT_yes (t := t) hk hu)
      rw [hu, List.length_nil]
      clear hu
      go_wp2_with fail
      go_ret3
      rw [HQ.out, HSQ.out]
      exact ⟨_, rfl, HU6.out, HF6.out.bel⟩
    · have HSQ := Lib.hid (msT_no (t := t) hk hu)
      have hpos : 0 < (unsTo rows (wdM rows n inp k) rows.length).length := List.length_pos_iff.2 hu
      generalize (unsTo rows (wdM rows n inp k) rows.length).length = L at *
      have hL0 : ((L : Int) == 0) = false := by rw [beq_eq_false_iff_ne]; omega
      clear hu
      by_cases hkt : k = t
      · have hkb : ((k : Int) == (t : Int)) = true := by rw [beq_iff_eq]; omega
        have HNO := Lib.hid (msT_out (rows := rows) (n := n) (inp := inp) (t := t) (s := k + 1) (by omega))
        clear hkt
        go_wp2_with fail
        go_ret3
        rw [HQ.out, HSQ.out, HNO.out]
        exact ⟨_, rfl, SI.none_ _, HF6.out.bel⟩
      · have hkb : ((k : Int) == (t : Int)) = false := by rw [beq_eq_false_iff_ne]; omega
        have hkl : k < t := by omega
        clear hkt
        go_wp2_with fail
        refine (ground_any _ g n _ _ rows inp (itM rows n inp k) HG6.out (HI.out.below HF6.out.bel (Nat.le_refl _)) HS6.out (HIT.out k) HBI.out).mono ?_
        rintro e w7 ⟨u7, gs7, rfl, ho7, hb7⟩
        have HZ7 : Hid (dnM rows n (nxM rows n inp (itM rows n inp k)) = dnM rows n (itM rows n inp (k + 1))) := rfl
        rw [HZ7.out] at ho7
        have hss7 := ho7.ss (by rw [dnM_len]; omega) (dnM_rows hnn (HIT.out (k + 1)))
        obtain ⟨A7, c7, rfl⟩ := ho7.form
        rw [dnM_len] at hss7 ⊢
        have HS7 := Lib.hid hss7
        have HF7 := Lib.hid (HF6.out.on hb7)
        have HG7 := Lib.hid (HG6.out.on hb7)
        clear ho7 hb7 hss7 HU6
        go_wp2_with fail
        exact ⟨⟨k + 1, A7, c7, by omega, by push_cast; rfl, rfl, hid' (HQ.out.trans HSQ.out), HS7, HG7, HF7⟩, by simp only [intOf]; omega⟩

set_option maxHeartbeats 16000000 in
theorem rMin_any (w : World) (n t : Nat) (rv iv : Value) (rows : List (List Int)) (inp : List Int) (hv : SS w rv rows) (hi : SI w iv inp) (ht : t ≤ 256) (hb : BI n rows inp) :
    Calls Try.prog 41 #[.agg #[.int .i64 (n : Int), rv], iv, .int .i64 (t : Int)] w (RetMi w (miW rows n inp (msT rows n inp t 0)) (miN (msT rows n inp t 0)) (miE (msT rows n inp t 0))) := by
  have HV := Lib.hid hv; have HI := Lib.hid hi; have HBI := Lib.hid hb
  have hnn := hb.nn; have hrl := hb.rl
  have HMW := Lib.hid (fun s => wdM_mw hb s)
  clear hv hi hb
  obtain ⟨RA, rc, rfl, _⟩ := HV.out
  obtain ⟨IA, ic, rfl, _⟩ := HI.out
  have HF := Lib.hid (MBox.mk' w n (.slice RA rows.length rc))
  generalize hil : inp.length = il at *
  clear hil
  go_enter Try.func41, Try.ntmps41
  go_wp2_with fail
  generalize w.alloc (.cells #[.int .i64 (n : Int), .slice RA rows.length rc] 24) = w0 at *
  go_loopw [9, 10] (fun i _ wr => ∃ k : Nat, k ≤ t + 1 ∧ i = .int .i64 (k : Int) ∧ Hid (msT rows n inp t 0 = msT rows n inp t k) ∧ Hid (MBox w wr n (.slice RA rows.length rc))) (fun i _ _ => t + 1 - (intOf i).toNat)
  case atStart => exact ⟨0, Nat.zero_le _, rfl, rfl, HF⟩
  case round =>
    clear HF
    obtain ⟨k, hk, rfl, HQ, HFr⟩ := hrel
    have d0 := HFr.out.d0; have d1 := HFr.out.d1
    by_cases hkt : k ≤ t
    · go_wp2_with fail
      refine (rBel_any _ n k (.slice RA rows.length rc) (.slice IA il ic) rows inp (HV.out.below HFr.out.bel (Nat.le_refl _)) (HI.out.below HFr.out.bel (Nat.le_refl _)) (by omega) HBI.out).mono ?_
      rintro e w4 ⟨u4, rfl, ho4, hb4⟩
      have HU4 := Lib.hid (ho4.si (by rw [belL_len]; omega) (belL_wf rows n inp (itM rows n inp k)))
      have HF4 := Lib.hid (HFr.out.on hb4)
      clear ho4 hb4 HFr d0 d1
      go_wp2_with fail
      refine (rdec_any _ _ _ HU4.out).mono ?_
      rintro e w5 ⟨u5, rfl, ho5, hb5⟩
      have HWD : Hid (decL (belL rows n inp (itM rows n inp k)) = wdM rows n inp k) := rfl
      rw [HWD.out] at ho5
      have HU5 := Lib.hid (ho5.si (by rw [wdM_len]; omega) (decL_wf _))
      have HF5 := Lib.hid (HF4.out.on hb5)
      clear ho5 hb5 HF4 HU4
      have d0 := HF5.out.d0; have d1 := HF5.out.d1
      go_wp2_with fail
      refine (rUnsat_any _ n n (.slice RA rows.length rc) _ rows (wdM rows n inp k) (HV.out.below HF5.out.bel (Nat.le_refl _)) HU5.out (HMW.out k)).mono ?_
      rintro e w6 ⟨u6, rfl, ho6, hb6⟩
      obtain ⟨A6, c6, rfl⟩ := ho6.form'
      have HU6 := Lib.hid (HU5.out.below hb6 (Nat.le_refl _)); have HF6 := Lib.hid (HF5.out.on hb6)
      clear ho6 hb6 HF5 HU5 d0 d1
      by_cases hu : unsTo rows (wdM rows n inp k) rows.length = []
      · have HSQ := Lib.hid (msT_yes (t := t) hkt hu)
        rw [hu, List.length_nil]
        clear hu
        go_wp2_with fail
        go_ret3
        rw [HQ.out, HSQ.out]
        exact ⟨_, rfl, HU6.out, HF6.out.bel⟩
      · have HSQ := Lib.hid (msT_no (t := t) hkt hu)
        have hpos : 0 < (unsTo rows (wdM rows n inp k) rows.length).length := List.length_pos_iff.2 hu
        generalize (unsTo rows (wdM rows n inp k) rows.length).length = L at *
        have hL0 : ((L : Int) == 0) = false := by rw [beq_eq_false_iff_ne]; omega
        clear hu HU6
        go_wp2_with fail
        exact ⟨⟨k + 1, by omega, by push_cast; rfl, hid' (HQ.out.trans HSQ.out), HF6⟩, by simp only [intOf]; omega⟩
    · have HNO := Lib.hid (msT_out (rows := rows) (n := n) (inp := inp) (t := t) (s := k) hkt)
      go_wp2_with fail
      go_ret3
      rw [HQ.out, HNO.out]
      exact ⟨_, rfl, SI.none_ _, HFr.out.bel⟩
end Go.Proofs.Ytgabhlalamnbgaa

/- The law MessageMinSums returns true for every input. -/
namespace Go.Proofs.Ytgabhlalamnbgaa
open Go.RowKit
set_option linter.unusedVariables false
set_option maxRecDepth 100000

set_option maxHeartbeats 16000000 in
theorem lawMinSums (w : World) {hv : Value} (hh : ∃ cols rv rows, hv = .agg #[.int .i64 cols, rv] ∧ SS w rv rows) {iv : Value} (hiv : ∃ inp, SI w iv inp) (t : Int) :
    Calls Try.prog 10 #[hv, iv, .int .i64 t] w (RetB w true) := by
  obtain ⟨cols, rv, rows, rfl, hv⟩ := hh
  obtain ⟨inp, hi⟩ := hiv
  have HV := Lib.hid hv; have HI := Lib.hid hi; clear hv hi
  obtain ⟨RA, rc, rfl, _⟩ := HV.out
  obtain ⟨IA, ic, rfl, _⟩ := HI.out
  have HF := Lib.hid (MBox.mk' w cols (.slice RA rows.length rc))
  generalize hr : rows.length = r at HF HV ⊢
  have HRR := Lib.hid hr; clear hr
  generalize hil : inp.length = il at HI ⊢
  have HIL := Lib.hid hil; clear hil
  cases hf9 : few09 2000 cols rows
  · have HF9 := Lib.hid hf9; clear hf9
    go_enter Try.func10, Try.ntmps10
    go_wp2_with fail
    generalize hw0 : w.alloc (.cells #[.int .i64 cols, .slice RA r rc] 24) = w0 at *
    clear hw0
    have d0 := HF.out.d0; have d1 := HF.out.d1
    go_wp2_with fail
    refine (few09_any _ cols (.slice RA r rc) rows (HV.out.below HF.out.bel (Nat.le_refl _))).mono ?_
    rintro e w1 ⟨rfl, hb1⟩
    rw [HF9.out]
    have HB1 := Lib.hid (bl_trans HF.out.bel hb1); clear hb1
    go_wp2_with fail
    go_ret
    exact ⟨rfl, HB1.out⟩
  have HF9 := Lib.hid hf9; clear hf9
  by_cases hE : argE cols rows inp t = 0
  case neg =>
    have HEN := Lib.hid hE
    have hbb : (argE cols rows inp t != 0) = true := by rw [bne_iff_ne]; exact hE
    have hee : (argE cols rows inp t == argE cols rows inp t) = true := by simp
    clear hE
    go_enter Try.func10, Try.ntmps10
    go_wp2_with fail
    generalize hw0 : w.alloc (.cells #[.int .i64 cols, .slice RA r rc] 24) = w0 at *
    clear hw0
    have d0 := HF.out.d0; have d1 := HF.out.d1
    go_wp2_with fail
    refine (few09_any _ cols (.slice RA r rc) rows (HV.out.below HF.out.bel (Nat.le_refl _))).mono ?_
    rintro e w1 ⟨rfl, hb1⟩
    rw [HF9.out]
    have HF1 := Lib.hid (HF.out.on hb1); clear hb1 d0 d1
    have d0 := HF1.out.d0; have d1 := HF1.out.d1
    go_wp2_with fail
    refine (rargs_any _ cols t (.slice RA r rc) (.slice IA il ic) rows inp (HV.out.below HF1.out.bel (Nat.le_refl _)) (HI.out.below HF1.out.bel (Nat.le_refl _))).mono ?_
    rintro e w2 ⟨rfl, hb2⟩
    have HF2 := Lib.hid (HF1.out.on hb2); clear hb2 d0 d1
    have d0 := HF2.out.d0; have d1 := HF2.out.d1
    go_wp2_with fail
    refine (mMin_no _ cols t (.slice RA r rc) (.slice IA il ic) rows inp (HV.out.below HF2.out.bel (Nat.le_refl _)) (HI.out.below HF2.out.bel (Nat.le_refl _)) HEN.out).mono ?_
    rintro e w3 ⟨u3, rfl, hu3, hb3⟩
    obtain ⟨A3, c3, rfl, _⟩ := hu3
    rw [List.length_nil]
    have HB3 := Lib.hid (bl_trans HF2.out.bel hb3); clear hb3 d0 d1
    generalize argE cols rows inp t = er at *
    go_wp2_with fail
    go_ret
    exact ⟨rfl, HB3.out⟩
  obtain ⟨n, s, hcn, hts, hs, hbE, hmr, hbi⟩ := argE_of hE
  subst hcn hts
  have HE := Lib.hid hE; have HBE := Lib.hid hbE; have HBI := Lib.hid hbi
  have HN0 : Hid (inp.length = n) := hid' hbi.il
  clear hE hbE hmr hbi
  go_enter Try.func10, Try.ntmps10
  go_wp2_with fail
  generalize hw0 : w.alloc (.cells #[.int .i64 n, .slice RA r rc] 24) = w0 at *
  clear hw0
  have d0 := HF.out.d0; have d1 := HF.out.d1
  go_wp2_with fail
  refine (few09_any _ n (.slice RA r rc) rows (HV.out.below HF.out.bel (Nat.le_refl _))).mono ?_
  rintro e w1 ⟨rfl, hb1⟩
  rw [HF9.out]
  have HF1 := Lib.hid (HF.out.on hb1); clear hb1 d0 d1
  have d0 := HF1.out.d0; have d1 := HF1.out.d1
  go_wp2_with fail
  refine (rargs_any _ n s (.slice RA r rc) (.slice IA il ic) rows inp (HV.out.below HF1.out.bel (Nat.le_refl _)) (HI.out.below HF1.out.bel (Nat.le_refl _))).mono ?_
  rintro e w2 ⟨rfl, hb2⟩
  have HF2 := Lib.hid (HF1.out.on hb2); clear hb2 d0 d1
  have d0 := HF2.out.d0; have d1 := HF2.out.d1
  rw [HE.out]
  go_wp2_with fail
  refine (few45_any _ 6 8 n (.slice RA r rc) rows (HV.out.below HF2.out.bel (Nat.le_refl _))).mono ?_
  rintro e w3 ⟨rfl, hb3⟩
  have HF3 := Lib.hid (HF2.out.on hb3)
  clear hb3 d0 d1
  have d0 := HF3.out.d0; have d1 := HF3.out.d1
  cases few45 6 8 n rows
  · go_wp2_with fail
    go_ret
    exact ⟨rfl, HF3.out.bel⟩
  by_cases hs16 : 8 < s
  · have e16 : decide (8 < (s : Int)) = true := by simp; omega
    go_wp2_with fail
    go_ret
    exact ⟨rfl, HF3.out.bel⟩
  have e16 : decide (8 < (s : Int)) = false := by simp; omega
  go_wp2_with fail
  refine (mMin_ok _ n s (.slice RA r rc) (.slice IA il ic) rows inp (HV.out.below HF3.out.bel (Nat.le_refl _)) (HI.out.below HF3.out.bel (Nat.le_refl _)) HE.out hs HBE.out HBI.out).mono ?_
  rintro e w4 ⟨u4, rfl, hu4, hb4⟩
  have HU4 := Lib.hid hu4
  have HF4 := Lib.hid (HF3.out.on hb4)
  clear hu4 hb4 d0 d1
  have d0 := HF4.out.d0; have d1 := HF4.out.d1
  go_wp2_with fail
  refine (rMin_any _ n s (.slice RA r rc) (.slice IA il ic) rows inp (HV.out.below HF4.out.bel (Nat.le_refl _)) (HI.out.below HF4.out.bel (Nat.le_refl _)) hs HBI.out).mono ?_
  rintro e w5 ⟨u5, rfl, hu5, hb5⟩
  have HU5 := Lib.hid hu5
  have HU45 := Lib.hid (HU4.out.below hb5 (Nat.le_refl _))
  have HB5 := Lib.hid (bl_trans HF4.out.bel hb5)
  clear hu5 hb5 d0 d1 HU4
  generalize msT rows n inp s 0 = o at *
  generalize miW rows n inp o = bl at *
  generalize miN o = bn at *
  generalize miE o = be at *
  go_wp2_with fail
  refine (rSameInts_any _ _ _ _ _ HU45.out HU5.out).mono ?_
  rintro e w6 ⟨rfl, hb6⟩
  rw [decide_eq_true (rfl : bl = bl)]
  have HB6 := Lib.hid (bl_trans HB5.out hb6)
  clear hb6
  go_wp2_with fail
  go_ret
  exact ⟨rfl, HB6.out⟩
end Go.Proofs.Ytgabhlalamnbgaa

/- MessageMinSums: the law returns true for every input; each argument reads behind the call as it read before. The walk is in LMin. -/
namespace Go.Proofs.Ytgabhlalamnbgaa.messageMinSums
open Go.ChangeShapes Go.WideShapes Go.ChangeAt Go.RowKit
set_option linter.unusedVariables false

set_option maxRecDepth 100000 in
theorem lifted (os : Os) (started : os.Started) (H : Type) (enc : TypeId × Value → H) :
    ReturnsInHanded {} Try.checked os 10 .any (Rows.messageMinSumsSpec.pre6 enc Try.prog Try.f10 Rows.messageMinSumsRow.domain false) (Rows.messageMinSumsSpec.post enc Try.prog Try.f10 false true false false) := by
  refine returnsInHanded_of_change_sized (C := Try.checked) own started (by kernel_rfl) Try.func10
    (ChangeSpec.witness6 (enc := enc) (C := Try.checked) false ⟨#[], #[.agg #[.int .i64 0, .slice none 0 0], .slice none 0 0, .int .i64 0], []⟩ 8 (by kernel_rfl) (by kernel_rfl) (by kernel_rfl) (by kernel_rfl)) ?_
  intro W base args ds gs before hval0 hW _ hsz0 _
  have hsz : (DataW.weightsEach Try.prog (Try.f10.params.toList ++ Rows.messageMinSumsSpec.plain.varTypes Try.prog) (ds ++ gs)).all (· ≤ reachBytes) = true := hsz0
  have hval : ∀ (j : Nat) t v, Try.f10.params[j]? = some t → args[j]? = some v → Value.okWide Try.prog W .any base t v := hval0
  have hW' := hW
  obtain ⟨p, q, hA0, hV, rfl, hfz, hnd⟩ := hW
  have hA : DataW.TrodAll enc Try.prog W 0 (fun _ => true) true Try.f10.params.toList args.toList ds p := hA0
  rw [Try.params10] at hA hval hsz
  obtain ⟨v0, vs0, d0, ds0, p0, q0, hargs, rfl, rfl, h0, r0'⟩ := trodAll_cons hA
  obtain ⟨v1, vs1, d1, ds1, p1, q1, rfl, rfl, rfl, h1, r1'⟩ := trodAll_cons r0'
  obtain ⟨v2, vs2, d2, ds2, p2, q2, rfl, rfl, rfl, h2, r2'⟩ := trodAll_cons r1'
  obtain ⟨rfl, rfl, rfl⟩ := trodAll_nil r2'
  obtain rfl : args = #[v0, v1, v2] := by cases args; simp_all
  obtain ⟨rfl, rfl⟩ := trodVars_none hV
  have k0 := h0
  have r0 := open_Matrix h0 (hval 0 24 v0 rfl rfl) (weigh hsz 0 rfl rfl)
  have k1 := h1
  have r1 := open_SI h1 (hval 1 25 v1 rfl rfl) (weigh hsz 1 rfl rfl)
  obtain ⟨a2, rfl, rfl, rfl, w2⟩ := open_int Try.underlying3 (hval 2 3 v2 rfl rfl) h2
  clear hA0 hval0
  refine (lawMinSums W r0 r1 a2).mono fun e W' ⟨he, bel⟩ => ?_
  subst he
  exact ⟨_, rfl, _, _, _, [], _, [], hW', trodAll_mk1 (shut_bool Try.underlying4 _), (trodAll_cons_mk (Below.trod laidOut (by kernel_rfl) (of_decide_eq_true (by kernel_rfl)) k0 bel (lt_of_trod k0)) (trodAll_cons_mk (Below.trod laidOut (by kernel_rfl) (of_decide_eq_true (by kernel_rfl)) k1 bel (lt_of_trod k1)) (trodAll_cons_mk (shut_int Try.underlying3 w2) trodAll_mk0))), rfl, bel.frame _, fun h => by cases h⟩

theorem proved : Rows.MessageMinSumsSaid :=
  OpenClaim.holds_of_wide 10 Try.f10 rfl rfl rfl rfl rfl rfl rfl ⟨rfl, rfl, rfl, rfl, rfl⟩ rfl rfl rfl rfl rfl (by kernel_rfl) Try.func10 (by kernel_rfl)
    (of_decide_eq_true (by kernel_rfl)) (by unfold Func.isWrapper; first | (rw [if_pos (by decide +kernel)]; kernel_rfl) | (rw [if_neg (by decide +kernel)]; exact ⟨rfl, rfl⟩))
    (fun os started H enc _ => lifted os started H enc)
#print axioms proved
end Go.Proofs.Ytgabhlalamnbgaa.messageMinSums
