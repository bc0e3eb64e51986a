/- MajorityTells: the law returns true for every input; each argument reads behind the call as it read before. The walk is in LTel. -/
import Derived.Test.YtlcgihjdafglmaaGreatZC1
import Derived.Test.YtlcgihjdafglmaaGreatZC12
import Derived.Test.YtlcgihjdafglmaaGreatZC14
import Derived.Test.YtlcgihjdafglmaaGreatZC17
import Derived.Test.YtlcgihjdafglmaaGreatZC18
import Derived.Test.YtlcgihjdafglmaaGreatZC20
set_option linter.unusedSimpArgs false
set_option linter.unusedVariables false

/- majority.Estimate, ref43.Args. -/
namespace Go.Proofs.YtlcgihjdafglmaaGreat
open Go.RowKit
set_option linter.unusedVariables false
set_option maxRecDepth 100000

/-- the error of the arguments of Estimate -/
noncomputable def argsV (P M : Int) (Mod : List Int) (n : Int) (gen : List (List Int)) (i : Int) (K : List (List Int)) (y : List Int) : Int :=
  if codeE P M Mod n gen ≠ 0 then codeE P M Mod n gen else if i < 0 ∨ n ≤ i then 6 else if listF (orderF P M) y n ≠ 0 then listF (orderF P M) y n else orthE P M Mod n gen i K
noncomputable def estV (P M : Int) (Mod : List Int) (n : Int) (gen : List (List Int)) (i : Int) (K : List (List Int)) (y : List Int) : Int :=
  if argsV P M Mod n gen i K y = 0 then estF (fun k => dotL (refOps P M Mod) (K.getD k []) y n.toNat) K.length else 0
section
variable {P M : Int} {Mod : List Int} {n : Int} {gen : List (List Int)} {i : Int} {K : List (List Int)} {y : List Int}
theorem argsV_code (h : codeE P M Mod n gen ≠ 0) : argsV P M Mod n gen i K y = codeE P M Mod n gen := by unfold argsV; rw [if_pos h]
theorem argsV_rng (h : codeE P M Mod n gen = 0) (h2 : i < 0 ∨ n ≤ i) : argsV P M Mod n gen i K y = 6 := by unfold argsV; rw [if_neg (by simp [h]), if_pos h2]
theorem argsV_list (h : codeE P M Mod n gen = 0) (h2 : ¬ (i < 0 ∨ n ≤ i)) (h3 : listF (orderF P M) y n ≠ 0) : argsV P M Mod n gen i K y = listF (orderF P M) y n := by unfold argsV; rw [if_neg (by simp [h]), if_neg h2, if_pos h3]
theorem argsV_orth (h : codeE P M Mod n gen = 0) (h2 : ¬ (i < 0 ∨ n ≤ i)) (h3 : listF (orderF P M) y n = 0) : argsV P M Mod n gen i K y = orthE P M Mod n gen i K := by unfold argsV; rw [if_neg (by simp [h]), if_neg h2, if_neg (by simp [h3])]
theorem estV_no (h : argsV P M Mod n gen i K y ≠ 0) : estV P M Mod n gen i K y = 0 := by unfold estV; rw [if_neg h]
theorem argsV_zero (h : argsV P M Mod n gen i K y = 0) : codeE P M Mod n gen = 0 ∧ ¬ (i < 0 ∨ n ≤ i) ∧ listF (orderF P M) y n = 0 ∧ orthE P M Mod n gen i K = 0 := by
  have h1 : codeE P M Mod n gen = 0 := Decidable.byContradiction fun h1 => h1 ((argsV_code h1).symm.trans h)
  have h2 : ¬ (i < 0 ∨ n ≤ i) := fun h2 => by rw [argsV_rng h1 h2] at h; cases h
  have h3 : listF (orderF P M) y n = 0 := Decidable.byContradiction fun h3 => h3 ((argsV_list (K := K) h1 h2 h3).symm.trans h)
  exact ⟨h1, h2, h3, (argsV_orth h1 h2 h3).symm.trans h⟩
theorem estV_ok (h : argsV P M Mod n gen i K y = 0) : estV P M Mod n gen i K y = estF (fun k => dotL (refOps P M Mod) y (K.getD k []) y.length) K.length := by
  obtain ⟨h1, _, h3, _⟩ := argsV_zero h
  have hO := ref_fld (codeE_zero h1).1
  have hl := (listF_zero h3).1
  unfold estV
  rw [if_pos h]
  refine estF_congr fun k hk => ?_
  rw [show n.toNat = y.length by omega]
  unfold dotL
  exact sumTo_congr fun j hj => hO.mul_comm _ _
end

set_option maxHeartbeats 8000000 in
theorem rArgs_any (w : World) (P M n i : Int) (mv gv cv yv : Value) (Mod y : List Int) (gen checks : List (List Int)) (hm : SI w mv Mod) (hg : SS w gv gen) (hc : SS w cv checks) (hy : SI w yv y) :
    Calls Tryz.prog 9 #[.agg #[.int .i64 P, .int .i64 M, mv, .int .i64 n, gv], .int .i64 i, cv, yv] w (RetI w (argsV P M Mod n gen i checks y)) := by
  have HCK := Lib.hid (fun (w' : World) (hb : Below w.heap.size w w') => rCCheck_any w' P M n mv gv Mod gen (hm.below hb (Nat.le_refl _)) (hg.below hb (Nat.le_refl _)))
  have HLI := Lib.hid (fun (w' : World) (hb : Below w.heap.size w w') => list_any w' P M n mv yv y (hy.below hb (Nat.le_refl _)))
  have HOR := Lib.hid (fun (w' : World) (hb : Below w.heap.size w w') => rOrth_any w' P M n i mv gv cv Mod gen checks (hm.below hb (Nat.le_refl _)) (hg.below hb (Nat.le_refl _)) (hc.below hb (Nat.le_refl _)))
  have H1 : Hid (codeE P M Mod n gen ≠ 0 → argsV P M Mod n gen i checks y = codeE P M Mod n gen) := hid' argsV_code
  have H2 : Hid (codeE P M Mod n gen = 0 → (i < 0 ∨ n ≤ i) → argsV P M Mod n gen i checks y = 6) := hid' argsV_rng
  have H3 : Hid (codeE P M Mod n gen = 0 → ¬ (i < 0 ∨ n ≤ i) → listF (orderF P M) y n ≠ 0 → argsV P M Mod n gen i checks y = listF (orderF P M) y n) := hid' argsV_list
  have H4 : Hid (codeE P M Mod n gen = 0 → ¬ (i < 0 ∨ n ≤ i) → listF (orderF P M) y n = 0 → argsV P M Mod n gen i checks y = orthE P M Mod n gen i checks) := hid' argsV_orth
  generalize codeE P M Mod n gen = ce at *
  generalize listF (orderF P M) y n = le at *
  generalize orthE P M Mod n gen i checks = oe at *
  generalize argsV P M Mod n gen i checks y = er at *
  clear hm hg hc hy
  have HF := Lib.hid (CBox.mk' w P M mv n gv)
  go_enter Tryz.func9, Tryz.ntmps9
  go_upto_region 1 with fail
  generalize w.alloc (.cells #[.int .i64 P, .int .i64 M, mv, .int .i64 n, gv] 27) = w0 at *
  have c0 := HF.out.c0; have c1 := HF.out.c1; have c2 := HF.out.c2; have c3 := HF.out.c3; have c4 := HF.out.c4
  go_wp2_with fail
  refine (HCK.out w0 HF.out.bel).mono ?_
  rintro e w1 ⟨rfl, hb1⟩
  have HF1 := Lib.hid (HF.out.on hb1)
  clear hb1 c0 c1 c2 c3 c4
  by_cases hce : ce = 0
  case neg =>
    have k1 : (ce != 0) = true := by rw [bne_iff_ne]; exact hce
    have HE := Lib.hid (H1.out hce)
    clear hce
    go_wp2_with fail
    go_ret
    exact ⟨by rw [HE.out]; rfl, HF1.out.bel⟩
  have k1 : (ce != 0) = false := by rw [bne_eq_false_iff_eq]; exact hce
  have c3 := HF1.out.c3
  by_cases h0 : i < 0
  · have HE := Lib.hid (H2.out hce (.inl h0))
    clear hce
    go_wp2_with fail
    go_ret
    exact ⟨by rw [HE.out]; rfl, HF1.out.bel⟩
  by_cases h1 : n ≤ i
  · have HE := Lib.hid (H2.out hce (.inr h1))
    clear hce
    go_wp2_with fail
    go_ret
    exact ⟨by rw [HE.out]; rfl, HF1.out.bel⟩
  have HNR : Hid (¬ (i < 0 ∨ n ≤ i)) := hid' (by omega)
  have HCE := Lib.hid hce
  clear hce
  have c0 := HF1.out.c0; have c1 := HF1.out.c1; have c2 := HF1.out.c2
  go_wp2_with fail
  refine (HLI.out w1 HF1.out.bel).mono ?_
  rintro e w2 ⟨rfl, hb2⟩
  have HF2 := Lib.hid (HF1.out.on hb2)
  clear hb2 c0 c1 c2 c3
  by_cases hle : le = 0
  case neg =>
    have k2 : (le != 0) = true := by rw [bne_iff_ne]; exact hle
    have HE := Lib.hid (H3.out HCE.out HNR.out hle)
    clear hle
    go_wp2_with fail
    go_ret
    exact ⟨by rw [HE.out]; rfl, HF2.out.bel⟩
  have k2 : (le != 0) = false := by rw [bne_eq_false_iff_eq]; exact hle
  have HE := Lib.hid (H4.out HCE.out HNR.out hle)
  clear hle
  have c0 := HF2.out.c0; have c1 := HF2.out.c1; have c2 := HF2.out.c2; have c3 := HF2.out.c3; have c4 := HF2.out.c4
  go_wp2_with fail
  refine (HOR.out w2 HF2.out.bel).mono ?_
  rintro e w3 ⟨rfl, hb3⟩
  have HF3 := Lib.hid (HF2.out.on hb3)
  clear hb3 c0 c1 c2 c3 c4
  go_wp2_with fail
  go_ret
  exact ⟨by rw [HE.out]; rfl, HF3.out.bel⟩

set_option maxHeartbeats 8000000 in
theorem mEst_any (w : World) (P M n i : Int) (mv gv cv yv : Value) (Mod y : List Int) (gen checks : List (List Int)) (hm : SI w mv Mod) (hg : SS w gv gen) (hc : SS w cv checks) (hy : SI w yv y) :
    Calls Tryz.prog 14 #[.agg #[.int .i64 P, .int .i64 M, mv, .int .i64 n, gv], .int .i64 i, cv, yv] w (RetIE w (estV P M Mod n gen i checks y) (argsV P M Mod n gen i checks y)) := by
  have HCK := Lib.hid (fun (w' : World) (hb : Below w.heap.size w w') => cCheck_any w' P M n mv gv Mod gen (hm.below hb (Nat.le_refl _)) (hg.below hb (Nat.le_refl _)))
  have HHA := Lib.hid (fun (w' : World) (hb : Below w.heap.size w w') => cHas_any w' P M n mv gv yv Mod y gen (hm.below hb (Nat.le_refl _)) (hg.below hb (Nat.le_refl _)) (hy.below hb (Nat.le_refl _)))
  have HOR := Lib.hid (fun (w' : World) (hb : Below w.heap.size w w') => mOrth_any w' P M n i mv gv cv Mod gen checks (hm.below hb (Nat.le_refl _)) (hg.below hb (Nat.le_refl _)) (hc.below hb (Nat.le_refl _)))
  have HWE : Hid (codeE P M Mod n gen = 0 → wordE P M Mod n gen y = listF (orderF P M) y n) := hid' fun h => by unfold wordE; rw [if_pos h]
  have HNW := Lib.hid (fun (hz : codeE P M Mod n gen = 0) (w' : World) (hb : Below w.heap.size w w') => new_ok w' P M mv Mod (hm.below hb (Nat.le_refl _)) (codeE_zero hz).1)
  have HES := Lib.hid (fun (hz : argsV P M Mod n gen i checks y = 0) (w' : World) (g : Nat) (hb : Below w.heap.size w w') (hG : GF w' g P M Mod) => est_any w' g P M cv yv Mod y checks hG (hc.below hb (Nat.le_refl _)) (hy.below hb (Nat.le_refl _)) (fun k hk => by
    obtain ⟨z1, z2, z3, z4⟩ := argsV_zero hz
    have h1 := (orthE_zero z4).2.2.2.len k hk
    have h2 := (listF_zero z3).1
    omega))
  have HVO : Hid (argsV P M Mod n gen i checks y = 0 → estV P M Mod n gen i checks y = estF (fun k => dotL (refOps P M Mod) y (checks.getD k []) y.length) checks.length) := hid' estV_ok
  have HVN : Hid (argsV P M Mod n gen i checks y ≠ 0 → estV P M Mod n gen i checks y = 0) := hid' estV_no
  have H1 : Hid (codeE P M Mod n gen ≠ 0 → argsV P M Mod n gen i checks y = codeE P M Mod n gen) := hid' argsV_code
  have H2 : Hid (codeE P M Mod n gen = 0 → (i < 0 ∨ n ≤ i) → argsV P M Mod n gen i checks y = 6) := hid' argsV_rng
  have H3 : Hid (codeE P M Mod n gen = 0 → ¬ (i < 0 ∨ n ≤ i) → listF (orderF P M) y n ≠ 0 → argsV P M Mod n gen i checks y = listF (orderF P M) y n) := hid' argsV_list
  have H4 : Hid (codeE P M Mod n gen = 0 → ¬ (i < 0 ∨ n ≤ i) → listF (orderF P M) y n = 0 → argsV P M Mod n gen i checks y = orthE P M Mod n gen i checks) := hid' argsV_orth
  generalize estF (fun k => dotL (refOps P M Mod) y (checks.getD k []) y.length) checks.length = ev at *
  generalize codeE P M Mod n gen = ce at *
  generalize wordE P M Mod n gen y = we at *
  generalize hasB P M Mod n gen y = hB at *
  generalize listF (orderF P M) y n = le at *
  generalize orthE P M Mod n gen i checks = oe at *
  generalize argsV P M Mod n gen i checks y = er at *
  generalize estV P M Mod n gen i checks y = ez at *
  clear hm hg hc hy
  have HF := Lib.hid (CBox.mk' w P M mv n gv)
  go_enter Tryz.func14, Tryz.ntmps14
  go_upto_region 1 with fail
  generalize w.alloc (.cells #[.int .i64 P, .int .i64 M, mv, .int .i64 n, gv] 27) = w0 at *
  have c0 := HF.out.c0; have c1 := HF.out.c1; have c2 := HF.out.c2; have c3 := HF.out.c3; have c4 := HF.out.c4
  go_wp2_with fail
  refine (HCK.out w0 HF.out.bel).mono ?_
  rintro e w1 ⟨rfl, hb1⟩
  have HF1 := Lib.hid (HF.out.on hb1)
  clear hb1 c0 c1 c2 c3 c4
  by_cases hce : ce = 0
  case neg =>
    have k1 : (ce != 0) = true := by rw [bne_iff_ne]; exact hce
    have HE := Lib.hid (H1.out hce)
    have HV := Lib.hid (HVN.out (by rw [HE.out]; exact hce))
    clear hce
    go_wp2_with fail
    go_ret2
    exact ⟨by rw [HE.out, HV.out]; rfl, HF1.out.bel⟩
  have k1 : (ce != 0) = false := by rw [bne_eq_false_iff_eq]; exact hce
  have c3 := HF1.out.c3
  by_cases h0 : i < 0
  · have HE := Lib.hid (H2.out hce (.inl h0))
    have HV := Lib.hid (HVN.out (by rw [HE.out]; decide))
    clear hce
    go_wp2_with fail
    go_ret2
    exact ⟨by rw [HE.out, HV.out]; rfl, HF1.out.bel⟩
  by_cases h1 : n ≤ i
  · have HE := Lib.hid (H2.out hce (.inr h1))
    have HV := Lib.hid (HVN.out (by rw [HE.out]; decide))
    clear hce
    go_wp2_with fail
    go_ret2
    exact ⟨by rw [HE.out, HV.out]; rfl, HF1.out.bel⟩
  have HNR : Hid (¬ (i < 0 ∨ n ≤ i)) := hid' (by omega)
  have HCE := Lib.hid hce
  clear hce
  have c0 := HF1.out.c0; have c1 := HF1.out.c1; have c2 := HF1.out.c2; have c4 := HF1.out.c4
  have HWL := Lib.hid (HWE.out HCE.out)
  go_wp2_with fail
  refine (HHA.out w1 HF1.out.bel).mono ?_
  rintro e w2 ⟨rfl, hb2⟩
  rw [HWL.out]
  have HF2 := Lib.hid (HF1.out.on hb2)
  clear hb2 c0 c1 c2 c3 c4
  by_cases hle : le = 0
  case neg =>
    have k2 : (le != 0) = true := by rw [bne_iff_ne]; exact hle
    have HE := Lib.hid (H3.out HCE.out HNR.out hle)
    have HV := Lib.hid (HVN.out (by rw [HE.out]; exact hle))
    clear hle
    go_wp2_with fail
    go_ret2
    exact ⟨by rw [HE.out, HV.out]; rfl, HF2.out.bel⟩
  have k2 : (le != 0) = false := by rw [bne_eq_false_iff_eq]; exact hle
  have HE := Lib.hid (H4.out HCE.out HNR.out hle)
  clear hle
  have c0 := HF2.out.c0; have c1 := HF2.out.c1; have c2 := HF2.out.c2; have c3 := HF2.out.c3; have c4 := HF2.out.c4
  go_wp2_with fail
  refine (HOR.out w2 HF2.out.bel).mono ?_
  rintro e w3 ⟨rfl, hb3⟩
  have HF3 := Lib.hid (HF2.out.on hb3)
  clear hb3 c0 c1 c2 c3 c4
  by_cases hoe : oe = 0
  case neg =>
    have k3 : (oe != 0) = true := by rw [bne_iff_ne]; exact hoe
    have HV := Lib.hid (HVN.out (by rw [HE.out]; exact hoe))
    clear hoe
    go_wp2_with fail
    go_ret2
    exact ⟨by rw [HE.out, HV.out]; rfl, HF3.out.bel⟩
  have k3 : (oe != 0) = false := by rw [bne_eq_false_iff_eq]; exact hoe
  have HER : Hid (er = 0) := hid' (HE.out.trans hoe)
  have HV := Lib.hid (HVO.out HER.out)
  clear hoe
  have c0 := HF3.out.c0; have c1 := HF3.out.c1; have c2 := HF3.out.c2
  go_wp2_with fail
  refine (HNW.out HCE.out w3 HF3.out.bel).mono ?_
  rintro e w4 ⟨a, rfl, hG, hb4⟩
  have HG := Lib.hid hG.out
  have HB4 := Lib.hid (bl_trans HF3.out.bel hb4)
  clear hG hb4 c0 c1 c2
  go_wp2_with fail
  refine (HES.out HER.out w4 a HB4.out HG.out).mono ?_
  rintro e w5 ⟨rfl, hb5⟩
  have HB5 := Lib.hid (bl_trans HB4.out hb5)
  clear hb5
  go_wp2_with fail
  go_ret2
  exact ⟨by rw [HER.out, HV.out]; rfl, HB5.out⟩
end Go.Proofs.YtlcgihjdafglmaaGreat

/- Plain: Estimate tells the error at a place if few places are wrong. -/
namespace Go.Proofs.YtlcgihjdafglmaaGreat
set_option linter.unusedVariables false

theorem addW_facts {P M : Int} {Mod : List Int} (hO : (refOps P M Mod).Fld (orderF P M)) {x y : List Int} {N : Nat} (hx : x.length = N) (hy : y.length = N) :
    (addW P M x y).length = N ∧ addWE x y = 0 ∧ (∀ j, j < N → (addW P M x y).getD j 0 = addF P M (x.getD j 0) (y.getD j 0)) ∧ ∀ j, 0 ≤ (addW P M x y).getD j 0 ∧ (addW P M x y).getD j 0 < orderF P M := by
  have e : addW P M x y = rowOf N fun i => addF P M (x.getD i 0) (y.getD i 0) := by unfold addW; rw [if_pos (by omega), hx]
  have h3 : ∀ j, j < N → (addW P M x y).getD j 0 = addF P M (x.getD j 0) (y.getD j 0) := fun j hj => by rw [e]; exact rowOf_getD hj
  have hl : (addW P M x y).length = N := by rw [e]; exact rowOf_len _ _
  refine ⟨hl, by unfold addWE; rw [if_pos (by omega)], h3, fun j => ?_⟩
  by_cases hj : j < N
  · rw [h3 j hj]; exact hO.lt.add _ _
  · rw [getD_len (by omega)]; have := hO.lt.pos; omega
theorem tells_plain {P M : Int} {Mod : List Int} {n i : Int} {gen K : List (List Int)} {msg y : List Int} (hA : argsV P M Mod n gen i K y = 0) (hw : 2 * (suppL (orderF P M) y).length ≤ K.length) (hE : encE P M Mod n gen msg = 0) :
    addWE (encL P M Mod n gen msg) y = 0 ∧ argsV P M Mod n gen i K (addW P M (encL P M Mod n gen msg) y) = 0 ∧ estV P M Mod n gen i K (addW P M (encL P M Mod n gen msg) y) = y.getD i.toNat 0 ∧ y.length = n.toNat ∧ 0 ≤ i ∧ i < n := by
  obtain ⟨h1, h2, h3, h4⟩ := argsV_zero hA
  obtain ⟨_, h5, h6, hF⟩ := orthE_zero h4
  have hO := ref_fld (codeE_zero h1).1
  obtain ⟨e1, e2, e3⟩ := encL_facts hE
  obtain ⟨hyl, hyr⟩ := listF_zero h3
  have hyn : y.length = n.toNat := by omega
  have hyr2 : ∀ j, 0 ≤ y.getD j 0 ∧ y.getD j 0 < orderF P M := fun j => by
    by_cases hj : j < y.length
    · exact hyr j hj
    · rw [getD_len (by omega)]; have := hO.lt.pos; omega
  obtain ⟨z1, z2, z3, z4⟩ := addW_facts hO e1 hyn
  have hl : listF (orderF P M) (addW P M (encL P M Mod n gen msg) y) n = 0 := by
    unfold listF
    rw [if_pos (by omega)]
    exact entriesF_ok fun k _ => z4 k
  have hA2 : argsV P M Mod n gen i K (addW P M (encL P M Mod n gen msg) y) = 0 := by rw [argsV_orth h1 h2 hl]; exact h4
  refine ⟨z2, hA2, ?_, hyn, h5, h6⟩
  rw [← tells_of hO hF (by omega) hyn hyr2 hw]
  unfold estV
  rw [if_pos hA2]
  refine estF_congr fun k hk => ?_
  have h7 := dot_code hO hF (by omega) e3 hk
  unfold dotL at h7 ⊢
  have h8 : sumTo (refOps P M Mod) (fun j => (refOps P M Mod).mul ((K.getD k []).getD j 0) ((addW P M (encL P M Mod n gen msg) y).getD j 0)) n.toNat = sumTo (refOps P M Mod) (fun j => (refOps P M Mod).add ((refOps P M Mod).mul ((K.getD k []).getD j 0) ((encL P M Mod n gen msg).getD j 0)) ((refOps P M Mod).mul ((K.getD k []).getD j 0) (y.getD j 0))) n.toNat := sumTo_congr fun j hj => by
    rw [z3 j hj]; exact hO.mul_add _ _ _
  rw [h8, sumTo_add hO, h7]
  have := sumTo_lt hO (fun j => (refOps P M Mod).mul ((K.getD k []).getD j 0) (y.getD j 0)) n.toNat
  exact hO.zero_add this.1 this.2
end Go.Proofs.YtlcgihjdafglmaaGreat

/- The law MajorityTells returns true for every input. Printed by a program (gen_ltel.py). -/
namespace Go.Proofs.YtlcgihjdafglmaaGreat
open Go.RowKit
set_option linter.unusedVariables false
set_option maxRecDepth 100000

set_option maxHeartbeats 16000000 in
theorem lawTel (w : World) {v : Value} (hv : ∃ P M mv Mod n gv gen lv checks sv msg yv y i, v = .agg #[.int .i64 P, .int .i64 M, mv, .int .i64 n, gv, lv, sv, yv, .int .i64 i] ∧ I64 n ∧ I64 i ∧ SI w mv Mod ∧ SS w gv gen ∧ SL w lv checks ∧ SI w sv msg ∧ SI w yv y) :
    Calls Tryz.prog 3 #[v] w (RetB w true) := by
  obtain ⟨P, M, mv, Mod, n, gv, gen, lv, checks, sv, msg, yv, y, i, rfl, _, _, hm, hg, hL, hs, hy⟩ := hv
  have HM := Lib.hid hm; have HG := Lib.hid hg; have HL := Lib.hid hL; have HS := Lib.hid hs; have HY := Lib.hid hy
  clear hs hy hm hg hL
  have HT0 : Hid (Blk (w.alloc (.cells #[.int .i64 P, .int .i64 M, mv, .int .i64 n, gv, lv, sv, yv, .int .i64 i] 30)) w.heap.size 30 [.int .i64 P, .int .i64 M, mv, .int .i64 n, gv, lv, sv, yv, .int .i64 i]) := Blk.new w _ [.int .i64 P, .int .i64 M, mv, .int .i64 n, gv, lv, sv, yv, .int .i64 i]
  have HB0 := Lib.hid (bl_alloc w (.cells #[.int .i64 P, .int .i64 M, mv, .int .i64 n, gv, lv, sv, yv, .int .i64 i] 30))
  have HPL := Lib.hid (pickK_len HL.out i)
  obtain ⟨K, hK⟩ : ∃ K, K = pickK i checks := ⟨_, rfl⟩
  have HK := Lib.hid hK; clear hK
  rw [← HK.out] at HPL
  obtain ⟨X, hX⟩ : ∃ X, X = argsV P M Mod n gen i K y := ⟨_, rfl⟩
  have HX := Lib.hid hX; clear hX
  obtain ⟨wt, hwt⟩ : ∃ wt, wt = (suppL (orderF P M) y).length := ⟨_, rfl⟩
  have HWT := Lib.hid hwt; clear hwt
  have hwl : wt ≤ 17592186044416 := by have := suppL_le (orderF P M) y; have := HY.out.len'; have := HWT.out; omega
  go_enter Tryz.func3, Tryz.ntmps3
  go_upto_region 1 with fail
  generalize w.alloc (.cells #[.int .i64 P, .int .i64 M, mv, .int .i64 n, gv, lv, sv, yv, .int .i64 i] 30) = w0 at *
  have c0 : w0.cell? ⟨w.heap.size, 0, none⟩ = some (.int .i64 P) := HT0.out.cell 0
  have c1 : w0.cell? ⟨w.heap.size, 1, none⟩ = some (.int .i64 M) := HT0.out.cell 1
  have c2 : w0.cell? ⟨w.heap.size, 2, none⟩ = some (mv) := HT0.out.cell 2
  have c3 : w0.cell? ⟨w.heap.size, 3, none⟩ = some (.int .i64 n) := HT0.out.cell 3
  have c4 : w0.cell? ⟨w.heap.size, 4, none⟩ = some (gv) := HT0.out.cell 4
  have c5 : w0.cell? ⟨w.heap.size, 5, none⟩ = some (lv) := HT0.out.cell 5
  have c6 : w0.cell? ⟨w.heap.size, 6, none⟩ = some (sv) := HT0.out.cell 6
  have c7 : w0.cell? ⟨w.heap.size, 7, none⟩ = some (yv) := HT0.out.cell 7
  have c8 : w0.cell? ⟨w.heap.size, 8, none⟩ = some (.int .i64 i) := HT0.out.cell 8
  go_wp2_with fail
  refine (few43_any _ P M n i mv gv lv sv yv checks (HL.out.below HB0.out (Nat.le_refl _))).mono ?_
  rintro e w1 ⟨b, rfl, hb⟩
  have HT1 := Lib.hid (HT0.out.belowS hb); have HB1 := Lib.hid (bl_trans HB0.out hb)
  clear hb c0 c1 c2 c3 c4 c5 c6 c7 c8
  cases b
  · go_wp2_with fail
    refine (alive43_any _).mono ?_
    rintro e w2 ⟨rfl, hb⟩
    have HB2 := Lib.hid (bl_trans HB1.out hb)
    clear hb
    go_wp2_with fail
    go_ret
    exact ⟨rfl, HB2.out⟩
  have c0 : w1.cell? ⟨w.heap.size, 0, none⟩ = some (.int .i64 P) := HT1.out.cell 0
  have c1 : w1.cell? ⟨w.heap.size, 1, none⟩ = some (.int .i64 M) := HT1.out.cell 1
  have c2 : w1.cell? ⟨w.heap.size, 2, none⟩ = some (mv) := HT1.out.cell 2
  have c3 : w1.cell? ⟨w.heap.size, 3, none⟩ = some (.int .i64 n) := HT1.out.cell 3
  have c4 : w1.cell? ⟨w.heap.size, 4, none⟩ = some (gv) := HT1.out.cell 4
  have c5 : w1.cell? ⟨w.heap.size, 5, none⟩ = some (lv) := HT1.out.cell 5
  have c6 : w1.cell? ⟨w.heap.size, 6, none⟩ = some (sv) := HT1.out.cell 6
  have c7 : w1.cell? ⟨w.heap.size, 7, none⟩ = some (yv) := HT1.out.cell 7
  have c8 : w1.cell? ⟨w.heap.size, 8, none⟩ = some (.int .i64 i) := HT1.out.cell 8
  go_wp2_with fail
  refine (alive43_any _).mono ?_
  rintro e w2 ⟨rfl, hb⟩
  replace HT1 := Lib.hid (HT1.out.belowS hb); replace HB1 := Lib.hid (bl_trans HB1.out hb)
  clear hb c0 c1 c2 c3 c4 c5 c6 c7 c8
  have c0 : w2.cell? ⟨w.heap.size, 0, none⟩ = some (.int .i64 P) := HT1.out.cell 0
  have c1 : w2.cell? ⟨w.heap.size, 1, none⟩ = some (.int .i64 M) := HT1.out.cell 1
  have c2 : w2.cell? ⟨w.heap.size, 2, none⟩ = some (mv) := HT1.out.cell 2
  have c3 : w2.cell? ⟨w.heap.size, 3, none⟩ = some (.int .i64 n) := HT1.out.cell 3
  have c4 : w2.cell? ⟨w.heap.size, 4, none⟩ = some (gv) := HT1.out.cell 4
  have c5 : w2.cell? ⟨w.heap.size, 5, none⟩ = some (lv) := HT1.out.cell 5
  have c6 : w2.cell? ⟨w.heap.size, 6, none⟩ = some (sv) := HT1.out.cell 6
  have c7 : w2.cell? ⟨w.heap.size, 7, none⟩ = some (yv) := HT1.out.cell 7
  have c8 : w2.cell? ⟨w.heap.size, 8, none⟩ = some (.int .i64 i) := HT1.out.cell 8
  by_cases hX0 : X = 0
  case neg =>
    have k1 : (X != 0) = true := by rw [bne_iff_ne]; exact hX0
    clear hX0
    go_upto_region 5 with fail
    refine Kept.start (S := fun w' => w'.cell? ⟨w.heap.size, 0, none⟩ = some (.int .i64 P) ∧ w'.cell? ⟨w.heap.size, 1, none⟩ = some (.int .i64 M) ∧ w'.cell? ⟨w.heap.size, 2, none⟩ = some (mv) ∧ w'.cell? ⟨w.heap.size, 3, none⟩ = some (.int .i64 n) ∧ w'.cell? ⟨w.heap.size, 4, none⟩ = some (gv) ∧ w'.cell? ⟨w.heap.size, 5, none⟩ = some (lv) ∧ w'.cell? ⟨w.heap.size, 6, none⟩ = some (sv) ∧ w'.cell? ⟨w.heap.size, 7, none⟩ = some (yv) ∧ w'.cell? ⟨w.heap.size, 8, none⟩ = some (.int .i64 i)) (by kernel_rfl) (⟨c0, c1, c2, c3, c4, c5, c6, c7, c8⟩) (fun hHeld => ?_)
    change Kept _ _ _ _ 23 _ _ _
    refine Kept.take (i := 0) (v := ?_) rfl (by kernel_rfl) (by kernel_rfl) (by kernel_rfl) (fun _ _ _ h => h) (Or.inl ⟨by kernel_rfl, ?_⟩) hHeld ?_
    rotate_left
    · intro w' hSw; (try dsimp only at hSw); first | (go_simp; done) | (go_simp; with_reducible rfl)
    try simp only [List.getElem_toArray, List.getElem_cons_zero, List.getElem_cons_succ, Act.put, List.setIfInBounds_toArray, List.set_cons_zero, List.set_cons_succ]
    refine Kept.take (i := 1) (v := ?_) rfl (by kernel_rfl) (by kernel_rfl) (by kernel_rfl) (fun _ _ _ h => h) (Or.inl ⟨by kernel_rfl, ?_⟩) hHeld ?_
    rotate_left
    · intro w' hSw; (try dsimp only at hSw); first | (go_simp; done) | (go_simp; with_reducible rfl)
    try simp only [List.getElem_toArray, List.getElem_cons_zero, List.getElem_cons_succ, Act.put, List.setIfInBounds_toArray, List.set_cons_zero, List.set_cons_succ]
    refine Kept.take (i := 2) (v := ?_) rfl (by kernel_rfl) (by kernel_rfl) (by kernel_rfl) (fun _ _ _ h => h) (Or.inl ⟨by kernel_rfl, ?_⟩) hHeld ?_
    rotate_left
    · intro w' hSw; (try dsimp only at hSw); first | (go_simp; done) | (go_simp; with_reducible rfl)
    try simp only [List.getElem_toArray, List.getElem_cons_zero, List.getElem_cons_succ, Act.put, List.setIfInBounds_toArray, List.set_cons_zero, List.set_cons_succ]
    refine Kept.take (i := 3) (v := ?_) rfl (by kernel_rfl) (by kernel_rfl) (by kernel_rfl) (fun _ _ _ h => h) (Or.inl ⟨by kernel_rfl, ?_⟩) hHeld ?_
    rotate_left
    · intro w' hSw; (try dsimp only at hSw); first | (go_simp; done) | (go_simp; with_reducible rfl)
    try simp only [List.getElem_toArray, List.getElem_cons_zero, List.getElem_cons_succ, Act.put, List.setIfInBounds_toArray, List.set_cons_zero, List.set_cons_succ]
    refine Kept.take (i := 4) (v := ?_) rfl (by kernel_rfl) (by kernel_rfl) (by kernel_rfl) (fun _ _ _ h => h) (Or.inl ⟨by kernel_rfl, ?_⟩) hHeld ?_
    rotate_left
    · intro w' hSw; (try dsimp only at hSw); first | (go_simp; done) | (go_simp; with_reducible rfl)
    try simp only [List.getElem_toArray, List.getElem_cons_zero, List.getElem_cons_succ, Act.put, List.setIfInBounds_toArray, List.set_cons_zero, List.set_cons_succ]
    refine Kept.take (i := 6) (v := ?_) rfl (by kernel_rfl) (by kernel_rfl) (by kernel_rfl) (fun _ _ _ h => h) (Or.inl ⟨by kernel_rfl, ?_⟩) hHeld ?_
    rotate_left
    · intro w' hSw; (try dsimp only at hSw); first | (go_simp; done) | (go_simp; with_reducible rfl)
    try simp only [List.getElem_toArray, List.getElem_cons_zero, List.getElem_cons_succ, Act.put, List.setIfInBounds_toArray, List.set_cons_zero, List.set_cons_succ]
    refine Kept.take (i := 7) (v := ?_) rfl (by kernel_rfl) (by kernel_rfl) (by kernel_rfl) (fun _ _ _ h => h) (Or.inl ⟨by kernel_rfl, ?_⟩) hHeld ?_
    rotate_left
    · intro w' hSw; (try dsimp only at hSw); first | (go_simp; done) | (go_simp; with_reducible rfl)
    try simp only [List.getElem_toArray, List.getElem_cons_zero, List.getElem_cons_succ, Act.put, List.setIfInBounds_toArray, List.set_cons_zero, List.set_cons_succ]
    refine Kept.only (i := 5) (by kernel_rfl) rfl (fun K hK => ?_)
    go_simp
    refine (pick43_any _ P M n i mv gv lv sv yv checks (HL.out.below (bl_trans HB1.out (bl_drew w2)) (Nat.le_refl _))).mono ?_; rintro e w3 ⟨u3, rfl, hs3, hb⟩; have hb := bl_trans (bl_drew w2) hb; have HS3 := Lib.hid hs3; have HT3 := Lib.hid (HT1.out.belowS hb); have HB3 := Lib.hid (bl_trans HB1.out hb); clear hb hs3
    refine hK.out _ _ (⟨HT3.out.cell 0, HT3.out.cell 1, HT3.out.cell 2, HT3.out.cell 3, HT3.out.cell 4, HT3.out.cell 5, HT3.out.cell 6, HT3.out.cell 7, HT3.out.cell 8⟩) (fun hHeld2 => ?_)
    clear hK K
    replace hHeld := hHeld2
    clear hHeld2
    try simp only [List.getElem_toArray, List.getElem_cons_zero, List.getElem_cons_succ, Act.put, List.setIfInBounds_toArray, List.set_cons_zero, List.set_cons_succ]
    refine Kept.only (i := 8) (by kernel_rfl) rfl (fun K hK => ?_)
    go_simp
    refine (rArgs_any _ P M n i mv gv u3 yv Mod y gen (pickK i checks) (HM.out.below HB3.out (Nat.le_refl _)) (HG.out.below HB3.out (Nat.le_refl _)) HS3.out (HY.out.below HB3.out (Nat.le_refl _))).mono ?_; rintro e w4 ⟨rfl, hb⟩; rw [← HK.out, ← HX.out]; have HT4 := Lib.hid (HT3.out.belowS hb); have HB4 := Lib.hid (bl_trans HB3.out hb); clear hb
    refine hK.out _ _ (⟨HT4.out.cell 0, HT4.out.cell 1, HT4.out.cell 2, HT4.out.cell 3, HT4.out.cell 4, HT4.out.cell 5, HT4.out.cell 6, HT4.out.cell 7, HT4.out.cell 8⟩) (fun hHeld2 => ?_)
    clear hK K
    replace hHeld := hHeld2
    clear hHeld2
    try simp only [List.getElem_toArray, List.getElem_cons_zero, List.getElem_cons_succ, Act.put, List.setIfInBounds_toArray, List.set_cons_zero, List.set_cons_succ]
    refine Kept.take (i := 9) (v := ?_) rfl (by kernel_rfl) (by kernel_rfl) (by kernel_rfl) (fun _ _ _ h => h) (Or.inl ⟨by kernel_rfl, ?_⟩) hHeld ?_
    rotate_left
    · intro w' hSw; (try dsimp only at hSw); first | (go_simp; done) | (go_simp; with_reducible rfl)
    try simp only [List.getElem_toArray, List.getElem_cons_zero, List.getElem_cons_succ, Act.put, List.setIfInBounds_toArray, List.set_cons_zero, List.set_cons_succ]
    refine Kept.take (i := 10) (v := ?_) rfl (by kernel_rfl) (by kernel_rfl) (by kernel_rfl) (fun _ _ _ h => h) (Or.inl ⟨by kernel_rfl, ?_⟩) hHeld ?_
    rotate_left
    · intro w' hSw; (try dsimp only at hSw); first | (go_simp; done) | (go_simp; with_reducible rfl)
    try simp only [List.getElem_toArray, List.getElem_cons_zero, List.getElem_cons_succ, Act.put, List.setIfInBounds_toArray, List.set_cons_zero, List.set_cons_succ]
    refine Kept.take (i := 11) (v := undef) rfl (by kernel_rfl) (by kernel_rfl) (by kernel_rfl) (fun _ _ _ h => h) (Or.inr ⟨by kernel_rfl, rfl⟩) hHeld ?_
    try simp only [List.getElem_toArray, List.getElem_cons_zero, List.getElem_cons_succ, Act.put, List.setIfInBounds_toArray, List.set_cons_zero, List.set_cons_succ]
    refine Kept.take (i := 12) (v := undef) rfl (by kernel_rfl) (by kernel_rfl) (by kernel_rfl) (fun _ _ _ h => h) (Or.inr ⟨by kernel_rfl, rfl⟩) hHeld ?_
    try simp only [List.getElem_toArray, List.getElem_cons_zero, List.getElem_cons_succ, Act.put, List.setIfInBounds_toArray, List.set_cons_zero, List.set_cons_succ]
    refine Kept.take (i := 13) (v := undef) rfl (by kernel_rfl) (by kernel_rfl) (by kernel_rfl) (fun _ _ _ h => h) (Or.inr ⟨by kernel_rfl, rfl⟩) hHeld ?_
    try simp only [List.getElem_toArray, List.getElem_cons_zero, List.getElem_cons_succ, Act.put, List.setIfInBounds_toArray, List.set_cons_zero, List.set_cons_succ]
    refine Kept.take (i := 14) (v := undef) rfl (by kernel_rfl) (by kernel_rfl) (by kernel_rfl) (fun _ _ _ h => h) (Or.inr ⟨by kernel_rfl, rfl⟩) hHeld ?_
    try simp only [List.getElem_toArray, List.getElem_cons_zero, List.getElem_cons_succ, Act.put, List.setIfInBounds_toArray, List.set_cons_zero, List.set_cons_succ]
    refine Kept.take (i := 15) (v := undef) rfl (by kernel_rfl) (by kernel_rfl) (by kernel_rfl) (fun _ _ _ h => h) (Or.inr ⟨by kernel_rfl, rfl⟩) hHeld ?_
    try simp only [List.getElem_toArray, List.getElem_cons_zero, List.getElem_cons_succ, Act.put, List.setIfInBounds_toArray, List.set_cons_zero, List.set_cons_succ]
    refine Kept.take (i := 18) (v := undef) rfl (by kernel_rfl) (by kernel_rfl) (by kernel_rfl) (fun _ _ _ h => h) (Or.inr ⟨by kernel_rfl, rfl⟩) hHeld ?_
    try simp only [List.getElem_toArray, List.getElem_cons_zero, List.getElem_cons_succ, Act.put, List.setIfInBounds_toArray, List.set_cons_zero, List.set_cons_succ]
    refine Kept.only (i := 16) (by kernel_rfl) rfl (fun K hK => ?_)
    go_simp
    refine hK.out _ _ hHeld (fun hHeld2 => ?_)
    clear hK K
    clear hHeld2
    try simp only [List.getElem_toArray, List.getElem_cons_zero, List.getElem_cons_succ, Act.put, List.setIfInBounds_toArray, List.set_cons_zero, List.set_cons_succ]
    refine Kept.take (i := 17) (v := undef) rfl (by kernel_rfl) (by kernel_rfl) (by kernel_rfl) (fun _ _ _ h => h) (Or.inr ⟨by kernel_rfl, rfl⟩) hHeld ?_
    try simp only [List.getElem_toArray, List.getElem_cons_zero, List.getElem_cons_succ, Act.put, List.setIfInBounds_toArray, List.set_cons_zero, List.set_cons_succ]
    refine Kept.only (i := 19) (by kernel_rfl) rfl (fun K hK => ?_)
    go_simp
    refine hK.out _ _ hHeld (fun hHeld2 => ?_)
    clear hK K
    clear hHeld2
    try simp only [List.getElem_toArray, List.getElem_cons_zero, List.getElem_cons_succ, Act.put, List.setIfInBounds_toArray, List.set_cons_zero, List.set_cons_succ]
    refine Kept.take (i := 20) (v := undef) rfl (by kernel_rfl) (by kernel_rfl) (by kernel_rfl) (fun _ _ _ h => h) (Or.inr ⟨by kernel_rfl, rfl⟩) hHeld ?_
    try simp only [List.getElem_toArray, List.getElem_cons_zero, List.getElem_cons_succ, Act.put, List.setIfInBounds_toArray, List.set_cons_zero, List.set_cons_succ]
    refine Kept.take (i := 21) (v := undef) rfl (by kernel_rfl) (by kernel_rfl) (by kernel_rfl) (fun _ _ _ h => h) (Or.inr ⟨by kernel_rfl, rfl⟩) hHeld ?_
    try simp only [List.getElem_toArray, List.getElem_cons_zero, List.getElem_cons_succ, Act.put, List.setIfInBounds_toArray, List.set_cons_zero, List.set_cons_succ]
    refine Kept.only (i := 22) (by kernel_rfl) rfl (fun K hK => ?_)
    go_simp
    refine hK.out _ _ hHeld (fun hHeld2 => ?_)
    clear hK K
    clear hHeld2
    refine Kept.done (by kernel_rfl) ?_
    try simp only [List.getElem_toArray, List.getElem_cons_zero, List.getElem_cons_succ, Act.put, List.setIfInBounds_toArray, List.set_cons_zero, List.set_cons_succ]
    clear hHeld
    clear c0 c1 c2 c3 c4 c5 c6 c7 c8
    go_wp2_with fail
    go_ret
    exact ⟨rfl, HB4.out⟩
  have k1 : (X != 0) = false := by rw [bne_eq_false_iff_eq]; exact hX0
  have hw1 : IntKind.i64.wrap (2 * (wt : Int)) = 2 * (wt : Int) := IntWalk.i64_in _ (by omega)
  have hw2 : wrap64 (2 * (wt : Int)) = 2 * (wt : Int) := by unfold wrap64; omega
  have HX0 : Hid (argsV P M Mod n gen i K y = 0) := hid' (HX.out.symm.trans hX0)
  clear hX0
  go_upto_region 5 with fail
  refine Kept.start (S := fun w' => w'.cell? ⟨w.heap.size, 0, none⟩ = some (.int .i64 P) ∧ w'.cell? ⟨w.heap.size, 1, none⟩ = some (.int .i64 M) ∧ w'.cell? ⟨w.heap.size, 2, none⟩ = some (mv) ∧ w'.cell? ⟨w.heap.size, 3, none⟩ = some (.int .i64 n) ∧ w'.cell? ⟨w.heap.size, 4, none⟩ = some (gv) ∧ w'.cell? ⟨w.heap.size, 5, none⟩ = some (lv) ∧ w'.cell? ⟨w.heap.size, 6, none⟩ = some (sv) ∧ w'.cell? ⟨w.heap.size, 7, none⟩ = some (yv) ∧ w'.cell? ⟨w.heap.size, 8, none⟩ = some (.int .i64 i)) (by kernel_rfl) (⟨c0, c1, c2, c3, c4, c5, c6, c7, c8⟩) (fun hHeld => ?_)
  change Kept _ _ _ _ 23 _ _ _
  refine Kept.take (i := 0) (v := ?_) rfl (by kernel_rfl) (by kernel_rfl) (by kernel_rfl) (fun _ _ _ h => h) (Or.inl ⟨by kernel_rfl, ?_⟩) hHeld ?_
  rotate_left
  · intro w' hSw; (try dsimp only at hSw); first | (go_simp; done) | (go_simp; with_reducible rfl)
  try simp only [List.getElem_toArray, List.getElem_cons_zero, List.getElem_cons_succ, Act.put, List.setIfInBounds_toArray, List.set_cons_zero, List.set_cons_succ]
  refine Kept.take (i := 1) (v := ?_) rfl (by kernel_rfl) (by kernel_rfl) (by kernel_rfl) (fun _ _ _ h => h) (Or.inl ⟨by kernel_rfl, ?_⟩) hHeld ?_
  rotate_left
  · intro w' hSw; (try dsimp only at hSw); first | (go_simp; done) | (go_simp; with_reducible rfl)
  try simp only [List.getElem_toArray, List.getElem_cons_zero, List.getElem_cons_succ, Act.put, List.setIfInBounds_toArray, List.set_cons_zero, List.set_cons_succ]
  refine Kept.take (i := 2) (v := ?_) rfl (by kernel_rfl) (by kernel_rfl) (by kernel_rfl) (fun _ _ _ h => h) (Or.inl ⟨by kernel_rfl, ?_⟩) hHeld ?_
  rotate_left
  · intro w' hSw; (try dsimp only at hSw); first | (go_simp; done) | (go_simp; with_reducible rfl)
  try simp only [List.getElem_toArray, List.getElem_cons_zero, List.getElem_cons_succ, Act.put, List.setIfInBounds_toArray, List.set_cons_zero, List.set_cons_succ]
  refine Kept.take (i := 3) (v := ?_) rfl (by kernel_rfl) (by kernel_rfl) (by kernel_rfl) (fun _ _ _ h => h) (Or.inl ⟨by kernel_rfl, ?_⟩) hHeld ?_
  rotate_left
  · intro w' hSw; (try dsimp only at hSw); first | (go_simp; done) | (go_simp; with_reducible rfl)
  try simp only [List.getElem_toArray, List.getElem_cons_zero, List.getElem_cons_succ, Act.put, List.setIfInBounds_toArray, List.set_cons_zero, List.set_cons_succ]
  refine Kept.take (i := 4) (v := ?_) rfl (by kernel_rfl) (by kernel_rfl) (by kernel_rfl) (fun _ _ _ h => h) (Or.inl ⟨by kernel_rfl, ?_⟩) hHeld ?_
  rotate_left
  · intro w' hSw; (try dsimp only at hSw); first | (go_simp; done) | (go_simp; with_reducible rfl)
  try simp only [List.getElem_toArray, List.getElem_cons_zero, List.getElem_cons_succ, Act.put, List.setIfInBounds_toArray, List.set_cons_zero, List.set_cons_succ]
  refine Kept.take (i := 6) (v := ?_) rfl (by kernel_rfl) (by kernel_rfl) (by kernel_rfl) (fun _ _ _ h => h) (Or.inl ⟨by kernel_rfl, ?_⟩) hHeld ?_
  rotate_left
  · intro w' hSw; (try dsimp only at hSw); first | (go_simp; done) | (go_simp; with_reducible rfl)
  try simp only [List.getElem_toArray, List.getElem_cons_zero, List.getElem_cons_succ, Act.put, List.setIfInBounds_toArray, List.set_cons_zero, List.set_cons_succ]
  refine Kept.take (i := 7) (v := ?_) rfl (by kernel_rfl) (by kernel_rfl) (by kernel_rfl) (fun _ _ _ h => h) (Or.inl ⟨by kernel_rfl, ?_⟩) hHeld ?_
  rotate_left
  · intro w' hSw; (try dsimp only at hSw); first | (go_simp; done) | (go_simp; with_reducible rfl)
  try simp only [List.getElem_toArray, List.getElem_cons_zero, List.getElem_cons_succ, Act.put, List.setIfInBounds_toArray, List.set_cons_zero, List.set_cons_succ]
  refine Kept.only (i := 5) (by kernel_rfl) rfl (fun K hK => ?_)
  go_simp
  refine (pick43_any _ P M n i mv gv lv sv yv checks (HL.out.below (bl_trans HB1.out (bl_drew w2)) (Nat.le_refl _))).mono ?_; rintro e w3 ⟨u3, rfl, hs3, hb⟩; have hb := bl_trans (bl_drew w2) hb; have HS3 := Lib.hid hs3; have HT3 := Lib.hid (HT1.out.belowS hb); have HB3 := Lib.hid (bl_trans HB1.out hb); clear hb hs3
  refine hK.out _ _ (⟨HT3.out.cell 0, HT3.out.cell 1, HT3.out.cell 2, HT3.out.cell 3, HT3.out.cell 4, HT3.out.cell 5, HT3.out.cell 6, HT3.out.cell 7, HT3.out.cell 8⟩) (fun hHeld2 => ?_)
  clear hK K
  replace hHeld := hHeld2
  clear hHeld2
  try simp only [List.getElem_toArray, List.getElem_cons_zero, List.getElem_cons_succ, Act.put, List.setIfInBounds_toArray, List.set_cons_zero, List.set_cons_succ]
  refine Kept.only (i := 8) (by kernel_rfl) rfl (fun K hK => ?_)
  go_simp
  refine (rArgs_any _ P M n i mv gv u3 yv Mod y gen (pickK i checks) (HM.out.below HB3.out (Nat.le_refl _)) (HG.out.below HB3.out (Nat.le_refl _)) HS3.out (HY.out.below HB3.out (Nat.le_refl _))).mono ?_; rintro e w4 ⟨rfl, hb⟩; rw [← HK.out, ← HX.out]; have HT4 := Lib.hid (HT3.out.belowS hb); have HB4 := Lib.hid (bl_trans HB3.out hb); clear hb
  refine hK.out _ _ (⟨HT4.out.cell 0, HT4.out.cell 1, HT4.out.cell 2, HT4.out.cell 3, HT4.out.cell 4, HT4.out.cell 5, HT4.out.cell 6, HT4.out.cell 7, HT4.out.cell 8⟩) (fun hHeld2 => ?_)
  clear hK K
  replace hHeld := hHeld2
  clear hHeld2
  try simp only [List.getElem_toArray, List.getElem_cons_zero, List.getElem_cons_succ, Act.put, List.setIfInBounds_toArray, List.set_cons_zero, List.set_cons_succ]
  refine Kept.take (i := 9) (v := ?_) rfl (by kernel_rfl) (by kernel_rfl) (by kernel_rfl) (fun _ _ _ h => h) (Or.inl ⟨by kernel_rfl, ?_⟩) hHeld ?_
  rotate_left
  · intro w' hSw; (try dsimp only at hSw); first | (go_simp; done) | (go_simp; with_reducible rfl)
  try simp only [List.getElem_toArray, List.getElem_cons_zero, List.getElem_cons_succ, Act.put, List.setIfInBounds_toArray, List.set_cons_zero, List.set_cons_succ]
  refine Kept.take (i := 10) (v := ?_) rfl (by kernel_rfl) (by kernel_rfl) (by kernel_rfl) (fun _ _ _ h => h) (Or.inl ⟨by kernel_rfl, ?_⟩) hHeld ?_
  rotate_left
  · intro w' hSw; (try dsimp only at hSw); first | (go_simp; done) | (go_simp; with_reducible rfl)
  try simp only [List.getElem_toArray, List.getElem_cons_zero, List.getElem_cons_succ, Act.put, List.setIfInBounds_toArray, List.set_cons_zero, List.set_cons_succ]
  refine Kept.take (i := 11) (v := ?_) rfl (by kernel_rfl) (by kernel_rfl) (by kernel_rfl) (fun _ _ _ h => h) (Or.inl ⟨by kernel_rfl, ?_⟩) hHeld ?_
  rotate_left
  · intro w' hSw; (try dsimp only at hSw); first | (go_simp; done) | (go_simp; with_reducible rfl)
  try simp only [List.getElem_toArray, List.getElem_cons_zero, List.getElem_cons_succ, Act.put, List.setIfInBounds_toArray, List.set_cons_zero, List.set_cons_succ]
  refine Kept.take (i := 12) (v := ?_) rfl (by kernel_rfl) (by kernel_rfl) (by kernel_rfl) (fun _ _ _ h => h) (Or.inl ⟨by kernel_rfl, ?_⟩) hHeld ?_
  rotate_left
  · intro w' hSw; (try dsimp only at hSw); first | (go_simp; done) | (go_simp; with_reducible rfl)
  try simp only [List.getElem_toArray, List.getElem_cons_zero, List.getElem_cons_succ, Act.put, List.setIfInBounds_toArray, List.set_cons_zero, List.set_cons_succ]
  refine Kept.take (i := 13) (v := ?_) rfl (by kernel_rfl) (by kernel_rfl) (by kernel_rfl) (fun _ _ _ h => h) (Or.inl ⟨by kernel_rfl, ?_⟩) hHeld ?_
  rotate_left
  · intro w' hSw; (try dsimp only at hSw); first | (go_simp; done) | (go_simp; with_reducible rfl)
  try simp only [List.getElem_toArray, List.getElem_cons_zero, List.getElem_cons_succ, Act.put, List.setIfInBounds_toArray, List.set_cons_zero, List.set_cons_succ]
  refine Kept.take (i := 14) (v := ?_) rfl (by kernel_rfl) (by kernel_rfl) (by kernel_rfl) (fun _ _ _ h => h) (Or.inl ⟨by kernel_rfl, ?_⟩) hHeld ?_
  rotate_left
  · intro w' hSw; (try dsimp only at hSw); first | (go_simp; done) | (go_simp; with_reducible rfl)
  try simp only [List.getElem_toArray, List.getElem_cons_zero, List.getElem_cons_succ, Act.put, List.setIfInBounds_toArray, List.set_cons_zero, List.set_cons_succ]
  refine Kept.take (i := 15) (v := ?_) rfl (by kernel_rfl) (by kernel_rfl) (by kernel_rfl) (fun _ _ _ h => h) (Or.inl ⟨by kernel_rfl, ?_⟩) hHeld ?_
  rotate_left
  · intro w' hSw; (try dsimp only at hSw); first | (go_simp; done) | (go_simp; with_reducible rfl)
  try simp only [List.getElem_toArray, List.getElem_cons_zero, List.getElem_cons_succ, Act.put, List.setIfInBounds_toArray, List.set_cons_zero, List.set_cons_succ]
  refine Kept.take (i := 18) (v := ?_) rfl (by kernel_rfl) (by kernel_rfl) (by kernel_rfl) (fun _ _ _ h => h) (Or.inl ⟨by kernel_rfl, ?_⟩) hHeld ?_
  rotate_left
  · intro w' hSw; (try dsimp only at hSw); first | (go_simp; done) | (go_simp; with_reducible rfl)
  try simp only [List.getElem_toArray, List.getElem_cons_zero, List.getElem_cons_succ, Act.put, List.setIfInBounds_toArray, List.set_cons_zero, List.set_cons_succ]
  refine Kept.only (i := 16) (by kernel_rfl) rfl (fun K hK => ?_)
  go_simp
  refine (rWeight_any _ P M mv _ y (HY.out.below HB4.out (Nat.le_refl _))).mono ?_; rintro e w5 ⟨rfl, hb⟩; rw [← HWT.out]; have HT5 := Lib.hid (HT4.out.belowS hb); have HB5 := Lib.hid (bl_trans HB4.out hb); clear hb
  refine hK.out _ _ (⟨HT5.out.cell 0, HT5.out.cell 1, HT5.out.cell 2, HT5.out.cell 3, HT5.out.cell 4, HT5.out.cell 5, HT5.out.cell 6, HT5.out.cell 7, HT5.out.cell 8⟩) (fun hHeld2 => ?_)
  clear hK K
  replace hHeld := hHeld2
  clear hHeld2
  try simp only [List.getElem_toArray, List.getElem_cons_zero, List.getElem_cons_succ, Act.put, List.setIfInBounds_toArray, List.set_cons_zero, List.set_cons_succ]
  refine Kept.take (i := 17) (v := ?_) rfl (by kernel_rfl) (by kernel_rfl) (by kernel_rfl) (fun _ _ _ h => h) (Or.inl ⟨by kernel_rfl, ?_⟩) hHeld ?_
  rotate_left
  · intro w' hSw; (try dsimp only at hSw); first | (go_simp; done) | (go_simp; with_reducible rfl)
  try simp only [List.getElem_toArray, List.getElem_cons_zero, List.getElem_cons_succ, Act.put, List.setIfInBounds_toArray, List.set_cons_zero, List.set_cons_succ]
  refine Kept.only (i := 19) (by kernel_rfl) rfl (fun K hK => ?_)
  go_simp
  refine (pick43_any _ P M n i mv gv lv sv yv checks (HL.out.below HB5.out (Nat.le_refl _))).mono ?_; rintro e w6 ⟨u6, rfl, hs6, hb⟩; rw [← HK.out] at hs6; obtain ⟨PA, pc, rfl, _⟩ := hs6; have HT6 := Lib.hid (HT5.out.belowS hb); have HB6 := Lib.hid (bl_trans HB5.out hb); clear hb
  refine hK.out _ _ (⟨HT6.out.cell 0, HT6.out.cell 1, HT6.out.cell 2, HT6.out.cell 3, HT6.out.cell 4, HT6.out.cell 5, HT6.out.cell 6, HT6.out.cell 7, HT6.out.cell 8⟩) (fun hHeld2 => ?_)
  clear hK K
  replace hHeld := hHeld2
  clear hHeld2
  try simp only [List.getElem_toArray, List.getElem_cons_zero, List.getElem_cons_succ, Act.put, List.setIfInBounds_toArray, List.set_cons_zero, List.set_cons_succ]
  refine Kept.take (i := 20) (v := ?_) rfl (by kernel_rfl) (by kernel_rfl) (by kernel_rfl) (fun _ _ _ h => h) (Or.inl ⟨by kernel_rfl, ?_⟩) hHeld ?_
  rotate_left
  · intro w' hSw; (try dsimp only at hSw); first | (go_simp; done) | (go_simp; with_reducible rfl)
  try simp only [List.getElem_toArray, List.getElem_cons_zero, List.getElem_cons_succ, Act.put, List.setIfInBounds_toArray, List.set_cons_zero, List.set_cons_succ]
  refine Kept.take (i := 21) (v := ?_) rfl (by kernel_rfl) (by kernel_rfl) (by kernel_rfl) (fun _ _ _ h => h) (Or.inl ⟨by kernel_rfl, ?_⟩) hHeld ?_
  rotate_left
  · intro w' hSw; (try dsimp only at hSw); first | (go_simp; done) | (go_simp; with_reducible rfl)
  try simp only [List.getElem_toArray, List.getElem_cons_zero, List.getElem_cons_succ, Act.put, List.setIfInBounds_toArray, List.set_cons_zero, List.set_cons_succ]
  refine Kept.only (i := 22) (by kernel_rfl) rfl (fun K hK => ?_)
  go_simp
  refine hK.out _ _ hHeld (fun hHeld2 => ?_)
  clear hK K
  clear hHeld2
  refine Kept.done (by kernel_rfl) ?_
  try simp only [List.getElem_toArray, List.getElem_cons_zero, List.getElem_cons_succ, Act.put, List.setIfInBounds_toArray, List.set_cons_zero, List.set_cons_succ]
  clear hHeld
  clear c0 c1 c2 c3 c4 c5 c6 c7 c8 HT3 HB3 HS3 HT4 HB4 HT5 HB5
  by_cases hwk : K.length < 2 * wt
  · have k2 : decide ((K.length : Int) < 2 * (wt : Int)) = true := decide_eq_true (by omega)
    have k2' : (K.length : Int) < 2 * (wt : Int) := by omega
    go_wp2_with fail
    go_ret
    exact ⟨rfl, HB6.out⟩
  have k2 : decide ((K.length : Int) < 2 * (wt : Int)) = false := decide_eq_false (by omega)
  have k2' : ¬ (K.length : Int) < 2 * (wt : Int) := by omega
  have HWK : Hid (2 * (suppL (orderF P M) y).length ≤ K.length) := hid' (by rw [← HWT.out]; omega)
  obtain ⟨-, hz2, -, -⟩ := argsV_zero HX0.out
  obtain ⟨N, rfl⟩ : ∃ N : Nat, n = (N : Int) := ⟨n.toNat, by omega⟩
  obtain ⟨I, rfl⟩ : ∃ I : Nat, i = (I : Int) := ⟨i.toNat, by omega⟩
  have hIN : I < N := by omega
  have HOF := Lib.hid (codeE_zero (argsV_zero HX0.out).1).1.1
  clear hz2 hw1 hw2 hwl
  have c0 : w6.cell? ⟨w.heap.size, 0, none⟩ = some (.int .i64 P) := HT6.out.cell 0
  have c1 : w6.cell? ⟨w.heap.size, 1, none⟩ = some (.int .i64 M) := HT6.out.cell 1
  have c2 : w6.cell? ⟨w.heap.size, 2, none⟩ = some (mv) := HT6.out.cell 2
  have c3 : w6.cell? ⟨w.heap.size, 3, none⟩ = some (.int .i64 (N : Int)) := HT6.out.cell 3
  have c4 : w6.cell? ⟨w.heap.size, 4, none⟩ = some (gv) := HT6.out.cell 4
  have c5 : w6.cell? ⟨w.heap.size, 5, none⟩ = some (lv) := HT6.out.cell 5
  have c6 : w6.cell? ⟨w.heap.size, 6, none⟩ = some (sv) := HT6.out.cell 6
  have c7 : w6.cell? ⟨w.heap.size, 7, none⟩ = some (yv) := HT6.out.cell 7
  have c8 : w6.cell? ⟨w.heap.size, 8, none⟩ = some (.int .i64 (I : Int)) := HT6.out.cell 8
  go_upto_region 7 with fail
  go_wp2_with fail
  refine (rEncode_any _ P M N mv gv sv Mod msg gen (HM.out.below HB6.out (Nat.le_refl _)) (HG.out.below HB6.out (Nat.le_refl _)) (HS.out.below HB6.out (Nat.le_refl _))).mono ?_
  rintro e w7 ⟨u, rfl, hx, _, hb⟩
  have HTP : Hid (encE P M Mod N gen msg = 0 → addWE (encL P M Mod N gen msg) y = 0 ∧ argsV P M Mod N gen I K (addW P M (encL P M Mod N gen msg) y) = 0 ∧ estV P M Mod N gen I K (addW P M (encL P M Mod N gen msg) y) = y.getD I 0 ∧ y.length = N) := hid' fun h => by
    obtain ⟨t1, t2, t3, t4, _⟩ := tells_plain HX0.out HWK.out h
    rw [Int.toNat_natCast] at t3 t4
    exact ⟨t1, t2, t3, t4⟩
  have HXW := Lib.hid hx
  have HT7 := Lib.hid (HT6.out.belowS hb); have HB7 := Lib.hid (bl_trans HB6.out hb)
  clear hb hx c0 c1 c2 c3 c4 c5 c6 c7 c8
  obtain ⟨er, her⟩ : ∃ er, er = encE P M Mod N gen msg := ⟨_, rfl⟩
  rw [← her] at HTP ⊢
  clear her
  generalize encL P M Mod N gen msg = wd at *
  by_cases h0 : er = 0
  case neg =>
    have k3 : (er != 0) = true := by rw [bne_iff_ne]; exact h0
    clear h0
    go_wp2_with fail
    go_ret
    exact ⟨rfl, HB7.out⟩
  have k3 : (er != 0) = false := by rw [bne_eq_false_iff_eq]; exact h0
  have HT := Lib.hid (HTP.out h0)
  obtain ⟨xI, hxI⟩ : ∃ xI, xI = y.getD I 0 := ⟨_, rfl⟩
  have HXI := Lib.hid hxI
  rw [← hxI] at HT
  clear hxI
  clear h0 HTP
  have c0 : w7.cell? ⟨w.heap.size, 0, none⟩ = some (.int .i64 P) := HT7.out.cell 0
  have c1 : w7.cell? ⟨w.heap.size, 1, none⟩ = some (.int .i64 M) := HT7.out.cell 1
  have c2 : w7.cell? ⟨w.heap.size, 2, none⟩ = some (mv) := HT7.out.cell 2
  have c3 : w7.cell? ⟨w.heap.size, 3, none⟩ = some (.int .i64 (N : Int)) := HT7.out.cell 3
  have c4 : w7.cell? ⟨w.heap.size, 4, none⟩ = some (gv) := HT7.out.cell 4
  have c5 : w7.cell? ⟨w.heap.size, 5, none⟩ = some (lv) := HT7.out.cell 5
  have c6 : w7.cell? ⟨w.heap.size, 6, none⟩ = some (sv) := HT7.out.cell 6
  have c7 : w7.cell? ⟨w.heap.size, 7, none⟩ = some (yv) := HT7.out.cell 7
  have c8 : w7.cell? ⟨w.heap.size, 8, none⟩ = some (.int .i64 (I : Int)) := HT7.out.cell 8
  go_wp2_with fail
  refine (rAddW_any _ P M mv _ _ wd y HXW.out (HY.out.below HB7.out (Nat.le_refl _)) HOF.out).mono ?_
  rintro e w8 ⟨u8, rfl, hx8, _, hb⟩
  have HZ := Lib.hid hx8
  have HT8 := Lib.hid (HT7.out.belowS hb); have HB8 := Lib.hid (bl_trans HB7.out hb)
  rw [HT.out.1]
  clear hb hx8 c0 c1 c2 c3 c4 c5 c6 c7 c8
  generalize addW P M wd y = z at *
  have c0 : w8.cell? ⟨w.heap.size, 0, none⟩ = some (.int .i64 P) := HT8.out.cell 0
  have c1 : w8.cell? ⟨w.heap.size, 1, none⟩ = some (.int .i64 M) := HT8.out.cell 1
  have c2 : w8.cell? ⟨w.heap.size, 2, none⟩ = some (mv) := HT8.out.cell 2
  have c3 : w8.cell? ⟨w.heap.size, 3, none⟩ = some (.int .i64 (N : Int)) := HT8.out.cell 3
  have c4 : w8.cell? ⟨w.heap.size, 4, none⟩ = some (gv) := HT8.out.cell 4
  have c5 : w8.cell? ⟨w.heap.size, 5, none⟩ = some (lv) := HT8.out.cell 5
  have c6 : w8.cell? ⟨w.heap.size, 6, none⟩ = some (sv) := HT8.out.cell 6
  have c7 : w8.cell? ⟨w.heap.size, 7, none⟩ = some (yv) := HT8.out.cell 7
  have c8 : w8.cell? ⟨w.heap.size, 8, none⟩ = some (.int .i64 (I : Int)) := HT8.out.cell 8
  go_upto_region 11 with fail
  refine Kept.start (S := fun w' => w'.cell? ⟨w.heap.size, 0, none⟩ = some (.int .i64 P) ∧ w'.cell? ⟨w.heap.size, 1, none⟩ = some (.int .i64 M) ∧ w'.cell? ⟨w.heap.size, 2, none⟩ = some (mv) ∧ w'.cell? ⟨w.heap.size, 3, none⟩ = some (.int .i64 (N : Int)) ∧ w'.cell? ⟨w.heap.size, 4, none⟩ = some (gv) ∧ w'.cell? ⟨w.heap.size, 5, none⟩ = some (lv) ∧ w'.cell? ⟨w.heap.size, 6, none⟩ = some (sv) ∧ w'.cell? ⟨w.heap.size, 7, none⟩ = some (yv) ∧ w'.cell? ⟨w.heap.size, 8, none⟩ = some (.int .i64 (I : Int))) (by kernel_rfl) (⟨c0, c1, c2, c3, c4, c5, c6, c7, c8⟩) (fun hHeld => ?_)
  change Kept _ _ _ _ 13 _ _ _
  refine Kept.take (i := 0) (v := ?_) rfl (by kernel_rfl) (by kernel_rfl) (by kernel_rfl) (fun _ _ _ h => h) (Or.inl ⟨by kernel_rfl, ?_⟩) hHeld ?_
  rotate_left
  · intro w' hSw; (try dsimp only at hSw); first | (go_simp; done) | (go_simp; with_reducible rfl)
  try simp only [List.getElem_toArray, List.getElem_cons_zero, List.getElem_cons_succ, Act.put, List.setIfInBounds_toArray, List.set_cons_zero, List.set_cons_succ]
  refine Kept.take (i := 1) (v := ?_) rfl (by kernel_rfl) (by kernel_rfl) (by kernel_rfl) (fun _ _ _ h => h) (Or.inl ⟨by kernel_rfl, ?_⟩) hHeld ?_
  rotate_left
  · intro w' hSw; (try dsimp only at hSw); first | (go_simp; done) | (go_simp; with_reducible rfl)
  try simp only [List.getElem_toArray, List.getElem_cons_zero, List.getElem_cons_succ, Act.put, List.setIfInBounds_toArray, List.set_cons_zero, List.set_cons_succ]
  refine Kept.take (i := 2) (v := ?_) rfl (by kernel_rfl) (by kernel_rfl) (by kernel_rfl) (fun _ _ _ h => h) (Or.inl ⟨by kernel_rfl, ?_⟩) hHeld ?_
  rotate_left
  · intro w' hSw; (try dsimp only at hSw); first | (go_simp; done) | (go_simp; with_reducible rfl)
  try simp only [List.getElem_toArray, List.getElem_cons_zero, List.getElem_cons_succ, Act.put, List.setIfInBounds_toArray, List.set_cons_zero, List.set_cons_succ]
  refine Kept.take (i := 3) (v := ?_) rfl (by kernel_rfl) (by kernel_rfl) (by kernel_rfl) (fun _ _ _ h => h) (Or.inl ⟨by kernel_rfl, ?_⟩) hHeld ?_
  rotate_left
  · intro w' hSw; (try dsimp only at hSw); first | (go_simp; done) | (go_simp; with_reducible rfl)
  try simp only [List.getElem_toArray, List.getElem_cons_zero, List.getElem_cons_succ, Act.put, List.setIfInBounds_toArray, List.set_cons_zero, List.set_cons_succ]
  refine Kept.take (i := 4) (v := ?_) rfl (by kernel_rfl) (by kernel_rfl) (by kernel_rfl) (fun _ _ _ h => h) (Or.inl ⟨by kernel_rfl, ?_⟩) hHeld ?_
  rotate_left
  · intro w' hSw; (try dsimp only at hSw); first | (go_simp; done) | (go_simp; with_reducible rfl)
  try simp only [List.getElem_toArray, List.getElem_cons_zero, List.getElem_cons_succ, Act.put, List.setIfInBounds_toArray, List.set_cons_zero, List.set_cons_succ]
  refine Kept.take (i := 6) (v := ?_) rfl (by kernel_rfl) (by kernel_rfl) (by kernel_rfl) (fun _ _ _ h => h) (Or.inl ⟨by kernel_rfl, ?_⟩) hHeld ?_
  rotate_left
  · intro w' hSw; (try dsimp only at hSw); first | (go_simp; done) | (go_simp; with_reducible rfl)
  try simp only [List.getElem_toArray, List.getElem_cons_zero, List.getElem_cons_succ, Act.put, List.setIfInBounds_toArray, List.set_cons_zero, List.set_cons_succ]
  refine Kept.only (i := 5) (by kernel_rfl) rfl (fun K hK => ?_)
  go_simp
  refine (pick43_any _ P M N I mv gv lv sv yv checks (HL.out.below (bl_trans HB8.out (bl_drew w8)) (Nat.le_refl _))).mono ?_; rintro e w9 ⟨u9, rfl, hs9, hb⟩; have hb := bl_trans (bl_drew w8) hb; have HS9 := Lib.hid hs9; have HB89 := Lib.hid hb; have HT9 := Lib.hid (HT8.out.belowS hb); have HB9 := Lib.hid (bl_trans HB8.out hb); clear hb hs9
  refine hK.out _ _ (⟨HT9.out.cell 0, HT9.out.cell 1, HT9.out.cell 2, HT9.out.cell 3, HT9.out.cell 4, HT9.out.cell 5, HT9.out.cell 6, HT9.out.cell 7, HT9.out.cell 8⟩) (fun hHeld2 => ?_)
  clear hK K
  replace hHeld := hHeld2
  clear hHeld2
  try simp only [List.getElem_toArray, List.getElem_cons_zero, List.getElem_cons_succ, Act.put, List.setIfInBounds_toArray, List.set_cons_zero, List.set_cons_succ]
  refine Kept.only (i := 7) (by kernel_rfl) rfl (fun K hK => ?_)
  go_simp
  refine (mEst_any _ P M N I mv gv u9 u8 Mod z gen (pickK I checks) (HM.out.below HB9.out (Nat.le_refl _)) (HG.out.below HB9.out (Nat.le_refl _)) HS9.out (HZ.out.below (HB89.out) (Nat.le_refl _))).mono ?_; rintro e w10 ⟨rfl, hb⟩; rw [← HK.out, HT.out.2.1, HT.out.2.2.1]; have HT10 := Lib.hid (HT9.out.belowS hb); have HB10 := Lib.hid (bl_trans HB9.out hb); clear hb
  refine hK.out _ _ (⟨HT10.out.cell 0, HT10.out.cell 1, HT10.out.cell 2, HT10.out.cell 3, HT10.out.cell 4, HT10.out.cell 5, HT10.out.cell 6, HT10.out.cell 7, HT10.out.cell 8⟩) (fun hHeld2 => ?_)
  clear hK K
  replace hHeld := hHeld2
  clear hHeld2
  try simp only [List.getElem_toArray, List.getElem_cons_zero, List.getElem_cons_succ, Act.put, List.setIfInBounds_toArray, List.set_cons_zero, List.set_cons_succ]
  refine Kept.take (i := 8) (v := ?_) rfl (by kernel_rfl) (by kernel_rfl) (by kernel_rfl) (fun _ _ _ h => h) (Or.inl ⟨by kernel_rfl, ?_⟩) hHeld ?_
  rotate_left
  · intro w' hSw; (try dsimp only at hSw); first | (go_simp; done) | (go_simp; with_reducible rfl)
  try simp only [List.getElem_toArray, List.getElem_cons_zero, List.getElem_cons_succ, Act.put, List.setIfInBounds_toArray, List.set_cons_zero, List.set_cons_succ]
  refine Kept.take (i := 9) (v := ?_) rfl (by kernel_rfl) (by kernel_rfl) (by kernel_rfl) (fun _ _ _ h => h) (Or.inl ⟨by kernel_rfl, ?_⟩) hHeld ?_
  rotate_left
  · intro w' hSw; (try dsimp only at hSw); first | (go_simp; done) | (go_simp; with_reducible rfl)
  try simp only [List.getElem_toArray, List.getElem_cons_zero, List.getElem_cons_succ, Act.put, List.setIfInBounds_toArray, List.set_cons_zero, List.set_cons_succ]
  refine Kept.take (i := 10) (v := ?_) rfl (by kernel_rfl) (by kernel_rfl) (by kernel_rfl) (fun _ _ _ h => h) (Or.inl ⟨by kernel_rfl, ?_⟩) hHeld ?_
  rotate_left
  · intro w' hSw; (try dsimp only at hSw); first | (go_simp; done) | (go_simp; with_reducible rfl)
  try simp only [List.getElem_toArray, List.getElem_cons_zero, List.getElem_cons_succ, Act.put, List.setIfInBounds_toArray, List.set_cons_zero, List.set_cons_succ]
  refine Kept.take (i := 11) (v := ?_) rfl (by kernel_rfl) (by kernel_rfl) (by kernel_rfl) (fun _ _ _ h => h) (Or.inl ⟨by kernel_rfl, ?_⟩) hHeld ?_
  rotate_left
  · intro w' hSw; (try dsimp only at hSw); first | (go_simp; done) | (go_simp; with_reducible rfl)
  try simp only [List.getElem_toArray, List.getElem_cons_zero, List.getElem_cons_succ, Act.put, List.setIfInBounds_toArray, List.set_cons_zero, List.set_cons_succ]
  refine Kept.only (i := 12) (by kernel_rfl) rfl (fun K hK => ?_)
  go_simp
  refine hK.out _ _ hHeld (fun hHeld2 => ?_)
  clear hK K
  clear hHeld2
  refine Kept.done (by kernel_rfl) ?_
  try simp only [List.getElem_toArray, List.getElem_cons_zero, List.getElem_cons_succ, Act.put, List.setIfInBounds_toArray, List.set_cons_zero, List.set_cons_succ]
  clear hHeld
  clear c0 c1 c2 c3 c4 c5 c6 c7 c8
  have HYN := Lib.hid HT.out.2.2.2
  obtain ⟨YA, yc, rfl, _⟩ := HY.out
  have hy10 := HY.out.below HB10.out (Nat.le_refl _)
  rw [HYN.out] at hy10
  obtain ⟨xd, x, rfl, hxc, _, HXV⟩ := SI.elt hy10 (k := I) (by rw [HYN.out]; exact hIN)
  have hxe : x = xI := (HXI.out.trans HXV.out).symm
  subst hxe
  have hxx : (x == x) = true := by simp
  have c7 : w10.cell? ⟨w.heap.size, 7, none⟩ = some (.slice (some xd) N yc) := by have := HT10.out.cell 7; simpa [HYN.out] using this
  have c8 : w10.cell? ⟨w.heap.size, 8, none⟩ = some (.int .i64 (I : Int)) := HT10.out.cell 8
  clear hy10
  go_wp2_with fail
  go_ret
  exact ⟨rfl, HB10.out⟩
end Go.Proofs.YtlcgihjdafglmaaGreat

/- MajorityTells: the law returns true for every input; each argument reads behind the call as it read before. The walk is in LTel. -/
namespace Go.Proofs.YtlcgihjdafglmaaGreat.majorityTells
open Go.ChangeShapes Go.WideShapes Go.ChangeAt Go.RowKit
set_option linter.unusedVariables false

set_option maxRecDepth 100000 in
theorem lifted (os : Os) (started : os.Started) (H : Type) (enc : TypeId × Value → H) :
    ReturnsInHanded {} Tryz.checked os 3 .any (Rows.majorityTellsSpec.pre6 enc Tryz.prog Tryz.f3 Rows.majorityTellsRow.domain false) (Rows.majorityTellsSpec.post enc Tryz.prog Tryz.f3 false true false false) := by
  refine returnsInHanded_of_change_sized (C := Tryz.checked) own started (by kernel_rfl) Tryz.func3
    (ChangeSpec.witness6 (enc := enc) (C := Tryz.checked) false ⟨#[], #[.agg #[.int .i64 0, .int .i64 0, .slice none 0 0, .int .i64 0, .slice none 0 0, .slice none 0 0, .slice none 0 0, .slice none 0 0, .int .i64 0]], []⟩ 8 (by kernel_rfl) (by kernel_rfl) (by kernel_rfl) (by kernel_rfl)) ?_
  intro W base args ds gs before hval0 hW _ hsz0 _
  have hsz : (DataW.weightsEach Tryz.prog (Tryz.f3.params.toList ++ Rows.majorityTellsSpec.plain.varTypes Tryz.prog) (ds ++ gs)).all (· ≤ reachBytes) = true := hsz0
  have hval : ∀ (j : Nat) t v, Tryz.f3.params[j]? = some t → args[j]? = some v → Value.okWide Tryz.prog W .any base t v := hval0
  have hW' := hW
  obtain ⟨p, q, hA0, hV, rfl, hfz, hnd⟩ := hW
  have hA : DataW.TrodAll enc Tryz.prog W 0 (fun _ => true) true Tryz.f3.params.toList args.toList ds p := hA0
  rw [Tryz.params3] at hA hval hsz
  obtain ⟨v0, vs0, d0, ds0, p0, q0, hargs, rfl, rfl, h0, r0'⟩ := trodAll_cons hA
  obtain ⟨rfl, rfl, rfl⟩ := trodAll_nil r0'
  obtain rfl : args = #[v0] := by cases args; simp_all
  obtain ⟨rfl, rfl⟩ := trodVars_none hV
  have k0 := h0
  have r0 := open_Checked h0 (hval 0 30 v0 rfl rfl) (weigh hsz 0 rfl rfl)
  clear hA0 hval0
  refine (lawTel W r0).mono fun e W' ⟨he, bel⟩ => ?_
  subst he
  exact ⟨_, rfl, _, _, _, [], _, [], hW', trodAll_mk1 (shut_bool Tryz.underlying4 _), (trodAll_cons_mk (Below.trod laidOut (by kernel_rfl) (of_decide_eq_true (by kernel_rfl)) k0 bel (lt_of_trod k0)) trodAll_mk0), rfl, bel.frame _, fun h => by cases h⟩

theorem proved : Rows.MajorityTellsSaid :=
  OpenClaim.holds_of_wide 3 Tryz.f3 rfl rfl rfl rfl rfl rfl rfl ⟨rfl, rfl, rfl, rfl, rfl⟩ rfl rfl rfl rfl rfl (by kernel_rfl) Tryz.func3 (by kernel_rfl)
    (of_decide_eq_true (by kernel_rfl)) (by unfold Func.isWrapper; first | (rw [if_pos (by decide +kernel)]; kernel_rfl) | (rw [if_neg (by decide +kernel)]; exact ⟨rfl, rfl⟩))
    (fun os started H enc _ => lifted os started H enc)
#print axioms proved
end Go.Proofs.YtlcgihjdafglmaaGreat.majorityTells
