/- MajorityEstimates: the law returns true for every input; each argument reads behind the call as it read before. The walk is in LEst. -/
import Derived.Test.YtlcgihjdafglmaaZB1
import Derived.Test.YtlcgihjdafglmaaZB12
import Derived.Test.YtlcgihjdafglmaaZB13
import Derived.Test.YtlcgihjdafglmaaZB14
import Derived.Test.YtlcgihjdafglmaaZB15
import Derived.Test.YtlcgihjdafglmaaZB17
import Derived.Maps.OwnOps
import Derived.Maps.OwnSet
set_option linter.unusedSimpArgs false
set_option linter.unusedVariables false

/- majority.estimate (with its map of counts). -/
namespace Go.Proofs.Ytlcgihjdafglmaa
open Go.RowKit Go.Maps
set_option linter.unusedVariables false
set_option maxRecDepth 100000

theorem lawIntK : Keyed Try.prog 3 := int_keyed Try.underlying3
theorem zeroIntK (w : World) : (zeroValue 3).run Try.prog w = .ok (.int .i64 0) w := by kernel_rfl
theorem lit_int_inj {a b : Int} (h : (DataW.lit (.int .i64 a) : DataW Unit) = .lit (.int .i64 b)) : a = b := by cases h; rfl
/-- block g is a map that counts the first k values -/
def CM (w : World) (g n : Nat) (d : Nat → Int) (k : Nat) (D : DataW Unit) : Prop :=
  w.ownsMap Try.prog 3 (plainElem Try.prog 3) g n D ∧ ∀ v, D.atKey (.int .i64 v) (.lit (.int .i64 0)) = .lit (.int .i64 (cntD d v k))
theorem CM.made (w : World) (d : Nat → Int) : CM (w.alloc (.map #[] 0)) w.heap.size 0 d 0 (.map []) := ⟨World.ownsMap_made _ _ _ _, fun v => rfl⟩
theorem CM.kept {w w' : World} {g n : Nat} {d : Nat → Int} {k : Nat} {D : DataW Unit} (h : CM w g n d k D) (hb : Below w.heap.size w w') : CM w' g n d k D := ⟨h.1.kept (gr_below hb none) (by simp), h.2⟩
theorem CM.next {w w' : World} {g n n' : Nat} {d : Nat → Int} {k : Nat} {D : DataW Unit} (h : CM w g n d k D) {x c : Int} (hx : d k = x) (hc : c = (cntD d x k : Int) + 1)
    (ho : w'.ownsMap Try.prog 3 (plainElem Try.prog 3) g n' (D.put (.int .i64 x) (.lit (.int .i64 c)))) : CM w' g n' d (k + 1) (D.put (.int .i64 x) (.lit (.int .i64 c))) := by
  refine ⟨ho, fun v => ?_⟩
  by_cases e : v = x
  · subst e
    rw [atKey_put_same (k := Lit.int .i64 v) h.1.isMap trivial, cntD, if_pos hx, hc]; rfl
  · rw [atKey_put_other (fun e2 => e (by injection e2)), h.2 v, cntD, if_neg (fun e2 => e (e2.symm.trans hx))]; rfl

set_option maxHeartbeats 8000000 in
theorem est_any (w : World) (g : Nat) (P M : Int) (cv yv : Value) (Mod y : List Int) (checks : List (List Int)) (hg : GF w g P M Mod) (hc : SS w cv checks) (hy : SI w yv y) (hl : ∀ k, k < checks.length → (checks.getD k []).length = y.length) :
    Calls Try.prog 62 #[.pointer (some ⟨g, 0, none⟩), cv, yv] w (RetI w (estF (fun k => dotL (refOps P M Mod) y (checks.getD k []) y.length) checks.length)) := by
  have ho := hg.fld.1
  have HG := Lib.hid hg; have HC := Lib.hid hc; have HY := Lib.hid hy
  have hcl := hc.len'
  have HDE : Hid (∀ k xs, checks.getD k [] = xs → dotL (refOps P M Mod) y (checks.getD k []) y.length = dotL (refOps P M Mod) y xs y.length) := hid' fun k xs h => by rw [h]
  have HDL : Hid (∀ xs, 0 ≤ dotL (refOps P M Mod) y xs y.length ∧ dotL (refOps P M Mod) y xs y.length ≤ 256) := hid' fun xs => by
    have := orderF_bounds P M
    cases y.length with
    | zero => show 0 ≤ (0 : Int) ∧ (0 : Int) ≤ 256; decide
    | succ k => have h := addF_lt ho (dotL (refOps P M Mod) y xs k) (mulR P M Mod (y.getD k 0) (xs.getD k 0)); rw [show dotL (refOps P M Mod) y xs (k + 1) = addF P M (dotL (refOps P M Mod) y xs k) (mulR P M Mod (y.getD k 0) (xs.getD k 0)) from rfl]; omega
  obtain ⟨d, hd⟩ : ∃ d : Nat → Int, d = fun k => dotL (refOps P M Mod) y (checks.getD k []) y.length := ⟨_, rfl⟩
  have HD : Hid (∀ k xs, checks.getD k [] = xs → d k = dotL (refOps P M Mod) y xs y.length) := hid' fun k xs h => by rw [hd]; exact HDE.out k xs h
  rw [← hd]
  have HLK := Lib.hid hl
  clear hd HDE hg hy ho hl
  obtain ⟨CA, cc, rfl, _⟩ := hc
  obtain ⟨m, hm⟩ : ∃ m, m = checks.length := ⟨_, rfl⟩
  rw [← hm] at HC hcl ⊢
  have HM := Lib.hid hm; clear hm
  have hmm := @run_makeMap Try.prog
  have HM0 : Hid (CM (w.alloc (.map #[] 0)) w.heap.size 0 d 0 (.map [])) := CM.made w d
  have HB0 := Lib.hid (bl_alloc w (.map #[] 0))
  go_enter Try.func62, Try.ntmps62
  go_wp2_with fail
  clear hmm
  obtain ⟨b, hb⟩ : ∃ b, b = w.heap.size := ⟨_, rfl⟩
  have HBE := Lib.hid hb
  rw [← hb] at HM0 ⊢
  clear hb
  generalize w.alloc (.map #[] 0) = w0 at *
  go_loopw [9, 10, 14] (fun _ _ i wr => ∃ (k : Nat) (D : DataW Unit), k ≤ m ∧ i = .int .i64 (k : Int) ∧ Hid (CM wr b k d k D) ∧ Hid (∀ v, v ≠ 0 → 2 * cntD d v k ≤ m) ∧ Hid (Below w.heap.size w wr)) (fun _ _ i _ => m - (intOf i).toNat)
  case atStart => exact ⟨0, _, Nat.zero_le _, rfl, HM0, fun v _ => by simp [cntD], HB0⟩
  case round =>
    clear HM0 HB0
    obtain ⟨k, D, hk, rfl, HCM, HMJ, HB⟩ := hrel
    by_cases hkm : k < m
    · have e1 : decide (k < m) = true := decide_eq_true hkm
      obtain ⟨ad, Ak, ck, xs, rfl, hcc, HX, HXE⟩ := (HC.out.below HB.out (Nat.le_refl _)).eltA (k := k) (by rw [← HM.out]; exact hkm)
      have HXL : Hid (y.length = xs.length) := hid' (by have := HLK.out k (by rw [← HM.out]; exact hkm); rw [HXE.out] at this; exact this.symm)
      go_wp2_with fail
      refine (gdot_any _ g P M yv _ Mod y xs (HG.out.on HB.out) (HY.out.below HB.out (Nat.le_refl _)) HX.out.si HXL.out).mono ?_
      rintro e w1 ⟨rfl, hb1⟩
      have hdb := HDL.out xs
      have HDK := Lib.hid (HD.out k xs HXE.out)
      have HC1 := Lib.hid (HCM.out.kept hb1)
      have HB1 := Lib.hid (bl_trans HB.out hb1)
      clear hb1 hcc
      generalize dotL (refOps P M Mod) y xs y.length = x at *
      have HWX : Hid ((Lit.int .i64 x).wf = true) := hid' (I64.of_small (by omega) (by omega)).wf
      have hcl2 := cntD_le d x k
      obtain ⟨n0, hn0⟩ : ∃ n0, n0 = cntD d x k := ⟨_, rfl⟩
      have HN0 := Lib.hid hn0
      rw [← hn0] at hcl2
      clear hn0
      have hwr : IntKind.i64.wrap ((n0 : Int) + 1) = (n0 : Int) + 1 := IntWalk.i64_in _ (by omega)
      have hwr2 : wrap64 ((n0 : Int) + 1) = (n0 : Int) + 1 := by unfold wrap64; omega
      have HWN : Hid ((Lit.int .i64 ((n0 : Int) + 1)).wf = true) := hid' (I64.of_small (by omega) (by omega)).wf
      obtain ⟨c0, hrun, hat, _⟩ := HC1.out.1.lookup_int lawIntK Try.underlying123 Try.underlying3 (zeroIntK _) (keyOf_int_mk Try.underlying3 HWX.out)
      rw [HC1.out.2 x] at hat
      have hc0 : c0 = (n0 : Int) := by
        rw [HN0.out]; exact (lit_int_inj hat).symm
      rw [hc0] at hrun
      clear hat hc0
      have HKE : Hid (keyOf Try.prog 3 (.int .i64 x) = some (.int .i64 x)) := hid' (keyOf_int_mk Try.underlying3 HWX.out)
      have HVE : Hid (plainElem (H := Unit) Try.prog 3 (.int .i64 ((n0 : Int) + 1)) = some (.lit (.int .i64 ((n0 : Int) + 1)), [])) := hid' (plainElem_int Try.underlying3 HWN.out)
      have HMX : Hid (k < maxLen) := hid' (by unfold maxLen; omega)
      go_upto_region 7 with (at_mapUpdate; refine wpList_mapUpdate_own w1 rfl (.tmp 22) (.tmp 23) (.tmp 25) 123 rfl 3 3 lawIntK Try.underlying123 (plainElem Try.prog 3) b k D rfl HC1.out.1 HMX.out (.int .i64 x) (.int .i64 ((n0 : Int) + 1)) (.int .i64 x) rfl rfl HKE.out (.lit (.int .i64 ((n0 : Int) + 1))) [] HVE.out ?_; intro w2 hown2 hgrow2; clear hrun; have HO2 := Lib.hid hown2; have HGR2 := Lib.hid hgrow2; clear hown2 hgrow2)
      simp only [Act.put]
      clear hwr hwr2
      have HCM2 := Lib.hid (HC1.out.next (n' := k + 1) HDK.out (by rw [← HN0.out]) HO2.out)
      have HB2 := Lib.hid (HB1.out.grown HGR2.out HB1.out.size (fun j hj => by cases hj; rw [HBE.out]; exact Nat.le_refl _))
      have HCS : Hid (cntD d x (k + 1) = n0 + 1) := hid' (by rw [cntD, if_pos HDK.out, ← HN0.out])
      have HMJ2 : Hid (∀ v, v ≠ 0 → v ≠ x → 2 * cntD d v (k + 1) ≤ m) := hid' fun v hv hvx => by
        rw [cntD, if_neg (fun h => hvx (h.symm.trans HDK.out))]; exact HMJ.out v hv
      clear HMJ HC1 HCM HB HB1 HO2 HGR2
      by_cases hx0 : x = 0
      · have k1 : (x != 0) = false := by rw [bne_eq_false_iff_eq]; exact hx0
        have HMJ3 : Hid (∀ v, v ≠ 0 → 2 * cntD d v (k + 1) ≤ m) := hid' fun v hv => HMJ2.out v hv (by rw [hx0]; exact hv)
        clear hx0
        go_wp2_with fail
        exact ⟨⟨k + 1, _, by omega, by push_cast; rfl, HCM2, HMJ3, HB2⟩, by simp only [intOf]; omega⟩
      · have k1 : (x != 0) = true := by rw [bne_iff_ne]; exact hx0
        obtain ⟨c1, hrun1, hat, _⟩ := HCM2.out.1.lookup_int lawIntK Try.underlying123 Try.underlying3 (zeroIntK _) (keyOf_int_mk Try.underlying3 HWX.out)
        rw [HCM2.out.2 x, HCS.out] at hat
        obtain ⟨n1, hn1⟩ : ∃ n1, n1 = n0 + 1 := ⟨_, rfl⟩
        rw [← hn1] at hat HCS
        rw [(lit_int_inj hat).symm] at hrun1
        have hn1m : n1 ≤ k + 1 := by omega
        have hw2 : wrap64 (2 * (n1 : Int)) = 2 * (n1 : Int) := by unfold wrap64; omega
        have hw3 : IntKind.i64.wrap (2 * (n1 : Int)) = 2 * (n1 : Int) := IntWalk.i64_in _ (by omega)
        clear hat hn1
        by_cases hmj : m < 2 * n1
        · have k2 : decide ((m : Int) < 2 * (n1 : Int)) = true := decide_eq_true (by omega)
          have HE : Hid (estF d m = x) := hid' (estF_yes hx0 (by
            have := cntD_mono d x (k := k + 1) m (by omega)
            rw [HCS.out] at this; omega))
          clear hx0
          go_wp2_with fail
          go_ret
          exact ⟨by rw [HE.out]; rfl, HB2.out⟩
        · have k2 : decide ((m : Int) < 2 * (n1 : Int)) = false := decide_eq_false (by omega)
          have HMJ3 : Hid (∀ v, v ≠ 0 → 2 * cntD d v (k + 1) ≤ m) := hid' fun v hv => by
            by_cases e : v = x
            · rw [e, HCS.out]; omega
            · exact HMJ2.out v hv e
          clear hx0 hmj
          go_wp2_with fail
          exact ⟨⟨k + 1, _, by omega, by push_cast; rfl, HCM2, HMJ3, HB2⟩, by simp only [intOf]; omega⟩
    · have e1 : decide (k < m) = false := decide_eq_false hkm
      obtain rfl : m = k := by omega
      have HE : Hid (estF d m = 0) := hid' (estF_no fun v hv => HMJ.out v hv)
      go_wp2_with fail
      go_ret
      exact ⟨by rw [HE.out]; rfl, HB.out⟩
end Go.Proofs.Ytlcgihjdafglmaa

/- ref43.Estimate. -/
namespace Go.Proofs.Ytlcgihjdafglmaa
open Go.RowKit
set_option linter.unusedVariables false
set_option maxRecDepth 100000

/-- how often each element has come among the first k values -/
def cntL (q : Nat) (d : Nat → Int) (k : Nat) : List Int := rowOf q fun v => (cntD d (v : Int) k : Int)
theorem cntL_len (q : Nat) (d : Nat → Int) (k : Nat) : (cntL q d k).length = q := rowOf_len _ _
theorem cntL_zero (q : Nat) (d : Nat → Int) : cntL q d 0 = List.replicate q 0 := by rw [← rowOf_zero]; rfl
theorem cntL_at {q : Nat} {d : Nat → Int} {k v : Nat} (h : v < q) : (cntL q d k).getD v 0 = (cntD d (v : Int) k : Int) := rowOf_getD h
theorem cntL_set {q : Nat} {d : Nat → Int} {k x : Nat} (hx : d k = (x : Int)) : (cntL q d k).set x ((cntD d (x : Int) k : Int) + 1) = cntL q d (k + 1) := by
  unfold cntL
  rw [rowOf_set]
  refine rowOf_congr fun v hv => ?_
  by_cases e : v = x
  · subst e; rw [if_pos rfl, cntD, if_pos hx]; rfl
  · rw [if_neg e, cntD, if_neg (by rw [hx]; omega)]; rfl
theorem dotL_lt {P M : Int} (ho : orderF P M ≠ 0) (Mod a b : List Int) (n : Nat) : 0 ≤ dotL (refOps P M Mod) a b n ∧ dotL (refOps P M Mod) a b n < orderF P M := by
  have := orderF_bounds P M
  cases n with
  | zero => show 0 ≤ (0 : Int) ∧ (0 : Int) < _; omega
  | succ k => exact addF_lt ho (dotL (refOps P M Mod) a b k) (mulR P M Mod (a.getD k 0) (b.getD k 0))

set_option maxHeartbeats 8000000 in
theorem rEst_any (w : World) (P M : Int) (N : Nat) (mv cv yv : Value) (Mod y : List Int) (checks : List (List Int)) (hm : SI w mv Mod) (hc : SS w cv checks) (hy : SI w yv y) (ho : orderF P M ≠ 0) (hmod : ModP P M Mod)
    (hl : ∀ k, k < checks.length → (checks.getD k []).length = N) (hyl : y.length = N) :
    Calls Try.prog 35 #[.agg #[.int .i64 P, .int .i64 M, mv], cv, yv] w (RetI w (estF (fun k => dotL (refOps P M Mod) (checks.getD k []) y N) checks.length)) := by
  have hcl := hc.len'
  have hq0 := orderF_bounds P M
  have HDOT := Lib.hid (fun (w' : World) (a : Value) (x : List Int) (hb : Below w.heap.size w w') (ha : SI w' a x) => rDot_any w' P M mv a yv Mod x y (hm.below hb (Nat.le_refl _)) ha (hy.below hb (Nat.le_refl _)) ho hmod)
  have HDL := Lib.hid (fun x => dotL_lt ho Mod x y N)
  have HORD := Lib.hid (fun (w' : World) => order_any w' P M mv)
  obtain ⟨q, hq⟩ : ∃ q : Nat, orderF P M = (q : Int) := ⟨(orderF P M).toNat, by omega⟩
  obtain ⟨d, hd⟩ : ∃ d : Nat → Int, d = fun k => dotL (refOps P M Mod) (checks.getD k []) y N := ⟨_, rfl⟩
  have HD : Hid (∀ k xs, checks.getD k [] = xs → d k = dotL (refOps P M Mod) xs y N) := hid' fun k xs h => by rw [hd]; dsimp only; rw [h]
  rw [← hd]
  rw [hq] at HDL HORD
  have hq1 : q ≤ 256 := by omega
  have HMN : Hid (∀ x : List Int, x.length = N → min x.length y.length = N) := hid' fun x h => by omega
  have HLK := Lib.hid hl; have HC := Lib.hid hc; have HY := Lib.hid hy
  have HDR : Hid (∀ k, k < checks.length → 0 ≤ d k ∧ d k < q) := hid' fun k hk => by rw [hd]; exact HDL.out _
  clear hd hq hq0 hy ho hl hm hmod hyl
  obtain ⟨CA, cc, rfl, _⟩ := hc
  obtain ⟨m, hmm⟩ : ∃ m, m = checks.length := ⟨_, rfl⟩
  rw [← hmm] at HC HDR hcl ⊢
  have HM := Lib.hid hmm; clear hmm
  have HF := Lib.hid (FBox.mk' w P M mv)
  have hmk := fun (w : World) => run_mkI q (by omega) w
  go_enter Try.func35, Try.ntmps35
  go_upto_region 1 with fail
  generalize w.alloc (.cells #[.int .i64 P, .int .i64 M, mv] 24) = w0 at *
  have c0 := HF.out.c0; have c1 := HF.out.c1; have c2 := HF.out.c2
  go_wp2_with fail
  refine (HORD.out w0).mono ?_
  rintro e w1 ⟨rfl, hb1⟩
  have HF1 := Lib.hid (HF.out.on hb1)
  clear hb1 c0 c1 c2
  have HR0 : Hid (RI (w1.alloc (.cells (madeCells #[.int .i64 0] q) 3)) w1.heap.size (cntL q d 0)) := hid' (by rw [cntL_zero]; exact RI.made w1 q)
  have HF2 := Lib.hid (HF1.out.on (bl_alloc w1 (.cells (madeCells #[.int .i64 0] q) 3)))
  have HWS : w.heap.size < w1.heap.size := HF1.out.lt
  go_wp2_with fail
  clear hmk
  obtain ⟨g, hg⟩ : ∃ g, g = w1.heap.size := ⟨_, rfl⟩
  have HGE := Lib.hid hg
  rw [← hg] at HR0 HWS ⊢
  clear hg
  go_loopw [8] (fun i wr => ∃ k : Nat, k ≤ m ∧ i = .int .i64 (k : Int) ∧ Hid (RI wr g (cntL q d k)) ∧ Hid (FBox w wr P M mv)) (fun i _ => m - (intOf i).toNat)
  case atStart => exact ⟨0, Nat.zero_le _, rfl, HR0, HF2⟩
  case round =>
    clear HR0 HF2
    obtain ⟨k, hk, rfl, HR, HF3⟩ := hrel
    by_cases hkm : k < m
    · have e1 : decide (k < m) = true := decide_eq_true hkm
      obtain ⟨ad, Ak, ck, xs, rfl, hcc, HX, HXE⟩ := (HC.out.below HF3.out.bel (Nat.le_refl _)).eltA (k := k) (by rw [← HM.out]; exact hkm)
      obtain ⟨x, hx⟩ : ∃ x : Nat, d k = (x : Int) := ⟨(d k).toNat, by have := HDR.out k hkm; omega⟩
      have hxq : x < q := by have := HDR.out k hkm; omega
      have HDX : Hid (dotL (refOps P M Mod) xs y (min xs.length y.length) = (x : Int)) := hid' (by rw [HMN.out xs (by rw [← HXE.out]; exact HLK.out k (by rw [← HM.out]; exact hkm)), ← HD.out k xs HXE.out]; exact hx)
      have hn0 := cntD_le d (x : Int) k
      have HST := Lib.hid (cntL_set (q := q) hx)
      have u0 := HR.out.cell x (by rw [cntL_len]; exact hxq)
      rw [cntL_at hxq] at u0
      obtain ⟨n0, hn⟩ : ∃ n0, n0 = cntD d (x : Int) k := ⟨_, rfl⟩
      rw [← hn] at hn0 HST u0
      clear hn hx
      have uf := HR.out.frozen x
      have c0 := HF3.out.c0; have c1 := HF3.out.c1; have c2 := HF3.out.c2
      have hw1 : IntKind.i64.wrap ((n0 : Int) + 1) = (n0 : Int) + 1 := IntWalk.i64_in _ (by omega)
      go_wp2_with fail
      refine Drawn.start (S := fun w' => w'.cell? ⟨w.heap.size, 0, none⟩ = some (.int .i64 P) ∧ w'.cell? ⟨w.heap.size, 1, none⟩ = some (.int .i64 M) ∧ w'.cell? ⟨w.heap.size, 2, none⟩ = some mv ∧ w'.cell? (ad.add k) = some (.slice Ak xs.length ck) ∧ w'.cell? ⟨g, x, none⟩ = some (.int .i64 (n0 : Int))) (by kernel_rfl) (⟨c0, c1, c2, hcc, u0⟩) (fun hHeld => ?_)
      change Drawn _ _ _ _ 13 _ _ _
      refine Drawn.take (i := 0) (v := ?_) rfl (by kernel_rfl) (by kernel_rfl) (by kernel_rfl) (by kernel_rfl) (fun _ _ _ h => h) (Or.inl ⟨by kernel_rfl, ?_⟩) hHeld ?_
      rotate_left
      · intro w' hSw; (try dsimp only at hSw); first | (go_simp; done) | (go_simp; with_reducible rfl)
      try simp only [List.getElem_toArray, List.getElem_cons_zero, List.getElem_cons_succ, Act.put, List.setIfInBounds_toArray, List.set_cons_zero, List.set_cons_succ]
      refine Drawn.take (i := 1) (v := ?_) rfl (by kernel_rfl) (by kernel_rfl) (by kernel_rfl) (by kernel_rfl) (fun _ _ _ h => h) (Or.inl ⟨by kernel_rfl, ?_⟩) hHeld ?_
      rotate_left
      · intro w' hSw; (try dsimp only at hSw); first | (go_simp; done) | (go_simp; with_reducible rfl)
      try simp only [List.getElem_toArray, List.getElem_cons_zero, List.getElem_cons_succ, Act.put, List.setIfInBounds_toArray, List.set_cons_zero, List.set_cons_succ]
      refine Drawn.take (i := 2) (v := ?_) rfl (by kernel_rfl) (by kernel_rfl) (by kernel_rfl) (by kernel_rfl) (fun _ _ _ h => h) (Or.inl ⟨by kernel_rfl, ?_⟩) hHeld ?_
      rotate_left
      · intro w' hSw; (try dsimp only at hSw); first | (go_simp; done) | (go_simp; with_reducible rfl)
      try simp only [List.getElem_toArray, List.getElem_cons_zero, List.getElem_cons_succ, Act.put, List.setIfInBounds_toArray, List.set_cons_zero, List.set_cons_succ]
      refine Drawn.take (i := 3) (v := ?_) rfl (by kernel_rfl) (by kernel_rfl) (by kernel_rfl) (by kernel_rfl) (fun _ _ _ h => h) (Or.inl ⟨by kernel_rfl, ?_⟩) hHeld ?_
      rotate_left
      · intro w' hSw; (try dsimp only at hSw); first | (go_simp; done) | (go_simp; with_reducible rfl)
      try simp only [List.getElem_toArray, List.getElem_cons_zero, List.getElem_cons_succ, Act.put, List.setIfInBounds_toArray, List.set_cons_zero, List.set_cons_succ]
      refine Drawn.take (i := 4) (v := ?_) rfl (by kernel_rfl) (by kernel_rfl) (by kernel_rfl) (by kernel_rfl) (fun _ _ _ h => h) (Or.inl ⟨by kernel_rfl, ?_⟩) hHeld ?_
      rotate_left
      · intro w' hSw; (try dsimp only at hSw); first | (go_simp; done) | (go_simp; with_reducible rfl)
      try simp only [List.getElem_toArray, List.getElem_cons_zero, List.getElem_cons_succ, Act.put, List.setIfInBounds_toArray, List.set_cons_zero, List.set_cons_succ]
      refine Drawn.take (i := 5) (v := ?_) rfl (by kernel_rfl) (by kernel_rfl) (by kernel_rfl) (by kernel_rfl) (fun _ _ _ h => h) (Or.inl ⟨by kernel_rfl, ?_⟩) hHeld ?_
      rotate_left
      · intro w' hSw; (try dsimp only at hSw); first | (go_simp; done) | (go_simp; with_reducible rfl)
      try simp only [List.getElem_toArray, List.getElem_cons_zero, List.getElem_cons_succ, Act.put, List.setIfInBounds_toArray, List.set_cons_zero, List.set_cons_succ]
      refine Drawn.take (i := 6) (v := ?_) rfl (by kernel_rfl) (by kernel_rfl) (by kernel_rfl) (by kernel_rfl) (fun _ _ _ h => h) (Or.inl ⟨by kernel_rfl, ?_⟩) hHeld ?_
      rotate_left
      · intro w' hSw; (try dsimp only at hSw); first | (go_simp; done) | (go_simp; with_reducible rfl)
      try simp only [List.getElem_toArray, List.getElem_cons_zero, List.getElem_cons_succ, Act.put, List.setIfInBounds_toArray, List.set_cons_zero, List.set_cons_succ]
      refine Drawn.only (i := 7) (by kernel_rfl) rfl (fun K hK => ?_)
      go_simp
      refine (HDOT.out _ _ xs (bl_trans HF3.out.bel (bl_drew wr)) (HX.out.si.below (bl_drew wr) (Nat.le_refl _))).mono ?_; rintro e w3 ⟨rfl, hb⟩; rw [HDX.out]; have hb := bl_trans (bl_drew wr) hb; have HF4 := Lib.hid (HF3.out.on hb); have HR4 := Lib.hid (HR.out.belowS hb); have u4 := cell_below hb u0; have hc4 := cell_below hb hcc; have uf4 := HR4.out.frozen x; clear hb
      refine hK.out _ _ (fun _ => ⟨HF4.out.c0, HF4.out.c1, HF4.out.c2, hc4, u4⟩) (fun hHeld2 => ?_)
      clear hK K
      replace hHeld := hHeld2 (by decide)
      clear hHeld2
      try simp only [List.getElem_toArray, List.getElem_cons_zero, List.getElem_cons_succ, Act.put, List.setIfInBounds_toArray, List.set_cons_zero, List.set_cons_succ]
      refine Drawn.take (i := 8) (v := ?_) rfl (by kernel_rfl) (by kernel_rfl) (by kernel_rfl) (by kernel_rfl) (fun _ _ _ h => h) (Or.inl ⟨by kernel_rfl, ?_⟩) hHeld ?_
      rotate_left
      · intro w' hSw; (try dsimp only at hSw); first | (go_simp; done) | (go_simp; with_reducible rfl)
      try simp only [List.getElem_toArray, List.getElem_cons_zero, List.getElem_cons_succ, Act.put, List.setIfInBounds_toArray, List.set_cons_zero, List.set_cons_succ]
      refine Drawn.take (i := 9) (v := ?_) rfl (by kernel_rfl) (by kernel_rfl) (by kernel_rfl) (by kernel_rfl) (fun _ _ _ h => h) (Or.inl ⟨by kernel_rfl, ?_⟩) hHeld ?_
      rotate_left
      · intro w' hSw; (try dsimp only at hSw); first | (go_simp; done) | (go_simp; with_reducible rfl)
      try simp only [List.getElem_toArray, List.getElem_cons_zero, List.getElem_cons_succ, Act.put, List.setIfInBounds_toArray, List.set_cons_zero, List.set_cons_succ]
      refine Drawn.take (i := 10) (v := ?_) rfl (by kernel_rfl) (by kernel_rfl) (by kernel_rfl) (by kernel_rfl) (fun _ _ _ h => h) (Or.inl ⟨by kernel_rfl, ?_⟩) hHeld ?_
      rotate_left
      · intro w' hSw; (try dsimp only at hSw); first | (go_simp; done) | (go_simp; with_reducible rfl)
      try simp only [List.getElem_toArray, List.getElem_cons_zero, List.getElem_cons_succ, Act.put, List.setIfInBounds_toArray, List.set_cons_zero, List.set_cons_succ]
      refine Drawn.take (i := 11) (v := ?_) rfl (by kernel_rfl) (by kernel_rfl) (by kernel_rfl) (by kernel_rfl) (fun _ _ _ h => h) (Or.inl ⟨by kernel_rfl, ?_⟩) hHeld ?_
      rotate_left
      · intro w' hSw; (try dsimp only at hSw); first | (go_simp; done) | (go_simp; with_reducible rfl)
      try simp only [List.getElem_toArray, List.getElem_cons_zero, List.getElem_cons_succ, Act.put, List.setIfInBounds_toArray, List.set_cons_zero, List.set_cons_succ]
      refine Drawn.only (i := 12) (by kernel_rfl) rfl (fun K hK => ?_)
      go_simp
      refine hK.out _ _ (fun h => absurd rfl h) (fun hHeld2 => ?_)
      clear hK K
      clear hHeld2
      refine Drawn.done (by kernel_rfl) ?_
      try simp only [List.getElem_toArray, List.getElem_cons_zero, List.getElem_cons_succ, Act.put, List.setIfInBounds_toArray, List.set_cons_zero, List.set_cons_succ]
      clear hHeld
      clear c0 c1 c2 hcc u0
      have HR5 := Lib.hid (HR4.out.set x ((n0 : Int) + 1))
      rw [HST.out] at HR5
      have HF5 := Lib.hid (HF4.out.far (g := g) (k := x) (by omega) (.int .i64 ((n0 : Int) + 1)))
      go_wp2_with fail
      exact ⟨⟨k + 1, by omega, by push_cast; rfl, HR5, HF5⟩, by simp only [intOf]; omega⟩
    · have e1 : decide (k < m) = false := decide_eq_false hkm
      obtain rfl : m = k := by omega
      have HBr := Lib.hid HF3.out.bel
      have HDR2 := HDR
      clear HF3
      go_wp2_with fail
      go_loopw [9] (fun i wr => ∃ v : Nat, 1 ≤ v ∧ (v ≤ q ∨ v = 1) ∧ i = .int .i64 (v : Int) ∧ Hid (∀ u : Nat, 1 ≤ u → u < v → 2 * cntD d (u : Int) m ≤ m) ∧ Hid (RI wr g (cntL q d m)) ∧ Hid (Below w.heap.size w wr)) (fun i _ => q - (intOf i).toNat)
      case atStart => exact ⟨1, Nat.le_refl _, .inr rfl, rfl, fun u h1 h2 => absurd h2 (by omega), HR, HBr⟩
      case round =>
        clear HR HBr
        obtain ⟨v, hv1, hv2, rfl, HMJ, HR, HB⟩ := hrel
        by_cases hvq : v < q
        · have e1 : decide (v < q) = true := decide_eq_true hvq
          have u0 := HR.out.cell v (by rw [cntL_len]; exact hvq)
          rw [cntL_at hvq] at u0
          have hn0 := cntD_le d (v : Int) m
          have HY2 : Hid (m < 2 * cntD d (v : Int) m → estF d m = (v : Int)) := hid' fun h => estF_yes (by omega) h
          obtain ⟨n0, hn⟩ : ∃ n0, n0 = cntD d (v : Int) m := ⟨_, rfl⟩
          rw [← hn] at hn0 HY2 u0
          have HN := Lib.hid hn
          clear hn
          have hw1 : wrap64 (2 * (n0 : Int)) = 2 * (n0 : Int) := by unfold wrap64; omega
          by_cases hmj : m < 2 * n0
          · have e2 : decide ((m : Int) < 2 * (n0 : Int)) = true := decide_eq_true (by omega)
            have HE := Lib.hid (HY2.out hmj)
            go_wp2_with fail
            go_ret
            exact ⟨by rw [HE.out]; rfl, HB.out⟩
          · have e2 : decide ((m : Int) < 2 * (n0 : Int)) = false := decide_eq_false (by omega)
            have HMJ2 : Hid (∀ u : Nat, 1 ≤ u → u < v + 1 → 2 * cntD d (u : Int) m ≤ m) := hid' fun u h1 h2 => by
              by_cases e : u = v
              · subst e; rw [← HN.out]; omega
              · exact HMJ.out u h1 (by omega)
            clear hmj
            go_wp2_with fail
            exact ⟨⟨v + 1, by omega, .inl (by omega), by push_cast; rfl, HMJ2, HR, HB⟩, by simp only [intOf]; omega⟩
        · have e1 : decide (v < q) = false := decide_eq_false hvq
          have HE : Hid (estF d m = 0) := hid' (estF_no fun u hu => by
            by_cases h1 : 1 ≤ u ∧ u < q
            · obtain ⟨n, rfl⟩ : ∃ n : Nat, u = (n : Int) := ⟨u.toNat, by omega⟩
              exact HMJ.out n (by omega) (by omega)
            · rw [cntD_none fun k hk => by have := HDR2.out k hk; omega]; omega)
          go_wp2_with fail
          go_ret
          exact ⟨by rw [HE.out]; rfl, HB.out⟩
end Go.Proofs.Ytlcgihjdafglmaa

/- majority.Estimate, ref43.Args. -/
namespace Go.Proofs.Ytlcgihjdafglmaa
open Go.RowKit
set_option linter.unusedVariables false
set_option maxRecDepth 100000

/-- the error of the arguments of Estimate -/
noncomputable def argsV (P M : Int) (Mod : List Int) (n : Int) (gen : List (List Int)) (i : Int) (K : List (List Int)) (y : List Int) : Int :=
  if codeE P M Mod n gen ≠ 0 then codeE P M Mod n gen else if i < 0 ∨ n ≤ i then 6 else if listF (orderF P M) y n ≠ 0 then listF (orderF P M) y n else orthE P M Mod n gen i K
noncomputable def estV (P M : Int) (Mod : List Int) (n : Int) (gen : List (List Int)) (i : Int) (K : List (List Int)) (y : List Int) : Int :=
  if argsV P M Mod n gen i K y = 0 then estF (fun k => dotL (refOps P M Mod) (K.getD k []) y n.toNat) K.length else 0
section
variable {P M : Int} {Mod : List Int} {n : Int} {gen : List (List Int)} {i : Int} {K : List (List Int)} {y : List Int}
theorem argsV_code (h : codeE P M Mod n gen ≠ 0) : argsV P M Mod n gen i K y = codeE P M Mod n gen := by unfold argsV; rw [if_pos h]
theorem argsV_rng (h : codeE P M Mod n gen = 0) (h2 : i < 0 ∨ n ≤ i) : argsV P M Mod n gen i K y = 6 := by unfold argsV; rw [if_neg (by simp [h]), if_pos h2]
theorem argsV_list (h : codeE P M Mod n gen = 0) (h2 : ¬ (i < 0 ∨ n ≤ i)) (h3 : listF (orderF P M) y n ≠ 0) : argsV P M Mod n gen i K y = listF (orderF P M) y n := by unfold argsV; rw [if_neg (by simp [h]), if_neg h2, if_pos h3]
theorem argsV_orth (h : codeE P M Mod n gen = 0) (h2 : ¬ (i < 0 ∨ n ≤ i)) (h3 : listF (orderF P M) y n = 0) : argsV P M Mod n gen i K y = orthE P M Mod n gen i K := by unfold argsV; rw [if_neg (by simp [h]), if_neg h2, if_neg (by simp [h3])]
theorem estV_no (h : argsV P M Mod n gen i K y ≠ 0) : estV P M Mod n gen i K y = 0 := by unfold estV; rw [if_neg h]
theorem argsV_zero (h : argsV P M Mod n gen i K y = 0) : codeE P M Mod n gen = 0 ∧ ¬ (i < 0 ∨ n ≤ i) ∧ listF (orderF P M) y n = 0 ∧ orthE P M Mod n gen i K = 0 := by
  have h1 : codeE P M Mod n gen = 0 := Decidable.byContradiction fun h1 => h1 ((argsV_code h1).symm.trans h)
  have h2 : ¬ (i < 0 ∨ n ≤ i) := fun h2 => by rw [argsV_rng h1 h2] at h; cases h
  have h3 : listF (orderF P M) y n = 0 := Decidable.byContradiction fun h3 => h3 ((argsV_list (K := K) h1 h2 h3).symm.trans h)
  exact ⟨h1, h2, h3, (argsV_orth h1 h2 h3).symm.trans h⟩
theorem estV_ok (h : argsV P M Mod n gen i K y = 0) : estV P M Mod n gen i K y = estF (fun k => dotL (refOps P M Mod) y (K.getD k []) y.length) K.length := by
  obtain ⟨h1, _, h3, _⟩ := argsV_zero h
  have hO := ref_fld (codeE_zero h1).1
  have hl := (listF_zero h3).1
  unfold estV
  rw [if_pos h]
  refine estF_congr fun k hk => ?_
  rw [show n.toNat = y.length by omega]
  unfold dotL
  exact sumTo_congr fun j hj => hO.mul_comm _ _
end

set_option maxHeartbeats 8000000 in
theorem rArgs_any (w : World) (P M n i : Int) (mv gv cv yv : Value) (Mod y : List Int) (gen checks : List (List Int)) (hm : SI w mv Mod) (hg : SS w gv gen) (hc : SS w cv checks) (hy : SI w yv y) :
    Calls Try.prog 34 #[.agg #[.int .i64 P, .int .i64 M, mv, .int .i64 n, gv], .int .i64 i, cv, yv] w (RetI w (argsV P M Mod n gen i checks y)) := by
  have HCK := Lib.hid (fun (w' : World) (hb : Below w.heap.size w w') => rCCheck_any w' P M n mv gv Mod gen (hm.below hb (Nat.le_refl _)) (hg.below hb (Nat.le_refl _)))
  have HLI := Lib.hid (fun (w' : World) (hb : Below w.heap.size w w') => list_any w' P M n mv yv y (hy.below hb (Nat.le_refl _)))
  have HOR := Lib.hid (fun (w' : World) (hb : Below w.heap.size w w') => rOrth_any w' P M n i mv gv cv Mod gen checks (hm.below hb (Nat.le_refl _)) (hg.below hb (Nat.le_refl _)) (hc.below hb (Nat.le_refl _)))
  have H1 : Hid (codeE P M Mod n gen ≠ 0 → argsV P M Mod n gen i checks y = codeE P M Mod n gen) := hid' argsV_code
  have H2 : Hid (codeE P M Mod n gen = 0 → (i < 0 ∨ n ≤ i) → argsV P M Mod n gen i checks y = 6) := hid' argsV_rng
  have H3 : Hid (codeE P M Mod n gen = 0 → ¬ (i < 0 ∨ n ≤ i) → listF (orderF P M) y n ≠ 0 → argsV P M Mod n gen i checks y = listF (orderF P M) y n) := hid' argsV_list
  have H4 : Hid (codeE P M Mod n gen = 0 → ¬ (i < 0 ∨ n ≤ i) → listF (orderF P M) y n = 0 → argsV P M Mod n gen i checks y = orthE P M Mod n gen i checks) := hid' argsV_orth
  generalize codeE P M Mod n gen = ce at *
  generalize listF (orderF P M) y n = le at *
  generalize orthE P M Mod n gen i checks = oe at *
  generalize argsV P M Mod n gen i checks y = er at *
  clear hm hg hc hy
  have HF := Lib.hid (CBox.mk' w P M mv n gv)
  go_enter Try.func34, Try.ntmps34
  go_upto_region 1 with fail
  generalize w.alloc (.cells #[.int .i64 P, .int .i64 M, mv, .int .i64 n, gv] 27) = w0 at *
  have c0 := HF.out.c0; have c1 := HF.out.c1; have c2 := HF.out.c2; have c3 := HF.out.c3; have c4 := HF.out.c4
  go_wp2_with fail
  refine (HCK.out w0 HF.out.bel).mono ?_
  rintro e w1 ⟨rfl, hb1⟩
  have HF1 := Lib.hid (HF.out.on hb1)
  clear hb1 c0 c1 c2 c3 c4
  by_cases hce : ce = 0
  case neg =>
    have k1 : (ce != 0) = true := by rw [bne_iff_ne]; exact hce
    have HE := Lib.hid (H1.out hce)
    clear hce
    go_wp2_with fail
    go_ret
    exact ⟨by rw [HE.out]; rfl, HF1.out.bel⟩
  have k1 : (ce != 0) = false := by rw [bne_eq_false_iff_eq]; exact hce
  have c3 := HF1.out.c3
  by_cases h0 : i < 0
  · have HE := Lib.hid (H2.out hce (.inl h0))
    clear hce
    go_wp2_with fail
    go_ret
    exact ⟨by rw [HE.out]; rfl, HF1.out.bel⟩
  by_cases h1 : n ≤ i
  · have HE := Lib.hid (H2.out hce (.inr h1))
    clear hce
    go_wp2_with fail
    go_ret
    exact ⟨by rw [HE.out]; rfl, HF1.out.bel⟩
  have HNR : Hid (¬ (i < 0 ∨ n ≤ i)) := hid' (by omega)
  have HCE := Lib.hid hce
  clear hce
  have c0 := HF1.out.c0; have c1 := HF1.out.c1; have c2 := HF1.out.c2
  go_wp2_with fail
  refine (HLI.out w1 HF1.out.bel).mono ?_
  rintro e w2 ⟨rfl, hb2⟩
  have HF2 := Lib.hid (HF1.out.on hb2)
  clear hb2 c0 c1 c2 c3
  by_cases hle : le = 0
  case neg =>
    have k2 : (le != 0) = true := by rw [bne_iff_ne]; exact hle
    have HE := Lib.hid (H3.out HCE.out HNR.out hle)
    clear hle
    go_wp2_with fail
    go_ret
    exact ⟨by rw [HE.out]; rfl, HF2.out.bel⟩
  have k2 : (le != 0) = false := by rw [bne_eq_false_iff_eq]; exact hle
  have HE := Lib.hid (H4.out HCE.out HNR.out hle)
  clear hle
  have c0 := HF2.out.c0; have c1 := HF2.out.c1; have c2 := HF2.out.c2; have c3 := HF2.out.c3; have c4 := HF2.out.c4
  go_wp2_with fail
  refine (HOR.out w2 HF2.out.bel).mono ?_
  rintro e w3 ⟨rfl, hb3⟩
  have HF3 := Lib.hid (HF2.out.on hb3)
  clear hb3 c0 c1 c2 c3 c4
  go_wp2_with fail
  go_ret
  exact ⟨by rw [HE.out]; rfl, HF3.out.bel⟩

set_option maxHeartbeats 8000000 in
theorem mEst_any (w : World) (P M n i : Int) (mv gv cv yv : Value) (Mod y : List Int) (gen checks : List (List Int)) (hm : SI w mv Mod) (hg : SS w gv gen) (hc : SS w cv checks) (hy : SI w yv y) :
    Calls Try.prog 33 #[.agg #[.int .i64 P, .int .i64 M, mv, .int .i64 n, gv], .int .i64 i, cv, yv] w (RetIE w (estV P M Mod n gen i checks y) (argsV P M Mod n gen i checks y)) := by
  have HCK := Lib.hid (fun (w' : World) (hb : Below w.heap.size w w') => cCheck_any w' P M n mv gv Mod gen (hm.below hb (Nat.le_refl _)) (hg.below hb (Nat.le_refl _)))
  have HHA := Lib.hid (fun (w' : World) (hb : Below w.heap.size w w') => cHas_any w' P M n mv gv yv Mod y gen (hm.below hb (Nat.le_refl _)) (hg.below hb (Nat.le_refl _)) (hy.below hb (Nat.le_refl _)))
  have HOR := Lib.hid (fun (w' : World) (hb : Below w.heap.size w w') => mOrth_any w' P M n i mv gv cv Mod gen checks (hm.below hb (Nat.le_refl _)) (hg.below hb (Nat.le_refl _)) (hc.below hb (Nat.le_refl _)))
  have HWE : Hid (codeE P M Mod n gen = 0 → wordE P M Mod n gen y = listF (orderF P M) y n) := hid' fun h => by unfold wordE; rw [if_pos h]
  have HNW := Lib.hid (fun (hz : codeE P M Mod n gen = 0) (w' : World) (hb : Below w.heap.size w w') => new_ok w' P M mv Mod (hm.below hb (Nat.le_refl _)) (codeE_zero hz).1)
  have HES := Lib.hid (fun (hz : argsV P M Mod n gen i checks y = 0) (w' : World) (g : Nat) (hb : Below w.heap.size w w') (hG : GF w' g P M Mod) => est_any w' g P M cv yv Mod y checks hG (hc.below hb (Nat.le_refl _)) (hy.below hb (Nat.le_refl _)) (fun k hk => by
    obtain ⟨z1, z2, z3, z4⟩ := argsV_zero hz
    have h1 := (orthE_zero z4).2.2.2.len k hk
    have h2 := (listF_zero z3).1
    omega))
  have HVO : Hid (argsV P M Mod n gen i checks y = 0 → estV P M Mod n gen i checks y = estF (fun k => dotL (refOps P M Mod) y (checks.getD k []) y.length) checks.length) := hid' estV_ok
  have HVN : Hid (argsV P M Mod n gen i checks y ≠ 0 → estV P M Mod n gen i checks y = 0) := hid' estV_no
  have H1 : Hid (codeE P M Mod n gen ≠ 0 → argsV P M Mod n gen i checks y = codeE P M Mod n gen) := hid' argsV_code
  have H2 : Hid (codeE P M Mod n gen = 0 → (i < 0 ∨ n ≤ i) → argsV P M Mod n gen i checks y = 6) := hid' argsV_rng
  have H3 : Hid (codeE P M Mod n gen = 0 → ¬ (i < 0 ∨ n ≤ i) → listF (orderF P M) y n ≠ 0 → argsV P M Mod n gen i checks y = listF (orderF P M) y n) := hid' argsV_list
  have H4 : Hid (codeE P M Mod n gen = 0 → ¬ (i < 0 ∨ n ≤ i) → listF (orderF P M) y n = 0 → argsV P M Mod n gen i checks y = orthE P M Mod n gen i checks) := hid' argsV_orth
  generalize estF (fun k => dotL (refOps P M Mod) y (checks.getD k []) y.length) checks.length = ev at *
  generalize codeE P M Mod n gen = ce at *
  generalize wordE P M Mod n gen y = we at *
  generalize hasB P M Mod n gen y = hB at *
  generalize listF (orderF P M) y n = le at *
  generalize orthE P M Mod n gen i checks = oe at *
  generalize argsV P M Mod n gen i checks y = er at *
  generalize estV P M Mod n gen i checks y = ez at *
  clear hm hg hc hy
  have HF := Lib.hid (CBox.mk' w P M mv n gv)
  go_enter Try.func33, Try.ntmps33
  go_upto_region 1 with fail
  generalize w.alloc (.cells #[.int .i64 P, .int .i64 M, mv, .int .i64 n, gv] 27) = w0 at *
  have c0 := HF.out.c0; have c1 := HF.out.c1; have c2 := HF.out.c2; have c3 := HF.out.c3; have c4 := HF.out.c4
  go_wp2_with fail
  refine (HCK.out w0 HF.out.bel).mono ?_
  rintro e w1 ⟨rfl, hb1⟩
  have HF1 := Lib.hid (HF.out.on hb1)
  clear hb1 c0 c1 c2 c3 c4
  by_cases hce : ce = 0
  case neg =>
    have k1 : (ce != 0) = true := by rw [bne_iff_ne]; exact hce
    have HE := Lib.hid (H1.out hce)
    have HV := Lib.hid (HVN.out (by rw [HE.out]; exact hce))
    clear hce
    go_wp2_with fail
    go_ret2
    exact ⟨by rw [HE.out, HV.out]; rfl, HF1.out.bel⟩
  have k1 : (ce != 0) = false := by rw [bne_eq_false_iff_eq]; exact hce
  have c3 := HF1.out.c3
  by_cases h0 : i < 0
  · have HE := Lib.hid (H2.out hce (.inl h0))
    have HV := Lib.hid (HVN.out (by rw [HE.out]; decide))
    clear hce
    go_wp2_with fail
    go_ret2
    exact ⟨by rw [HE.out, HV.out]; rfl, HF1.out.bel⟩
  by_cases h1 : n ≤ i
  · have HE := Lib.hid (H2.out hce (.inr h1))
    have HV := Lib.hid (HVN.out (by rw [HE.out]; decide))
    clear hce
    go_wp2_with fail
    go_ret2
    exact ⟨by rw [HE.out, HV.out]; rfl, HF1.out.bel⟩
  have HNR : Hid (¬ (i < 0 ∨ n ≤ i)) := hid' (by omega)
  have HCE := Lib.hid hce
  clear hce
  have c0 := HF1.out.c0; have c1 := HF1.out.c1; have c2 := HF1.out.c2; have c4 := HF1.out.c4
  have HWL := Lib.hid (HWE.out HCE.out)
  go_wp2_with fail
  refine (HHA.out w1 HF1.out.bel).mono ?_
  rintro e w2 ⟨rfl, hb2⟩
  rw [HWL.out]
  have HF2 := Lib.hid (HF1.out.on hb2)
  clear hb2 c0 c1 c2 c3 c4
  by_cases hle : le = 0
  case neg =>
    have k2 : (le != 0) = true := by rw [bne_iff_ne]; exact hle
    have HE := Lib.hid (H3.out HCE.out HNR.out hle)
    have HV := Lib.hid (HVN.out (by rw [HE.out]; exact hle))
    clear hle
    go_wp2_with fail
    go_ret2
    exact ⟨by rw [HE.out, HV.out]; rfl, HF2.out.bel⟩
  have k2 : (le != 0) = false := by rw [bne_eq_false_iff_eq]; exact hle
  have HE := Lib.hid (H4.out HCE.out HNR.out hle)
  clear hle
  have c0 := HF2.out.c0; have c1 := HF2.out.c1; have c2 := HF2.out.c2; have c3 := HF2.out.c3; have c4 := HF2.out.c4
  go_wp2_with fail
  refine (HOR.out w2 HF2.out.bel).mono ?_
  rintro e w3 ⟨rfl, hb3⟩
  have HF3 := Lib.hid (HF2.out.on hb3)
  clear hb3 c0 c1 c2 c3 c4
  by_cases hoe : oe = 0
  case neg =>
    have k3 : (oe != 0) = true := by rw [bne_iff_ne]; exact hoe
    have HV := Lib.hid (HVN.out (by rw [HE.out]; exact hoe))
    clear hoe
    go_wp2_with fail
    go_ret2
    exact ⟨by rw [HE.out, HV.out]; rfl, HF3.out.bel⟩
  have k3 : (oe != 0) = false := by rw [bne_eq_false_iff_eq]; exact hoe
  have HER : Hid (er = 0) := hid' (HE.out.trans hoe)
  have HV := Lib.hid (HVO.out HER.out)
  clear hoe
  have c0 := HF3.out.c0; have c1 := HF3.out.c1; have c2 := HF3.out.c2
  go_wp2_with fail
  refine (HNW.out HCE.out w3 HF3.out.bel).mono ?_
  rintro e w4 ⟨a, rfl, hG, hb4⟩
  have HG := Lib.hid hG.out
  have HB4 := Lib.hid (bl_trans HF3.out.bel hb4)
  clear hG hb4 c0 c1 c2
  go_wp2_with fail
  refine (HES.out HER.out w4 a HB4.out HG.out).mono ?_
  rintro e w5 ⟨rfl, hb5⟩
  have HB5 := Lib.hid (bl_trans HB4.out hb5)
  clear hb5
  go_wp2_with fail
  go_ret2
  exact ⟨by rw [HER.out, HV.out]; rfl, HB5.out⟩
end Go.Proofs.Ytlcgihjdafglmaa

/- The law MajorityEstimates returns true for every input. Printed by a program (gen_lest.py). -/
namespace Go.Proofs.Ytlcgihjdafglmaa
open Go.RowKit
set_option linter.unusedVariables false
set_option maxRecDepth 100000

set_option maxHeartbeats 16000000 in
theorem lawEst (w : World) {v : Value} (hv : ∃ P M mv Mod n gv gen lv checks sv msg yv y i, v = .agg #[.int .i64 P, .int .i64 M, mv, .int .i64 n, gv, lv, sv, yv, .int .i64 i] ∧ I64 n ∧ I64 i ∧ SI w mv Mod ∧ SS w gv gen ∧ SL w lv checks ∧ SI w sv msg ∧ SI w yv y) :
    Calls Try.prog 10 #[v] w (RetB w true) := by
  obtain ⟨P, M, mv, Mod, n, gv, gen, lv, checks, sv, msg, yv, y, i, rfl, _, _, hm, hg, hL, hs, hy⟩ := hv
  have HM := Lib.hid hm; have HG := Lib.hid hg; have HL := Lib.hid hL; have HS := Lib.hid hs; have HY := Lib.hid hy
  clear hs hy hm hg hL
  have HT0 : Hid (Blk (w.alloc (.cells #[.int .i64 P, .int .i64 M, mv, .int .i64 n, gv, lv, sv, yv, .int .i64 i] 49)) w.heap.size 49 [.int .i64 P, .int .i64 M, mv, .int .i64 n, gv, lv, sv, yv, .int .i64 i]) := Blk.new w _ [.int .i64 P, .int .i64 M, mv, .int .i64 n, gv, lv, sv, yv, .int .i64 i]
  have HB0 := Lib.hid (bl_alloc w (.cells #[.int .i64 P, .int .i64 M, mv, .int .i64 n, gv, lv, sv, yv, .int .i64 i] 49))
  obtain ⟨K, hK⟩ : ∃ K, K = pickK i checks := ⟨_, rfl⟩
  have HK := Lib.hid hK; clear hK
  obtain ⟨X, hX⟩ : ∃ X, X = argsV P M Mod n gen i K y := ⟨_, rfl⟩
  have HX := Lib.hid hX; clear hX
  obtain ⟨V, hV⟩ : ∃ V, V = estV P M Mod n gen i K y := ⟨_, rfl⟩
  have HV := Lib.hid hV; clear hV
  have HES := Lib.hid (fun (hz : X = 0) (w' : World) (u : Value) (hm' : SI w' mv Mod) (hu : SS w' u K) (hy' : SI w' yv y) => rEst_any w' P M n.toNat mv u yv Mod y K hm' hu hy' (codeE_zero (argsV_zero (HX.out.symm.trans hz)).1).1.1 (codeE_zero (argsV_zero (HX.out.symm.trans hz)).1).1.2.2.1
    (orthE_zero (argsV_zero (HX.out.symm.trans hz)).2.2.2).2.2.2.len (by have := (listF_zero (argsV_zero (HX.out.symm.trans hz)).2.2.1).1; omega))
  have HVE : Hid (X = 0 → V = estF (fun k => dotL (refOps P M Mod) (K.getD k []) y n.toNat) K.length) := hid' fun hz => by rw [HV.out]; unfold estV; rw [if_pos (HX.out.symm.trans hz)]
  have HVN : Hid (X ≠ 0 → V = 0) := hid' fun hz => by rw [HV.out]; exact estV_no (fun h => hz (HX.out.trans h))
  have hxx : (X != X) = false := by simp
  go_enter Try.func10, Try.ntmps10
  go_upto_region 1 with fail
  generalize w.alloc (.cells #[.int .i64 P, .int .i64 M, mv, .int .i64 n, gv, lv, sv, yv, .int .i64 i] 49) = w0 at *
  have c0 : w0.cell? ⟨w.heap.size, 0, none⟩ = some (.int .i64 P) := HT0.out.cell 0
  have c1 : w0.cell? ⟨w.heap.size, 1, none⟩ = some (.int .i64 M) := HT0.out.cell 1
  have c2 : w0.cell? ⟨w.heap.size, 2, none⟩ = some (mv) := HT0.out.cell 2
  have c3 : w0.cell? ⟨w.heap.size, 3, none⟩ = some (.int .i64 n) := HT0.out.cell 3
  have c4 : w0.cell? ⟨w.heap.size, 4, none⟩ = some (gv) := HT0.out.cell 4
  have c5 : w0.cell? ⟨w.heap.size, 5, none⟩ = some (lv) := HT0.out.cell 5
  have c6 : w0.cell? ⟨w.heap.size, 6, none⟩ = some (sv) := HT0.out.cell 6
  have c7 : w0.cell? ⟨w.heap.size, 7, none⟩ = some (yv) := HT0.out.cell 7
  have c8 : w0.cell? ⟨w.heap.size, 8, none⟩ = some (.int .i64 i) := HT0.out.cell 8
  go_wp2_with fail
  refine (few43_any _ P M n i mv gv lv sv yv checks (HL.out.below HB0.out (Nat.le_refl _))).mono ?_
  rintro e w1 ⟨b, rfl, hb⟩
  have HT1 := Lib.hid (HT0.out.belowS hb); have HB1 := Lib.hid (bl_trans HB0.out hb)
  clear hb c0 c1 c2 c3 c4 c5 c6 c7 c8
  cases b
  · go_wp2_with fail
    refine (alive43_any _).mono ?_
    rintro e w2 ⟨rfl, hb⟩
    have HB2 := Lib.hid (bl_trans HB1.out hb)
    clear hb
    go_wp2_with fail
    go_ret
    exact ⟨rfl, HB2.out⟩
  have c0 : w1.cell? ⟨w.heap.size, 0, none⟩ = some (.int .i64 P) := HT1.out.cell 0
  have c1 : w1.cell? ⟨w.heap.size, 1, none⟩ = some (.int .i64 M) := HT1.out.cell 1
  have c2 : w1.cell? ⟨w.heap.size, 2, none⟩ = some (mv) := HT1.out.cell 2
  have c3 : w1.cell? ⟨w.heap.size, 3, none⟩ = some (.int .i64 n) := HT1.out.cell 3
  have c4 : w1.cell? ⟨w.heap.size, 4, none⟩ = some (gv) := HT1.out.cell 4
  have c5 : w1.cell? ⟨w.heap.size, 5, none⟩ = some (lv) := HT1.out.cell 5
  have c6 : w1.cell? ⟨w.heap.size, 6, none⟩ = some (sv) := HT1.out.cell 6
  have c7 : w1.cell? ⟨w.heap.size, 7, none⟩ = some (yv) := HT1.out.cell 7
  have c8 : w1.cell? ⟨w.heap.size, 8, none⟩ = some (.int .i64 i) := HT1.out.cell 8
  go_upto_region 3 with fail
  refine Kept.start (S := fun w' => w'.cell? ⟨w.heap.size, 0, none⟩ = some (.int .i64 P) ∧ w'.cell? ⟨w.heap.size, 1, none⟩ = some (.int .i64 M) ∧ w'.cell? ⟨w.heap.size, 2, none⟩ = some (mv) ∧ w'.cell? ⟨w.heap.size, 3, none⟩ = some (.int .i64 n) ∧ w'.cell? ⟨w.heap.size, 4, none⟩ = some (gv) ∧ w'.cell? ⟨w.heap.size, 5, none⟩ = some (lv) ∧ w'.cell? ⟨w.heap.size, 6, none⟩ = some (sv) ∧ w'.cell? ⟨w.heap.size, 7, none⟩ = some (yv) ∧ w'.cell? ⟨w.heap.size, 8, none⟩ = some (.int .i64 i)) (by kernel_rfl) (⟨c0, c1, c2, c3, c4, c5, c6, c7, c8⟩) (fun hHeld => ?_)
  change Kept _ _ _ _ 14 _ _ _
  refine Kept.take (i := 0) (v := ?_) rfl (by kernel_rfl) (by kernel_rfl) (by kernel_rfl) (fun _ _ _ h => h) (Or.inl ⟨by kernel_rfl, ?_⟩) hHeld ?_
  rotate_left
  · intro w' hSw; (try dsimp only at hSw); first | (go_simp; done) | (go_simp; with_reducible rfl)
  try simp only [List.getElem_toArray, List.getElem_cons_zero, List.getElem_cons_succ, Act.put, List.setIfInBounds_toArray, List.set_cons_zero, List.set_cons_succ]
  refine Kept.take (i := 1) (v := ?_) rfl (by kernel_rfl) (by kernel_rfl) (by kernel_rfl) (fun _ _ _ h => h) (Or.inl ⟨by kernel_rfl, ?_⟩) hHeld ?_
  rotate_left
  · intro w' hSw; (try dsimp only at hSw); first | (go_simp; done) | (go_simp; with_reducible rfl)
  try simp only [List.getElem_toArray, List.getElem_cons_zero, List.getElem_cons_succ, Act.put, List.setIfInBounds_toArray, List.set_cons_zero, List.set_cons_succ]
  refine Kept.take (i := 2) (v := ?_) rfl (by kernel_rfl) (by kernel_rfl) (by kernel_rfl) (fun _ _ _ h => h) (Or.inl ⟨by kernel_rfl, ?_⟩) hHeld ?_
  rotate_left
  · intro w' hSw; (try dsimp only at hSw); first | (go_simp; done) | (go_simp; with_reducible rfl)
  try simp only [List.getElem_toArray, List.getElem_cons_zero, List.getElem_cons_succ, Act.put, List.setIfInBounds_toArray, List.set_cons_zero, List.set_cons_succ]
  refine Kept.take (i := 3) (v := ?_) rfl (by kernel_rfl) (by kernel_rfl) (by kernel_rfl) (fun _ _ _ h => h) (Or.inl ⟨by kernel_rfl, ?_⟩) hHeld ?_
  rotate_left
  · intro w' hSw; (try dsimp only at hSw); first | (go_simp; done) | (go_simp; with_reducible rfl)
  try simp only [List.getElem_toArray, List.getElem_cons_zero, List.getElem_cons_succ, Act.put, List.setIfInBounds_toArray, List.set_cons_zero, List.set_cons_succ]
  refine Kept.take (i := 4) (v := ?_) rfl (by kernel_rfl) (by kernel_rfl) (by kernel_rfl) (fun _ _ _ h => h) (Or.inl ⟨by kernel_rfl, ?_⟩) hHeld ?_
  rotate_left
  · intro w' hSw; (try dsimp only at hSw); first | (go_simp; done) | (go_simp; with_reducible rfl)
  try simp only [List.getElem_toArray, List.getElem_cons_zero, List.getElem_cons_succ, Act.put, List.setIfInBounds_toArray, List.set_cons_zero, List.set_cons_succ]
  refine Kept.take (i := 6) (v := ?_) rfl (by kernel_rfl) (by kernel_rfl) (by kernel_rfl) (fun _ _ _ h => h) (Or.inl ⟨by kernel_rfl, ?_⟩) hHeld ?_
  rotate_left
  · intro w' hSw; (try dsimp only at hSw); first | (go_simp; done) | (go_simp; with_reducible rfl)
  try simp only [List.getElem_toArray, List.getElem_cons_zero, List.getElem_cons_succ, Act.put, List.setIfInBounds_toArray, List.set_cons_zero, List.set_cons_succ]
  refine Kept.take (i := 7) (v := ?_) rfl (by kernel_rfl) (by kernel_rfl) (by kernel_rfl) (fun _ _ _ h => h) (Or.inl ⟨by kernel_rfl, ?_⟩) hHeld ?_
  rotate_left
  · intro w' hSw; (try dsimp only at hSw); first | (go_simp; done) | (go_simp; with_reducible rfl)
  try simp only [List.getElem_toArray, List.getElem_cons_zero, List.getElem_cons_succ, Act.put, List.setIfInBounds_toArray, List.set_cons_zero, List.set_cons_succ]
  refine Kept.only (i := 5) (by kernel_rfl) rfl (fun K hK => ?_)
  go_simp
  refine (pick43_any _ P M n i mv gv lv sv yv checks (HL.out.below (bl_trans HB1.out (bl_drew w1)) (Nat.le_refl _))).mono ?_; rintro e w3 ⟨u3, rfl, hs3, hb⟩; have hb := bl_trans (bl_drew w1) hb; have HS3 := Lib.hid hs3; have HT3 := Lib.hid (HT1.out.belowS hb); have HB3 := Lib.hid (bl_trans HB1.out hb); clear hb hs3
  refine hK.out _ _ (⟨HT3.out.cell 0, HT3.out.cell 1, HT3.out.cell 2, HT3.out.cell 3, HT3.out.cell 4, HT3.out.cell 5, HT3.out.cell 6, HT3.out.cell 7, HT3.out.cell 8⟩) (fun hHeld2 => ?_)
  clear hK K
  replace hHeld := hHeld2
  clear hHeld2
  try simp only [List.getElem_toArray, List.getElem_cons_zero, List.getElem_cons_succ, Act.put, List.setIfInBounds_toArray, List.set_cons_zero, List.set_cons_succ]
  refine Kept.only (i := 8) (by kernel_rfl) rfl (fun K hK => ?_)
  go_simp
  refine (mEst_any _ P M n i mv gv u3 yv Mod y gen (pickK i checks) (HM.out.below HB3.out (Nat.le_refl _)) (HG.out.below HB3.out (Nat.le_refl _)) HS3.out (HY.out.below HB3.out (Nat.le_refl _))).mono ?_; rintro e w4 ⟨rfl, hb⟩; rw [← HK.out, ← HX.out, ← HV.out]; have HT4 := Lib.hid (HT3.out.belowS hb); have HB4 := Lib.hid (bl_trans HB3.out hb); clear hb
  refine hK.out _ _ (⟨HT4.out.cell 0, HT4.out.cell 1, HT4.out.cell 2, HT4.out.cell 3, HT4.out.cell 4, HT4.out.cell 5, HT4.out.cell 6, HT4.out.cell 7, HT4.out.cell 8⟩) (fun hHeld2 => ?_)
  clear hK K
  replace hHeld := hHeld2
  clear hHeld2
  try simp only [List.getElem_toArray, List.getElem_cons_zero, List.getElem_cons_succ, Act.put, List.setIfInBounds_toArray, List.set_cons_zero, List.set_cons_succ]
  refine Kept.take (i := 9) (v := ?_) rfl (by kernel_rfl) (by kernel_rfl) (by kernel_rfl) (fun _ _ _ h => h) (Or.inl ⟨by kernel_rfl, ?_⟩) hHeld ?_
  rotate_left
  · intro w' hSw; (try dsimp only at hSw); first | (go_simp; done) | (go_simp; with_reducible rfl)
  try simp only [List.getElem_toArray, List.getElem_cons_zero, List.getElem_cons_succ, Act.put, List.setIfInBounds_toArray, List.set_cons_zero, List.set_cons_succ]
  refine Kept.take (i := 10) (v := ?_) rfl (by kernel_rfl) (by kernel_rfl) (by kernel_rfl) (fun _ _ _ h => h) (Or.inl ⟨by kernel_rfl, ?_⟩) hHeld ?_
  rotate_left
  · intro w' hSw; (try dsimp only at hSw); first | (go_simp; done) | (go_simp; with_reducible rfl)
  try simp only [List.getElem_toArray, List.getElem_cons_zero, List.getElem_cons_succ, Act.put, List.setIfInBounds_toArray, List.set_cons_zero, List.set_cons_succ]
  refine Kept.take (i := 11) (v := ?_) rfl (by kernel_rfl) (by kernel_rfl) (by kernel_rfl) (fun _ _ _ h => h) (Or.inl ⟨by kernel_rfl, ?_⟩) hHeld ?_
  rotate_left
  · intro w' hSw; (try dsimp only at hSw); first | (go_simp; done) | (go_simp; with_reducible rfl)
  try simp only [List.getElem_toArray, List.getElem_cons_zero, List.getElem_cons_succ, Act.put, List.setIfInBounds_toArray, List.set_cons_zero, List.set_cons_succ]
  refine Kept.take (i := 12) (v := ?_) rfl (by kernel_rfl) (by kernel_rfl) (by kernel_rfl) (fun _ _ _ h => h) (Or.inl ⟨by kernel_rfl, ?_⟩) hHeld ?_
  rotate_left
  · intro w' hSw; (try dsimp only at hSw); first | (go_simp; done) | (go_simp; with_reducible rfl)
  try simp only [List.getElem_toArray, List.getElem_cons_zero, List.getElem_cons_succ, Act.put, List.setIfInBounds_toArray, List.set_cons_zero, List.set_cons_succ]
  refine Kept.only (i := 13) (by kernel_rfl) rfl (fun K hK => ?_)
  go_simp
  refine hK.out _ _ hHeld (fun hHeld2 => ?_)
  clear hK K
  clear hHeld2
  refine Kept.done (by kernel_rfl) ?_
  try simp only [List.getElem_toArray, List.getElem_cons_zero, List.getElem_cons_succ, Act.put, List.setIfInBounds_toArray, List.set_cons_zero, List.set_cons_succ]
  clear hHeld
  clear c0 c1 c2 c3 c4 c5 c6 c7 c8 HT3 HB3 HS3
  have c0 : w4.cell? ⟨w.heap.size, 0, none⟩ = some (.int .i64 P) := HT4.out.cell 0
  have c1 : w4.cell? ⟨w.heap.size, 1, none⟩ = some (.int .i64 M) := HT4.out.cell 1
  have c2 : w4.cell? ⟨w.heap.size, 2, none⟩ = some (mv) := HT4.out.cell 2
  have c3 : w4.cell? ⟨w.heap.size, 3, none⟩ = some (.int .i64 n) := HT4.out.cell 3
  have c4 : w4.cell? ⟨w.heap.size, 4, none⟩ = some (gv) := HT4.out.cell 4
  have c5 : w4.cell? ⟨w.heap.size, 5, none⟩ = some (lv) := HT4.out.cell 5
  have c6 : w4.cell? ⟨w.heap.size, 6, none⟩ = some (sv) := HT4.out.cell 6
  have c7 : w4.cell? ⟨w.heap.size, 7, none⟩ = some (yv) := HT4.out.cell 7
  have c8 : w4.cell? ⟨w.heap.size, 8, none⟩ = some (.int .i64 i) := HT4.out.cell 8
  go_upto_region 4 with fail
  refine Kept.start (S := fun w' => w'.cell? ⟨w.heap.size, 0, none⟩ = some (.int .i64 P) ∧ w'.cell? ⟨w.heap.size, 1, none⟩ = some (.int .i64 M) ∧ w'.cell? ⟨w.heap.size, 2, none⟩ = some (mv) ∧ w'.cell? ⟨w.heap.size, 3, none⟩ = some (.int .i64 n) ∧ w'.cell? ⟨w.heap.size, 4, none⟩ = some (gv) ∧ w'.cell? ⟨w.heap.size, 5, none⟩ = some (lv) ∧ w'.cell? ⟨w.heap.size, 6, none⟩ = some (sv) ∧ w'.cell? ⟨w.heap.size, 7, none⟩ = some (yv) ∧ w'.cell? ⟨w.heap.size, 8, none⟩ = some (.int .i64 i)) (by kernel_rfl) (⟨c0, c1, c2, c3, c4, c5, c6, c7, c8⟩) (fun hHeld => ?_)
  change Kept _ _ _ _ 10 _ _ _
  refine Kept.take (i := 0) (v := ?_) rfl (by kernel_rfl) (by kernel_rfl) (by kernel_rfl) (fun _ _ _ h => h) (Or.inl ⟨by kernel_rfl, ?_⟩) hHeld ?_
  rotate_left
  · intro w' hSw; (try dsimp only at hSw); first | (go_simp; done) | (go_simp; with_reducible rfl)
  try simp only [List.getElem_toArray, List.getElem_cons_zero, List.getElem_cons_succ, Act.put, List.setIfInBounds_toArray, List.set_cons_zero, List.set_cons_succ]
  refine Kept.take (i := 1) (v := ?_) rfl (by kernel_rfl) (by kernel_rfl) (by kernel_rfl) (fun _ _ _ h => h) (Or.inl ⟨by kernel_rfl, ?_⟩) hHeld ?_
  rotate_left
  · intro w' hSw; (try dsimp only at hSw); first | (go_simp; done) | (go_simp; with_reducible rfl)
  try simp only [List.getElem_toArray, List.getElem_cons_zero, List.getElem_cons_succ, Act.put, List.setIfInBounds_toArray, List.set_cons_zero, List.set_cons_succ]
  refine Kept.take (i := 2) (v := ?_) rfl (by kernel_rfl) (by kernel_rfl) (by kernel_rfl) (fun _ _ _ h => h) (Or.inl ⟨by kernel_rfl, ?_⟩) hHeld ?_
  rotate_left
  · intro w' hSw; (try dsimp only at hSw); first | (go_simp; done) | (go_simp; with_reducible rfl)
  try simp only [List.getElem_toArray, List.getElem_cons_zero, List.getElem_cons_succ, Act.put, List.setIfInBounds_toArray, List.set_cons_zero, List.set_cons_succ]
  refine Kept.take (i := 3) (v := ?_) rfl (by kernel_rfl) (by kernel_rfl) (by kernel_rfl) (fun _ _ _ h => h) (Or.inl ⟨by kernel_rfl, ?_⟩) hHeld ?_
  rotate_left
  · intro w' hSw; (try dsimp only at hSw); first | (go_simp; done) | (go_simp; with_reducible rfl)
  try simp only [List.getElem_toArray, List.getElem_cons_zero, List.getElem_cons_succ, Act.put, List.setIfInBounds_toArray, List.set_cons_zero, List.set_cons_succ]
  refine Kept.take (i := 4) (v := ?_) rfl (by kernel_rfl) (by kernel_rfl) (by kernel_rfl) (fun _ _ _ h => h) (Or.inl ⟨by kernel_rfl, ?_⟩) hHeld ?_
  rotate_left
  · intro w' hSw; (try dsimp only at hSw); first | (go_simp; done) | (go_simp; with_reducible rfl)
  try simp only [List.getElem_toArray, List.getElem_cons_zero, List.getElem_cons_succ, Act.put, List.setIfInBounds_toArray, List.set_cons_zero, List.set_cons_succ]
  refine Kept.take (i := 6) (v := ?_) rfl (by kernel_rfl) (by kernel_rfl) (by kernel_rfl) (fun _ _ _ h => h) (Or.inl ⟨by kernel_rfl, ?_⟩) hHeld ?_
  rotate_left
  · intro w' hSw; (try dsimp only at hSw); first | (go_simp; done) | (go_simp; with_reducible rfl)
  try simp only [List.getElem_toArray, List.getElem_cons_zero, List.getElem_cons_succ, Act.put, List.setIfInBounds_toArray, List.set_cons_zero, List.set_cons_succ]
  refine Kept.take (i := 7) (v := ?_) rfl (by kernel_rfl) (by kernel_rfl) (by kernel_rfl) (fun _ _ _ h => h) (Or.inl ⟨by kernel_rfl, ?_⟩) hHeld ?_
  rotate_left
  · intro w' hSw; (try dsimp only at hSw); first | (go_simp; done) | (go_simp; with_reducible rfl)
  try simp only [List.getElem_toArray, List.getElem_cons_zero, List.getElem_cons_succ, Act.put, List.setIfInBounds_toArray, List.set_cons_zero, List.set_cons_succ]
  refine Kept.only (i := 5) (by kernel_rfl) rfl (fun K hK => ?_)
  go_simp
  refine (pick43_any _ P M n i mv gv lv sv yv checks (HL.out.below (bl_trans HB4.out (bl_drew w4)) (Nat.le_refl _))).mono ?_; rintro e w5 ⟨u5, rfl, hs5, hb⟩; have hb := bl_trans (bl_drew w4) hb; have HS5 := Lib.hid hs5; have HT5 := Lib.hid (HT4.out.belowS hb); have HB5 := Lib.hid (bl_trans HB4.out hb); clear hb hs5
  refine hK.out _ _ (⟨HT5.out.cell 0, HT5.out.cell 1, HT5.out.cell 2, HT5.out.cell 3, HT5.out.cell 4, HT5.out.cell 5, HT5.out.cell 6, HT5.out.cell 7, HT5.out.cell 8⟩) (fun hHeld2 => ?_)
  clear hK K
  replace hHeld := hHeld2
  clear hHeld2
  try simp only [List.getElem_toArray, List.getElem_cons_zero, List.getElem_cons_succ, Act.put, List.setIfInBounds_toArray, List.set_cons_zero, List.set_cons_succ]
  refine Kept.only (i := 8) (by kernel_rfl) rfl (fun K hK => ?_)
  go_simp
  refine (rArgs_any _ P M n i mv gv u5 yv Mod y gen (pickK i checks) (HM.out.below HB5.out (Nat.le_refl _)) (HG.out.below HB5.out (Nat.le_refl _)) HS5.out (HY.out.below HB5.out (Nat.le_refl _))).mono ?_; rintro e w6 ⟨rfl, hb⟩; rw [← HK.out, ← HX.out]; have HT6 := Lib.hid (HT5.out.belowS hb); have HB6 := Lib.hid (bl_trans HB5.out hb); clear hb
  refine hK.out _ _ (⟨HT6.out.cell 0, HT6.out.cell 1, HT6.out.cell 2, HT6.out.cell 3, HT6.out.cell 4, HT6.out.cell 5, HT6.out.cell 6, HT6.out.cell 7, HT6.out.cell 8⟩) (fun hHeld2 => ?_)
  clear hK K
  replace hHeld := hHeld2
  clear hHeld2
  try simp only [List.getElem_toArray, List.getElem_cons_zero, List.getElem_cons_succ, Act.put, List.setIfInBounds_toArray, List.set_cons_zero, List.set_cons_succ]
  refine Kept.only (i := 9) (by kernel_rfl) rfl (fun K hK => ?_)
  go_simp
  refine hK.out _ _ hHeld (fun hHeld2 => ?_)
  clear hK K
  clear hHeld2
  refine Kept.done (by kernel_rfl) ?_
  try simp only [List.getElem_toArray, List.getElem_cons_zero, List.getElem_cons_succ, Act.put, List.setIfInBounds_toArray, List.set_cons_zero, List.set_cons_succ]
  clear hHeld
  clear c0 c1 c2 c3 c4 c5 c6 c7 c8 HT5 HB5 HS5
  go_wp2_with fail
  refine (alive43_any _).mono ?_
  rintro e w7 ⟨rfl, hb⟩
  have HT7 := Lib.hid (HT6.out.belowS hb); have HB7 := Lib.hid (bl_trans HB6.out hb)
  clear hb
  by_cases hX0 : X = 0
  case neg =>
    have k1 : (X != 0) = true := by rw [bne_iff_ne]; exact hX0
    have k2 : (V == 0) = true := by rw [beq_iff_eq]; exact HVN.out hX0
    clear hX0
    go_wp2_with fail
    go_ret
    exact ⟨rfl, HB7.out⟩
  have k1 : (X != 0) = false := by rw [bne_eq_false_iff_eq]; exact hX0
  have HE2 := Lib.hid (HES.out hX0)
  have HVF := Lib.hid (HVE.out hX0)
  have hvv : (V == V) = true := by simp
  clear hX0
  have c0 : w7.cell? ⟨w.heap.size, 0, none⟩ = some (.int .i64 P) := HT7.out.cell 0
  have c1 : w7.cell? ⟨w.heap.size, 1, none⟩ = some (.int .i64 M) := HT7.out.cell 1
  have c2 : w7.cell? ⟨w.heap.size, 2, none⟩ = some (mv) := HT7.out.cell 2
  have c3 : w7.cell? ⟨w.heap.size, 3, none⟩ = some (.int .i64 n) := HT7.out.cell 3
  have c4 : w7.cell? ⟨w.heap.size, 4, none⟩ = some (gv) := HT7.out.cell 4
  have c5 : w7.cell? ⟨w.heap.size, 5, none⟩ = some (lv) := HT7.out.cell 5
  have c6 : w7.cell? ⟨w.heap.size, 6, none⟩ = some (sv) := HT7.out.cell 6
  have c7 : w7.cell? ⟨w.heap.size, 7, none⟩ = some (yv) := HT7.out.cell 7
  have c8 : w7.cell? ⟨w.heap.size, 8, none⟩ = some (.int .i64 i) := HT7.out.cell 8
  go_upto_region 9 with fail
  refine Kept.start (S := fun w' => w'.cell? ⟨w.heap.size, 0, none⟩ = some (.int .i64 P) ∧ w'.cell? ⟨w.heap.size, 1, none⟩ = some (.int .i64 M) ∧ w'.cell? ⟨w.heap.size, 2, none⟩ = some (mv) ∧ w'.cell? ⟨w.heap.size, 3, none⟩ = some (.int .i64 n) ∧ w'.cell? ⟨w.heap.size, 4, none⟩ = some (gv) ∧ w'.cell? ⟨w.heap.size, 5, none⟩ = some (lv) ∧ w'.cell? ⟨w.heap.size, 6, none⟩ = some (sv) ∧ w'.cell? ⟨w.heap.size, 7, none⟩ = some (yv) ∧ w'.cell? ⟨w.heap.size, 8, none⟩ = some (.int .i64 i)) (by kernel_rfl) (⟨c0, c1, c2, c3, c4, c5, c6, c7, c8⟩) (fun hHeld => ?_)
  change Kept _ _ _ _ 11 _ _ _
  refine Kept.take (i := 0) (v := ?_) rfl (by kernel_rfl) (by kernel_rfl) (by kernel_rfl) (fun _ _ _ h => h) (Or.inl ⟨by kernel_rfl, ?_⟩) hHeld ?_
  rotate_left
  · intro w' hSw; (try dsimp only at hSw); first | (go_simp; done) | (go_simp; with_reducible rfl)
  try simp only [List.getElem_toArray, List.getElem_cons_zero, List.getElem_cons_succ, Act.put, List.setIfInBounds_toArray, List.set_cons_zero, List.set_cons_succ]
  refine Kept.take (i := 1) (v := ?_) rfl (by kernel_rfl) (by kernel_rfl) (by kernel_rfl) (fun _ _ _ h => h) (Or.inl ⟨by kernel_rfl, ?_⟩) hHeld ?_
  rotate_left
  · intro w' hSw; (try dsimp only at hSw); first | (go_simp; done) | (go_simp; with_reducible rfl)
  try simp only [List.getElem_toArray, List.getElem_cons_zero, List.getElem_cons_succ, Act.put, List.setIfInBounds_toArray, List.set_cons_zero, List.set_cons_succ]
  refine Kept.take (i := 2) (v := ?_) rfl (by kernel_rfl) (by kernel_rfl) (by kernel_rfl) (fun _ _ _ h => h) (Or.inl ⟨by kernel_rfl, ?_⟩) hHeld ?_
  rotate_left
  · intro w' hSw; (try dsimp only at hSw); first | (go_simp; done) | (go_simp; with_reducible rfl)
  try simp only [List.getElem_toArray, List.getElem_cons_zero, List.getElem_cons_succ, Act.put, List.setIfInBounds_toArray, List.set_cons_zero, List.set_cons_succ]
  refine Kept.take (i := 3) (v := ?_) rfl (by kernel_rfl) (by kernel_rfl) (by kernel_rfl) (fun _ _ _ h => h) (Or.inl ⟨by kernel_rfl, ?_⟩) hHeld ?_
  rotate_left
  · intro w' hSw; (try dsimp only at hSw); first | (go_simp; done) | (go_simp; with_reducible rfl)
  try simp only [List.getElem_toArray, List.getElem_cons_zero, List.getElem_cons_succ, Act.put, List.setIfInBounds_toArray, List.set_cons_zero, List.set_cons_succ]
  refine Kept.take (i := 4) (v := ?_) rfl (by kernel_rfl) (by kernel_rfl) (by kernel_rfl) (fun _ _ _ h => h) (Or.inl ⟨by kernel_rfl, ?_⟩) hHeld ?_
  rotate_left
  · intro w' hSw; (try dsimp only at hSw); first | (go_simp; done) | (go_simp; with_reducible rfl)
  try simp only [List.getElem_toArray, List.getElem_cons_zero, List.getElem_cons_succ, Act.put, List.setIfInBounds_toArray, List.set_cons_zero, List.set_cons_succ]
  refine Kept.take (i := 6) (v := ?_) rfl (by kernel_rfl) (by kernel_rfl) (by kernel_rfl) (fun _ _ _ h => h) (Or.inl ⟨by kernel_rfl, ?_⟩) hHeld ?_
  rotate_left
  · intro w' hSw; (try dsimp only at hSw); first | (go_simp; done) | (go_simp; with_reducible rfl)
  try simp only [List.getElem_toArray, List.getElem_cons_zero, List.getElem_cons_succ, Act.put, List.setIfInBounds_toArray, List.set_cons_zero, List.set_cons_succ]
  refine Kept.take (i := 7) (v := ?_) rfl (by kernel_rfl) (by kernel_rfl) (by kernel_rfl) (fun _ _ _ h => h) (Or.inl ⟨by kernel_rfl, ?_⟩) hHeld ?_
  rotate_left
  · intro w' hSw; (try dsimp only at hSw); first | (go_simp; done) | (go_simp; with_reducible rfl)
  try simp only [List.getElem_toArray, List.getElem_cons_zero, List.getElem_cons_succ, Act.put, List.setIfInBounds_toArray, List.set_cons_zero, List.set_cons_succ]
  refine Kept.only (i := 5) (by kernel_rfl) rfl (fun K hK => ?_)
  go_simp
  refine (pick43_any _ P M n i mv gv lv sv yv checks (HL.out.below (bl_trans HB7.out (bl_drew w7)) (Nat.le_refl _))).mono ?_; rintro e w8 ⟨u8, rfl, hs8, hb⟩; have hb := bl_trans (bl_drew w7) hb; have HS8 := Lib.hid hs8; have HT8 := Lib.hid (HT7.out.belowS hb); have HB8 := Lib.hid (bl_trans HB7.out hb); clear hb hs8
  refine hK.out _ _ (⟨HT8.out.cell 0, HT8.out.cell 1, HT8.out.cell 2, HT8.out.cell 3, HT8.out.cell 4, HT8.out.cell 5, HT8.out.cell 6, HT8.out.cell 7, HT8.out.cell 8⟩) (fun hHeld2 => ?_)
  clear hK K
  replace hHeld := hHeld2
  clear hHeld2
  try simp only [List.getElem_toArray, List.getElem_cons_zero, List.getElem_cons_succ, Act.put, List.setIfInBounds_toArray, List.set_cons_zero, List.set_cons_succ]
  refine Kept.only (i := 8) (by kernel_rfl) rfl (fun K hK => ?_)
  go_simp
  refine (HE2.out _ u8 (HM.out.below HB8.out (Nat.le_refl _)) (by rw [HK.out]; exact HS8.out) (HY.out.below HB8.out (Nat.le_refl _))).mono ?_; rintro e w9 ⟨rfl, hb⟩; rw [← HVF.out]; have HT9 := Lib.hid (HT8.out.belowS hb); have HB9 := Lib.hid (bl_trans HB8.out hb); clear hb
  refine hK.out _ _ (⟨HT9.out.cell 0, HT9.out.cell 1, HT9.out.cell 2, HT9.out.cell 3, HT9.out.cell 4, HT9.out.cell 5, HT9.out.cell 6, HT9.out.cell 7, HT9.out.cell 8⟩) (fun hHeld2 => ?_)
  clear hK K
  replace hHeld := hHeld2
  clear hHeld2
  try simp only [List.getElem_toArray, List.getElem_cons_zero, List.getElem_cons_succ, Act.put, List.setIfInBounds_toArray, List.set_cons_zero, List.set_cons_succ]
  refine Kept.take (i := 9) (v := ?_) rfl (by kernel_rfl) (by kernel_rfl) (by kernel_rfl) (fun _ _ _ h => h) (Or.inl ⟨by kernel_rfl, ?_⟩) hHeld ?_
  rotate_left
  · intro w' hSw; (try dsimp only at hSw); first | (go_simp; done) | (go_simp; with_reducible rfl)
  try simp only [List.getElem_toArray, List.getElem_cons_zero, List.getElem_cons_succ, Act.put, List.setIfInBounds_toArray, List.set_cons_zero, List.set_cons_succ]
  refine Kept.only (i := 10) (by kernel_rfl) rfl (fun K hK => ?_)
  go_simp
  refine hK.out _ _ hHeld (fun hHeld2 => ?_)
  clear hK K
  clear hHeld2
  refine Kept.done (by kernel_rfl) ?_
  try simp only [List.getElem_toArray, List.getElem_cons_zero, List.getElem_cons_succ, Act.put, List.setIfInBounds_toArray, List.set_cons_zero, List.set_cons_succ]
  clear hHeld
  clear c0 c1 c2 c3 c4 c5 c6 c7 c8
  go_wp2_with fail
  go_ret
  exact ⟨rfl, HB9.out⟩
end Go.Proofs.Ytlcgihjdafglmaa

/- MajorityEstimates: the law returns true for every input; each argument reads behind the call as it read before. The walk is in LEst. -/
namespace Go.Proofs.Ytlcgihjdafglmaa.majorityEstimates
open Go.ChangeShapes Go.WideShapes Go.ChangeAt Go.RowKit
set_option linter.unusedVariables false

set_option maxRecDepth 100000 in
theorem lifted (os : Os) (started : os.Started) (H : Type) (enc : TypeId × Value → H) :
    ReturnsInHanded {} Try.checked os 10 .any (Rows.majorityEstimatesSpec.pre6 enc Try.prog Try.f10 Rows.majorityEstimatesRow.domain false) (Rows.majorityEstimatesSpec.post enc Try.prog Try.f10 false true false false) := by
  refine returnsInHanded_of_change_sized (C := Try.checked) own started (by kernel_rfl) Try.func10
    (ChangeSpec.witness6 (enc := enc) (C := Try.checked) false ⟨#[], #[.agg #[.int .i64 0, .int .i64 0, .slice none 0 0, .int .i64 0, .slice none 0 0, .slice none 0 0, .slice none 0 0, .slice none 0 0, .int .i64 0]], []⟩ 8 (by kernel_rfl) (by kernel_rfl) (by kernel_rfl) (by kernel_rfl)) ?_
  intro W base args ds gs before hval0 hW _ hsz0 _
  have hsz : (DataW.weightsEach Try.prog (Try.f10.params.toList ++ Rows.majorityEstimatesSpec.plain.varTypes Try.prog) (ds ++ gs)).all (· ≤ reachBytes) = true := hsz0
  have hval : ∀ (j : Nat) t v, Try.f10.params[j]? = some t → args[j]? = some v → Value.okWide Try.prog W .any base t v := hval0
  have hW' := hW
  obtain ⟨p, q, hA0, hV, rfl, hfz, hnd⟩ := hW
  have hA : DataW.TrodAll enc Try.prog W 0 (fun _ => true) true Try.f10.params.toList args.toList ds p := hA0
  rw [Try.params10] at hA hval hsz
  obtain ⟨v0, vs0, d0, ds0, p0, q0, hargs, rfl, rfl, h0, r0'⟩ := trodAll_cons hA
  obtain ⟨rfl, rfl, rfl⟩ := trodAll_nil r0'
  obtain rfl : args = #[v0] := by cases args; simp_all
  obtain ⟨rfl, rfl⟩ := trodVars_none hV
  have k0 := h0
  have r0 := open_Checked h0 (hval 0 49 v0 rfl rfl) (weigh hsz 0 rfl rfl)
  clear hA0 hval0
  refine (lawEst W r0).mono fun e W' ⟨he, bel⟩ => ?_
  subst he
  exact ⟨_, rfl, _, _, _, [], _, [], hW', trodAll_mk1 (shut_bool Try.underlying4 _), (trodAll_cons_mk (Below.trod laidOut (by kernel_rfl) (of_decide_eq_true (by kernel_rfl)) k0 bel (lt_of_trod k0)) trodAll_mk0), rfl, bel.frame _, fun h => by cases h⟩

theorem proved : Rows.MajorityEstimatesSaid :=
  OpenClaim.holds_of_wide 10 Try.f10 rfl rfl rfl rfl rfl rfl rfl ⟨rfl, rfl, rfl, rfl, rfl⟩ rfl rfl rfl rfl rfl (by kernel_rfl) Try.func10 (by kernel_rfl)
    (of_decide_eq_true (by kernel_rfl)) (by unfold Func.isWrapper; first | (rw [if_pos (by decide +kernel)]; kernel_rfl) | (rw [if_neg (by decide +kernel)]; exact ⟨rfl, rfl⟩))
    (fun os started H enc _ => lifted os started H enc)
#print axioms proved
end Go.Proofs.Ytlcgihjdafglmaa.majorityEstimates
