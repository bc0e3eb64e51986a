/- Texts of a claim, merged: words, plain facts and walks that the last of its texts uses. -/
import Derived.Test.YtlcgihjdafglmaaZA1
import Derived.Test.YtlcgihjdafglmaaZA2
import Derived.Test.YtlcgihjdafglmaaZA9
import Derived.Test.YtlcgihjdafglmaaZA13
import Derived.Test.YtlcgihjdafglmaaZA15
import Derived.Test.YtlcgihjdafglmaaZA20
import Derived.Test.YtlcgihjdafglmaaZA21
import Derived.Test.YtlcgihjdafglmaaZA22
import Derived.Deep.QuietTactic
import Derived.BigQuiet
import Derived.ArgAppend
import Derived.Deep.Upon
import Derived.Deep.RegionLaw
import Derived.Deep.DeepMust
import Derived.StillTailTactics
set_option linter.unusedSimpArgs false
set_option linter.unusedVariables false

/- Plain: the values of the monomials below a degree are independent; they are orthogonal to those of low degree, and the two spaces are each other's duals. -/
namespace Go.Proofs.Ytlcgihjdafglmaa
set_option linter.unusedVariables false

section
variable {O : FOps} {q : Int} (hO : O.Fld q)
include hO
theorem indep_tri {ws : Nat → Nat → Int} {m : Nat} (pt : Nat → Nat) (h1 : ∀ k, k < m → ws k (pt k) = 1) (h0 : ∀ k i, k < i → i < m → ws i (pt k) = 0) : Indep O q ws m := by
  intro c hc hz
  have key : ∀ k, k ≤ m → ∀ i, i < k → c i = 0 := by
    intro k
    induction k with
    | zero => intro _ i hi; omega
    | succ k ih =>
      intro hk i hi
      by_cases e : i < k
      · exact ih (by omega) i e
      · obtain rfl : i = k := by omega
        have h := hz (pt i)
        have hci := hc i
        have e1 : O.mul (c i) (ws i (pt i)) = c i := by rw [h1 i (by omega)]; exact hO.mul_one _ hci.1 hci.2
        rw [sumTo_single hO (f := fun t => O.mul (c t) (ws t (pt i))) (k := i) (by show 0 ≤ O.mul (c i) (ws i (pt i)) ∧ O.mul (c i) (ws i (pt i)) < q; rw [e1]; exact hci) (n := m) (by omega) (fun t ht hne => by
          show O.mul (c t) (ws t (pt i)) = 0
          by_cases hti : t < i
          · rw [ih (by omega) t hti, hO.zero_mul]
          · rw [h0 i t (by omega) ht, hO.mul_zero])] at h
        rw [← e1]
        exact h
  exact fun i hi => key m (Nat.le_refl _) i hi
end

end Go.Proofs.Ytlcgihjdafglmaa

/- ref11: Clean, Support, Weight, Add. -/
namespace Go.Proofs.Ytlcgihjdafglmaa
open Go.RowKit
set_option linter.unusedVariables false
set_option maxRecDepth 100000

def cleanL (q : Int) (x : List Int) : List Int := rowOf x.length fun i => inQ q (x.getD i 0)
theorem cleanL_len (q : Int) (x : List Int) : (cleanL q x).length = x.length := rowOf_len _ _
theorem inQ_256 {q x : Int} (h : q ≤ 256) : -1 ≤ inQ q x ∧ inQ q x ≤ 256 := by unfold inQ; split <;> omega
theorem cleanL_i64 {q : Int} (h : q ≤ 256) (x : List Int) (k : Nat) : I64 ((cleanL q x).getD k 0) := by
  by_cases hk : k < x.length
  · unfold cleanL
    rw [rowOf_getD hk]
    have := inQ_256 (x := x.getD k 0) h
    exact I64.of_small (by omega) (by omega)
  · rw [getD_len (by rw [cleanL_len]; omega)]; exact I64.zero
set_option maxHeartbeats 8000000 in
theorem rClean_any (w : World) (P M : Int) (mv v : Value) (x : List Int) (hx : SI w v x) :
    Calls Try.prog 72 #[.agg #[.int .i64 P, .int .i64 M, mv], v] w (RetO w (cleanL (orderF P M) x)) := by
  obtain ⟨A, c, rfl, hx⟩ := hx
  have hn := hx.len
  have HX := Lib.hid hx.si; clear hx
  obtain ⟨n, hnn⟩ : ∃ n, n = x.length := ⟨_, rfl⟩
  rw [← hnn] at hn HX ⊢
  have HC : Hid (cleanL (orderF P M) x = rowOf n fun i => inQ (orderF P M) (x.getD i 0)) := by rw [hnn]; rfl
  have HN := Lib.hid hnn; clear hnn
  have hmk := fun (w : World) => run_mkI n (by omega) w
  have HF := Lib.hid (FBox.mk' w P M mv)
  obtain ⟨q, hq⟩ : ∃ q, q = orderF P M := ⟨_, rfl⟩
  rw [← hq] at HC ⊢
  have HQ := Lib.hid hq; clear hq
  go_enter Try.func72, Try.ntmps72
  go_wp2_with fail
  refine (order_any _ P M mv).mono ?_
  rintro e w1 ⟨rfl, hb1⟩
  have HB1 := Lib.hid (bl_trans HF.out.bel hb1); clear hb1
  rw [← HQ.out]
  have hs1 := HB1.out.size
  go_wp2_with fail
  clear hmk
  have HC0 := Lib.hid (RI.made w1 n)
  have HB2 := Lib.hid (bl_trans HB1.out (bl_alloc w1 (.cells (madeCells #[.int .i64 0] n) 3)))
  obtain ⟨C, hC⟩ : ∃ C, C = w1.heap.size := ⟨_, rfl⟩
  rw [← hC] at hs1 HC0 ⊢
  clear hC
  go_loopw [7] (fun i wr => ∃ k : Nat, k ≤ n ∧ i = .int .i64 (k : Int) ∧ Hid (RI wr C (fillTo n (fun i => inQ q (x.getD i 0)) (fun _ => 0) k)) ∧ Hid (Below w.heap.size w wr)) (fun i _ => (n - intOf i).toNat)
  case atStart => exact ⟨0, Nat.zero_le _, rfl, by rw [fillTo_zero, rowOf_zero]; exact HC0, HB2⟩
  case round =>
    clear HC0 HB2
    obtain ⟨k, hk, rfl, HR, HB⟩ := hrel
    by_cases hlt : k < n
    · obtain ⟨ad, y, rfl, hc, _, HY⟩ := (HX.out.below HB.out (Nat.le_refl _)).elt (k := k) (by rw [← HN.out]; exact hlt)
      have HFS := Lib.hid (fillTo_set (f := fun i => inQ q (x.getD i 0)) (g := fun _ => 0) hlt)
      by_cases hy : 0 ≤ y ∧ y < q
      · obtain ⟨hy0, hy1⟩ := hy
        have HV : Hid (inQ q y = y) := by show _ = _; unfold inQ; rw [if_pos ⟨hy0, hy1⟩]
        have d1 := HR.out.cell k (by rw [fillTo_len]; exact hlt)
        have f1 := HR.out.frozen k
        go_wp2_with fail
        rw [HY.out, HV.out] at HFS
        exact ⟨⟨k + 1, by omega, rfl, by rw [← HFS.out]; exact HR.out.set k y, HB.out.setCell (p := ⟨C, k, none⟩) hs1 _⟩, by simp only [intOf]; omega⟩
      · have HV : Hid (inQ q y = 0) := by show _ = _; unfold inQ; rw [if_neg hy]
        have HFT : Hid (fillTo n (fun i => inQ q (x.getD i 0)) (fun _ => 0) (k + 1) = fillTo n (fun i => inQ q (x.getD i 0)) (fun _ => 0) k) := fillTo_stay fun _ => by rw [HY.out]; exact HV.out
        by_cases hy0 : 0 ≤ y
        · have hy1 : ¬ y < q := fun h => hy ⟨hy0, h⟩
          have hb : decide (y < q) = false := decide_eq_false hy1
          clear hy
          go_wp2_with fail
          exact ⟨⟨k + 1, by omega, rfl, by rw [HFT.out]; exact HR, HB⟩, by simp only [intOf]; omega⟩
        · have hy1 : y < 0 := by omega
          clear hy
          go_wp2_with fail
          exact ⟨⟨k + 1, by omega, rfl, by rw [HFT.out]; exact HR, HB⟩, by simp only [intOf]; omega⟩
    · obtain rfl : n = k := by omega
      rw [fillTo_full, ← HC.out] at HR
      have HL : Hid ((cleanL q x).length = n) := by show _ = _; rw [cleanL_len, HN.out]
      go_wp2_with fail
      go_ret
      have := HR.out.oi (B := w.heap.size) (by omega) (by rw [HL.out]; omega)
      rw [HL.out] at this
      exact ⟨_, rfl, this, HB.out⟩

/-- the places of the entries that are elements and not 0 -/
def suppL (q : Int) (x : List Int) : List Int := differTo (cleanL q x) [] x.length

set_option maxHeartbeats 8000000 in
theorem rSupport_any (w : World) (P M : Int) (mv v : Value) (x : List Int) (hx : SI w v x) :
    Calls Try.prog 47 #[.agg #[.int .i64 P, .int .i64 M, mv], v] w (RetO w (suppL (orderF P M) x)) := by
  have hn := hx.len'
  have HX := Lib.hid hx; clear hx
  obtain ⟨n, hnn⟩ : ∃ n, n = x.length := ⟨_, rfl⟩
  rw [← hnn] at hn
  have HN := Lib.hid hnn; clear hnn
  have HF := Lib.hid (FBox.mk' w P M mv)
  have HI := Lib.hid (cleanL_i64 (q := orderF P M) (by have := orderF_bounds P M; omega) x)
  obtain ⟨c, hc⟩ : ∃ c, c = cleanL (orderF P M) x := ⟨_, rfl⟩
  have HCE := Lib.hid hc; clear hc
  have HCL : Hid (c.length = n) := by show _ = _; rw [HCE.out, cleanL_len, HN.out]
  go_enter Try.func47, Try.ntmps47
  go_wp2_with fail
  refine (rClean_any _ P M mv v x (HX.out.below HF.out.bel (Nat.le_refl _))).mono ?_
  rintro e w1 ⟨u1, rfl, ho1, hb1⟩
  rw [← HCE.out] at ho1
  obtain ⟨A1, c1, rfl⟩ := ho1.form'
  have HB1 := Lib.hid (bl_trans HF.out.bel hb1); clear hb1
  have HS1 := Lib.hid (ho1.si (by rw [HCL.out]; exact hn) (fun k => by rw [HCE.out]; exact HI.out k)); clear ho1
  rw [HCL.out] at HS1 ⊢
  have HO0 := Lib.hid (OI.empty (B := w1.heap.size) w1 (Nat.le_refl _))
  have HB0 := Lib.hid (bl_alloc w1 (.cells #[] 3))
  go_wp2_with fail
  go_loopw [6, 7] (fun out i wr => ∃ k : Nat, k ≤ n ∧ i = .int .i64 (k : Int) ∧ Hid (OI w1.heap.size wr out (differTo c [] k)) ∧ Hid (Below w1.heap.size w1 wr)) (fun _ i _ => (n - intOf i).toNat)
  case atStart => exact ⟨0, Nat.zero_le _, rfl, HO0, HB0⟩
  case round =>
    obtain ⟨k, hk, rfl, HO, HB⟩ := hrel
    by_cases hlt : k < n
    · obtain ⟨ad, y, rfl, hc, _, HY⟩ := (HS1.out.below HB.out (Nat.le_refl _)).elt (k := k) (by rw [HCL.out]; exact hlt)
      by_cases hy : y = 0
      · have hb : (y != 0) = false := by rw [bne_eq_false_iff_eq]; exact hy
        have HD : Hid (differTo c [] (k + 1) = differTo c [] k) := differTo_no (by rw [HY.out, hy]; rfl)
        clear hy
        go_wp2_with fail
        exact ⟨⟨k + 1, by omega, rfl, by rw [HD.out]; exact HO, HB⟩, by simp only [intOf]; omega⟩
      · have hb : (y != 0) = true := by rw [bne_iff_ne]; exact hy
        have HD : Hid (differTo c [] (k + 1) = differTo c [] k ++ [(k : Int)]) := differTo_yes (by rw [HY.out]; exact hy)
        clear hy
        have hll := differTo_len c [] k
        have HP := Lib.hid (PushI.mk' (w := wr) (w0 := w1) HO.out HB.out HB.out.size (k : Int))
        go_wp2_with (at_builtin; go_must (refine wpList_pushI rfl _ _ rfl w1.heap.size _ (differTo c [] k) rfl HP.out.own wr.heap.size 1 (k : Int) rfl HP.out.box (by omega) HP.out.up ?_); (intro v1 w2 ho hg); have HO2 := Lib.hid ho; have HB2 := Lib.hid (HP.out.below (Nat.le_refl _) hg); clear ho hg)
        exact ⟨⟨k + 1, by omega, rfl, by rw [HD.out]; exact HO2, HB2⟩, by simp only [intOf]; omega⟩
    · obtain rfl : n = k := by omega
      have HE : Hid (suppL (orderF P M) x = differTo c [] n) := by show _ = _; unfold suppL; rw [HCE.out, HN.out]
      go_wp2_with fail
      go_ret
      exact ⟨_, rfl, by rw [HE.out]; exact HO.out.mono HB1.out.size, bl_trans HB1.out HB.out⟩

set_option maxHeartbeats 8000000 in
theorem rWeight_any (w : World) (P M : Int) (mv v : Value) (x : List Int) (hx : SI w v x) :
    Calls Try.prog 17 #[.agg #[.int .i64 P, .int .i64 M, mv], v] w (RetI w ((suppL (orderF P M) x).length : Int)) := by
  have HX := Lib.hid hx
  have HF := Lib.hid (FBox.mk' w P M mv)
  have hl := differTo_len (cleanL (orderF P M) x) [] x.length
  have hn := hx.len'
  obtain ⟨k, hk⟩ : ∃ k, k = (suppL (orderF P M) x).length := ⟨_, rfl⟩
  have hk2 : k ≤ 17592186044416 := by unfold suppL at hk; omega
  clear hx hl hn
  go_enter Try.func17, Try.ntmps17
  go_wp2_with fail
  refine (rSupport_any _ P M mv v x (HX.out.below HF.out.bel (Nat.le_refl _))).mono ?_
  rintro e w1 ⟨u1, rfl, ho1, hb1⟩
  obtain ⟨A1, c1, rfl⟩ := ho1.form'
  have HB1 := Lib.hid (bl_trans HF.out.bel hb1); clear hb1 ho1
  have HK := Lib.hid hk
  rw [← hk]
  clear hk
  go_wp2_with fail
  go_ret
  exact ⟨by rw [← HK.out]; rfl, HB1.out⟩

end Go.Proofs.Ytlcgihjdafglmaa

/- matrix.vec, matrix.open of two matrices, matrix.Mul, where all is well. -/
namespace Go.Proofs.Ytlcgihjdafglmaa
open Go.RowKit
set_option linter.unusedVariables false
set_option maxRecDepth 100000

set_option maxHeartbeats 8000000 in
theorem mvec_any (w : World) (a : Nat) (P M : Int) (n : Nat) (Mod x : List Int) (xv rv : Value) (rows : List (List Int)) (hG : GF w a P M Mod) (hx : SI w xv x) (hv : SS w rv rows) (hR : Rows (orderF P M) n rows) (hxl : x.length = rows.length) (hn : n ≤ 100000) :
    Calls Try.prog 88 #[.pointer (some ⟨a, 0, none⟩), xv, rv, .int .i64 (n : Int)] w (RetO w (combL (refOps P M Mod) x rows n)) := by
  have HG := Lib.hid hG; have HX := Lib.hid hx; have HV := Lib.hid hv; have HR := Lib.hid hR; have HXL := Lib.hid hxl
  have hf := hG.fld
  have HLT := Lib.hid (refOps_lt hf.1 Mod)
  have hob := orderF_bounds P M
  have HCB : Hid (combL (refOps P M Mod) x rows n = combTo (refOps P M Mod) x rows n x.length) := by show _ = _; unfold combL; rw [hxl, Nat.min_self]
  have hrl := hv.len'
  obtain ⟨XA, xc, rfl, _⟩ := hx
  obtain ⟨RA, rc, rfl, _⟩ := hv
  clear hG hR hf
  rw [hxl] at HX HCB ⊢
  clear hxl
  obtain ⟨r, hrr⟩ : ∃ r, r = rows.length := ⟨_, rfl⟩
  rw [← hrr] at HX HV HCB hrl ⊢
  have HRR := Lib.hid hrr; clear hrr
  have hmk := fun (w : World) => run_mkI n (by omega) w
  go_enter Try.func88, Try.ntmps88
  go_upto_region 2 with fail
  obtain ⟨w1, g, e1, e2, hX, hb⟩ := mk_row w n
  rw [e1, e2]
  have HO0 : Hid (OI w.heap.size w1 (.slice (some ⟨g, 0, none⟩) n n) (combTo (refOps P M Mod) x rows n 0)) := hid' (by
    have h := hX.oi (B := w.heap.size) (by omega) (by simp; omega)
    rw [List.length_replicate] at h
    exact h)
  have HB0 := Lib.hid hb
  have hg : w.heap.size ≤ g := by omega
  clear e1 e2 hX hb hmk
  go_wp2_with fail
  go_loopw [16] (fun i wr => ∃ k : Nat, k ≤ r ∧ i = .int .i64 (k : Int) ∧ Hid (OI w.heap.size wr (.slice (some ⟨g, 0, none⟩) n n) (combTo (refOps P M Mod) x rows n k)) ∧ Hid (Below w.heap.size w wr)) (fun i _ => r - (intOf i).toNat)
  case atStart => exact ⟨0, Nat.zero_le _, rfl, HO0, HB0⟩
  case round =>
    clear HO0 HB0
    obtain ⟨k, hk, rfl, HO, HB⟩ := hrel
    by_cases hkr : k < r
    · obtain ⟨ad, z, rfl, hc, _, HZ⟩ := (HX.out.below HB.out (Nat.le_refl _)).elt (k := k) (by rw [HXL.out, ← HRR.out]; exact hkr)
      by_cases hz : z = 0
      · subst hz
        have HNX : Hid (combTo (refOps P M Mod) x rows n (k + 1) = combTo (refOps P M Mod) x rows n k) := by show _ = _; rw [combTo, if_neg (by rw [HZ.out]; simp)]
        go_wp2_with fail
        exact ⟨⟨k + 1, by omega, by push_cast; rfl, by rw [HNX.out]; exact HO, HB⟩, by simp only [intOf]; omega⟩
      · have hzb : (z != 0) = true := by simpa using hz
        obtain ⟨rd, Ak, ck, row, rfl, hd, HRW, HRE⟩ := (HV.out.below HB.out (Nat.le_refl _)).eltA (k := k) (by rw [← HRR.out]; exact hkr)
        have hrow : row.length = n := by rw [← HRE.out]; exact (HR.out k (by rw [← HRR.out]; exact hkr)).1
        have HNX : Hid (combTo (refOps P M Mod) x rows n (k + 1) = addToL (refOps P M Mod) (combTo (refOps P M Mod) x rows n k) z row) := by show _ = _; rw [combTo, if_pos (by rw [HZ.out]; exact hz), HZ.out, HRE.out]
        have HRB : Hid (0 < n → ∀ b, (Value.slice Ak n ck).ownBlock = some b → b < w.heap.size) := hid' (fun h0 b hb => by
          obtain ⟨rd', Ak', ck', row', e5, hd', hr', hre'⟩ := HV.out.eltA (k := k) (by rw [← HRR.out]; exact hkr)
          injection e5 with e5
          subst e5
          have hd2 := cell_below HB.out hd'
          rw [hd] at hd2
          have h4 := Option.some.inj hd2
          rw [← hre'.out, HRE.out] at h4 hr'
          injection h4 with h5 h6 h7
          subst h5
          subst h7
          have h8 := hr'.out.si
          rw [hrow] at h8
          exact h8.lt (by rw [hrow]; exact h0) hb)
        have HRI := Lib.hid HRW.out.si
        rw [hrow] at HRI hd
        have HCL : Hid ((combTo (refOps P M Mod) x rows n k).length = n) := hid' (combTo_len _ _ _ _ _)
        have HCR : Hid (∀ j, I64 ((combTo (refOps P M Mod) x rows n k).getD j 0)) := hid' (fun j => by
          have h := combTo_rng HLT.out x rows n k j
          exact I64.of_small (by omega) (by omega))
        clear hz
        go_wp2_with fail
        refine (madd_any w wr w.heap.size a g n n 0 P M z Mod _ row Ak ck HG.out HB.out (Nat.le_refl _) HO.out HCL.out HRI.out hrow (fun h0 b hb e => by have := HRB.out h0 b hb; omega) hn HCR.out).mono ?_
        rintro e w5 ⟨rfl, ho5, hg5⟩
        rw [← HNX.out] at ho5
        have HO5 := Lib.hid ho5
        have HB5 := Lib.hid (HB.out.grown hg5 HB.out.size (fun b e => by cases e; exact hg))
        clear ho5 hg5
        go_wp2_with fail
        exact ⟨⟨k + 1, by omega, by push_cast; rfl, HO5, HB5⟩, by simp only [intOf]; omega⟩
    · obtain rfl : k = r := by omega
      rw [← HCB.out] at HO
      go_wp2_with fail
      go_ret
      exact ⟨_, rfl, HO.out, HB.out⟩

end Go.Proofs.Ytlcgihjdafglmaa

/- matrix.Vec where all is well. -/
namespace Go.Proofs.Ytlcgihjdafglmaa
open Go.RowKit
set_option linter.unusedVariables false
set_option maxRecDepth 100000

set_option maxHeartbeats 8000000 in
theorem mVec_ok (w : World) (P M : Int) (n : Nat) (mv rv xv : Value) (Mod x : List Int) (rows : List (List Int)) (hm : SI w mv Mod) (hv : SS w rv rows) (hx : SI w xv x) (he : matE P M Mod n rows = 0) (hxl : x.length = rows.length) (hxe : entriesF (orderF P M) x = 0) :
    Calls Try.prog 54 #[.agg #[.int .i64 P, .int .i64 M, mv], xv, .agg #[.int .i64 (n : Int), rv]] w (RetLE w (combL (refOps P M Mod) x rows n) 0) := by
  have HM := Lib.hid hm; have HV := Lib.hid hv; have HX := Lib.hid hx; clear hm
  obtain ⟨hf, _, hn, hr, hR⟩ := matE_zero he
  rw [Int.toNat_natCast] at hR
  have HR := Lib.hid hR
  have HE := Lib.hid he
  have HXE := Lib.hid hxe
  have HXL := Lib.hid hxl
  have HOF := orderF_bounds P M
  have HCI : Hid (∀ k, I64 ((combL (refOps P M Mod) x rows n).getD k 0)) := hid' fun k => by
    have h := combTo_rng (refOps_lt hf.1 Mod) x rows n (min rows.length x.length) k
    exact I64.of_small (by unfold combL; omega) (by unfold combL; omega)
  have HCL : Hid ((combL (refOps P M Mod) x rows n).length = n) := hid' (combTo_len _ _ _ _ _)
  clear he hR hf hxe
  obtain ⟨RA, rc, rfl, _⟩ := hv
  obtain ⟨XA, xc, rfl, _⟩ := hx
  rw [hxl] at HX ⊢
  obtain ⟨r0, hrr⟩ : ∃ r0, r0 = rows.length := ⟨_, rfl⟩
  rw [← hrr] at HV HX hr ⊢
  have HRR := Lib.hid hrr; clear hrr hxl
  have HVC := Lib.hid (fun (w' : World) (a : Nat) (hg : GF w' a P M Mod) (hb : Below w.heap.size w w') => mvec_any w' a P M n Mod x _ _ rows hg (HX.out.below hb (Nat.le_refl _)) (HV.out.below hb (Nat.le_refl _)) HR.out HXL.out (by omega))
  obtain ⟨w1, hw1⟩ : ∃ w1, w1 = (w.alloc (.cells #[.int .i64 P, .int .i64 M, mv] 24)).alloc (.cells #[.int .i64 (n : Int), .slice RA r0 rc] 69) := ⟨_, rfl⟩
  have HQ : Hid (FMBox w w1 P M mv n (.slice RA r0 rc)) := hid' (by rw [hw1]; exact FMBox.mk' w P M mv n _)
  have hsz : w1.heap.size = w.heap.size + 1 + 1 := by rw [hw1, World.size_alloc, World.size_alloc]
  have HW1 := Lib.hid hw1.symm; clear hw1
  go_enter Try.func54, Try.ntmps54
  go_upto_region 1 with fail
  rw [HW1.out]
  clear HW1
  have c0 := HQ.out.fb.c0; have c1 := HQ.out.fb.c1; have c2 := HQ.out.fb.c2; have d0 := HQ.out.d0; have d1 := HQ.out.d1
  go_wp2_with fail
  refine (mopen_ok w w1 P M n _ mv _ Mod rows HQ.out.fb.bel hsz HM.out HV.out HE.out).mono ?_
  rintro e w2 ⟨a, rfl, hg, hb2⟩
  have HG := Lib.hid hg
  have HQ2 := Lib.hid (HQ.out.on hb2)
  clear hg hb2 c0 c1 c2 d0 d1 HQ
  have d0 := HQ2.out.d0; have d1 := HQ2.out.d1
  have hrb : ((r0 : Int) != (r0 : Int)) = false := by simp
  go_wp2_with fail
  clear hrb
  refine (mentries_any w2 a P M Mod x _ HG.out (HX.out.below HQ2.out.fb.bel (Nat.le_refl _))).mono ?_
  rintro e w3 ⟨rfl, rfl⟩
  rw [HXE.out]
  go_wp2_with fail
  refine (HVC.out w2 a HG.out HQ2.out.fb.bel).mono ?_
  rintro e w4 ⟨u, rfl, ho, hb4⟩
  have HO := Lib.hid ho
  have HB := Lib.hid (bl_trans HQ2.out.fb.bel hb4)
  have hs2 := HQ2.out.fb.bel.size
  clear ho hb4 d0 d1
  go_wp2_with fail
  go_ret2
  exact ⟨_, rfl, HO.out.si (by rw [HCL.out]; omega) HCI.out, HO.out.new hs2, HB.out⟩
end Go.Proofs.Ytlcgihjdafglmaa

/- code.list over a field. -/
namespace Go.Proofs.Ytlcgihjdafglmaa
open Go.RowKit
set_option linter.unusedVariables false
set_option maxRecDepth 100000

set_option maxHeartbeats 8000000 in
theorem cList_any (w : World) (P M n : Int) (mv xv : Value) (Mod x : List Int) (hm : SI w mv Mod) (hx : SI w xv x) (hf : FieldP P M Mod) :
    Calls Try.prog 53 #[.agg #[.int .i64 P, .int .i64 M, mv], xv, .int .i64 n] w (RetI w (listF (orderF P M) x n)) := by
  by_cases hl : (x.length : Int) = n
  case neg =>
    have HE : Hid (listF (orderF P M) x n = 4) := hid' (by unfold listF; rw [if_neg hl])
    obtain ⟨XA, xc, rfl, _⟩ := hx
    obtain ⟨l, hll⟩ : ∃ l, l = x.length := ⟨_, rfl⟩
    rw [← hll] at hl ⊢
    clear hll hm hf
    have hnb : ((l : Int) != n) = true := by rw [bne_iff_ne]; exact hl
    clear hl
    have HF := Lib.hid (FBox.mk' w P M mv)
    go_enter Try.func53, Try.ntmps53
    go_upto_region 1 with fail
    generalize w.alloc (.cells #[.int .i64 P, .int .i64 M, mv] 24) = w0 at *
    go_wp2_with fail
    go_ret
    exact ⟨by rw [HE.out]; rfl, HF.out.bel⟩
  by_cases he : entriesF (orderF P M) x = 0
  · rw [show listF (orderF P M) x n = 0 by unfold listF; rw [if_pos hl, he]]
    exact cList_ok w P M n mv xv Mod x hm hx hf hl he
  have he2 : entriesF (orderF P M) x = 2 := by rcases entriesF_cases (orderF P M) x with h | h; exact absurd h he; exact h
  rw [show listF (orderF P M) x n = 2 by unfold listF; rw [if_pos hl, he2]]
  have HNW := Lib.hid (fun (w' : World) (hb : Below w.heap.size w w') => new_ok w' P M mv Mod (hm.below hb (Nat.le_refl _)) hf)
  unfold RetG at HNW
  have HX := Lib.hid hx
  have HE : Hid (decide (entriesF (orderF P M) x ≠ 0) = true) := hid' (by rw [he2]; rfl)
  obtain ⟨XA, xc, rfl, _⟩ := hx
  obtain ⟨l, hll⟩ : ∃ l, l = x.length := ⟨_, rfl⟩
  rw [← hll] at HX hl ⊢
  clear hll hm hf he he2
  have hnb : ((l : Int) != n) = false := by rw [bne_eq_false_iff_eq]; exact hl
  clear hl
  have HF := Lib.hid (FBox.mk' w P M mv)
  go_enter Try.func53, Try.ntmps53
  go_upto_region 1 with fail
  generalize w.alloc (.cells #[.int .i64 P, .int .i64 M, mv] 24) = w0 at *
  have c0 := HF.out.c0; have c1 := HF.out.c1; have c2 := HF.out.c2
  go_wp2_with fail
  refine (HNW.out w0 HF.out.bel).mono ?_
  rintro e w1 ⟨a, rfl, hg, hb1⟩
  have HG := Lib.hid hg.out
  have HF1 := Lib.hid (HF.out.on hb1)
  clear hg hb1 c0 c1 c2
  go_upto_region 4 with fail
  obtain ⟨w2, g, e1, e2, hx2, hb2⟩ := mk_box w1 80 [.pointer (some ⟨a, 0, none⟩)]
  rw [e1, e2]
  have HF2 := Lib.hid (HF1.out.on hb2); have HG2 := Lib.hid (HG.out.on hb2); have HX2 := Lib.hid (HX.out.below HF2.out.bel (Nat.le_refl _))
  have HC := Lib.hid (containsC_any w2 g a P M Mod _ x HG2.out (hx2.cell 0) HX2.out)
  rw [HE.out] at HC
  clear e1 e2 hx2 hb2
  go_wp2_with fail
  refine HC.out.mono ?_
  rintro e w3 ⟨rfl, rfl⟩
  go_wp2_with fail
  go_ret
  exact ⟨rfl, HF2.out.bel⟩
end Go.Proofs.Ytlcgihjdafglmaa

/- code.Encode. -/
namespace Go.Proofs.Ytlcgihjdafglmaa
open Go.RowKit
set_option linter.unusedVariables false
set_option maxRecDepth 100000

set_option maxHeartbeats 16000000 in
theorem cEncode_any (w : World) (P M n : Int) (mv gv lv : Value) (Mod l : List Int) (gen : List (List Int)) (hm : SI w mv Mod) (hg : SS w gv gen) (hl : SI w lv l) :
    Calls Try.prog 24 #[.agg #[.int .i64 P, .int .i64 M, mv, .int .i64 n, gv], lv] w (RetLE w (encL P M Mod n gen l) (encE P M Mod n gen l)) := by
  have HCK := Lib.hid (fun (w' : World) (hb : Below w.heap.size w w') => cCheck_any w' P M n mv gv Mod gen (hm.below hb (Nat.le_refl _)) (hg.below hb (Nat.le_refl _)))
  by_cases hE : codeE P M Mod n gen = 0
  case neg =>
    have HE : Hid (encE P M Mod n gen l = codeE P M Mod n gen) := hid' (by unfold encE; rw [if_neg hE])
    have HL : Hid (encL P M Mod n gen l = []) := hid' (by unfold encL; rw [HE.out, if_neg hE])
    rw [HE.out, HL.out]
    have e1 : (codeE P M Mod n gen == 0) = false := by rw [beq_eq_false_iff_ne]; exact hE
    have e2 : (codeE P M Mod n gen != 0) = true := by rw [bne_iff_ne]; exact hE
    generalize codeE P M Mod n gen = er at *
    clear hE hm hg hl HE HL
    have HF := Lib.hid (CBox.mk' w P M mv n gv)
    go_enter Try.func24, Try.ntmps24
    go_upto_region 1 with fail
    generalize w.alloc (.cells #[.int .i64 P, .int .i64 M, mv, .int .i64 n, gv] 27) = w0 at *
    have c0 := HF.out.c0; have c1 := HF.out.c1; have c2 := HF.out.c2; have c3 := HF.out.c3; have c4 := HF.out.c4
    go_wp2_with fail
    refine (HCK.out w0 HF.out.bel).mono ?_
    rintro e w1 ⟨rfl, hb1⟩
    have HF1 := Lib.hid (HF.out.on hb1)
    clear hb1 c0 c1 c2 c3 c4
    go_wp2_with fail
    go_ret2
    exact RetLE.nil w er HF1.out.bel
  obtain ⟨hf, hn1, hn2, hgl, hR, hcan⟩ := codeE_zero hE
  obtain ⟨N, rfl⟩ : ∃ N : Nat, n = (N : Int) := ⟨n.toNat, by omega⟩
  rw [Int.toNat_natCast] at hR hcan
  have HLI := Lib.hid (fun (w' : World) (hb : Below w.heap.size w w') => cList_any w' P M gen.length mv lv Mod l (hm.below hb (Nat.le_refl _)) (hl.below hb (Nat.le_refl _)) hf)
  have HEE : Hid (encE P M Mod N gen l = listF (orderF P M) l gen.length) := hid' (by unfold encE; rw [if_pos hE])
  rw [hE] at HCK
  have HS := Lib.hid hg
  obtain ⟨GA, gc, rfl, _⟩ := hg
  by_cases hli : listF (orderF P M) l gen.length = 0
  case neg =>
    have HL : Hid (encL P M Mod N gen l = []) := hid' (by unfold encL; rw [HEE.out, if_neg hli])
    rw [HEE.out, HL.out]
    have e2 : (listF (orderF P M) l gen.length != 0) = true := by rw [bne_iff_ne]; exact hli
    clear hE hm hl hli HL HEE hR hcan hf hgl HS
    generalize listF (orderF P M) l gen.length = er at *
    generalize gen.length = gl at *
    have HF := Lib.hid (CBox.mk' w P M mv N (.slice GA gl gc))
    go_enter Try.func24, Try.ntmps24
    go_upto_region 1 with fail
    generalize w.alloc (.cells #[.int .i64 P, .int .i64 M, mv, .int .i64 (N : Int), .slice GA gl gc] 27) = w0 at *
    have c0 := HF.out.c0; have c1 := HF.out.c1; have c2 := HF.out.c2; have c3 := HF.out.c3; have c4 := HF.out.c4
    go_wp2_with fail
    refine (HCK.out w0 HF.out.bel).mono ?_
    rintro e w1 ⟨rfl, hb1⟩
    have HF1 := Lib.hid (HF.out.on hb1)
    clear hb1 c0 c1 c2 c3 c4
    have c0 := HF1.out.c0; have c1 := HF1.out.c1; have c2 := HF1.out.c2; have c3 := HF1.out.c3; have c4 := HF1.out.c4
    go_wp2_with fail
    refine (HLI.out w1 HF1.out.bel).mono ?_
    rintro e w2 ⟨rfl, hb2⟩
    have HF2 := Lib.hid (HF1.out.on hb2)
    clear hb2 c0 c1 c2 c3 c4
    go_wp2_with fail
    go_ret2
    exact RetLE.nil w er HF2.out.bel
  obtain ⟨hll, hlr⟩ := listF_zero hli
  have hsp : spaceE P M Mod N gen = 0 := by
    unfold codeE at hE
    split at hE
    · rename_i h; exact absurd hE h
    split at hE
    · exact hE
    · cases hE
  have HVC := Lib.hid (fun (w' : World) (hb : Below w.heap.size w w') => mVec_ok w' P M N mv (.slice GA gen.length gc) lv Mod l gen (hm.below hb (Nat.le_refl _)) (HS.out.below hb (Nat.le_refl _)) (hl.below hb (Nat.le_refl _)) (cspE_zero hsp).1 (by omega) (entriesF_ok fun k hk => hlr k hk))
  have HL : Hid (encL P M Mod N gen l = combL (refOps P M Mod) l gen N) := hid' (by unfold encL; rw [HEE.out, if_pos hli, Int.toNat_natCast])
  rw [HEE.out, HL.out, hli]
  rw [hli] at HLI
  clear hE hm hl hli HL HEE hR hcan hf hgl HS hlr hsp hll
  generalize combL (refOps P M Mod) l gen N = y at *
  generalize gen.length = gl at *
  unfold RetLE at HVC
  have HF := Lib.hid (CBox.mk' w P M mv N (.slice GA gl gc))
  go_enter Try.func24, Try.ntmps24
  go_upto_region 1 with fail
  generalize w.alloc (.cells #[.int .i64 P, .int .i64 M, mv, .int .i64 (N : Int), .slice GA gl gc] 27) = w0 at *
  have c0 := HF.out.c0; have c1 := HF.out.c1; have c2 := HF.out.c2; have c3 := HF.out.c3; have c4 := HF.out.c4
  go_wp2_with fail
  refine (HCK.out w0 HF.out.bel).mono ?_
  rintro e w1 ⟨rfl, hb1⟩
  have HF1 := Lib.hid (HF.out.on hb1)
  clear hb1 c0 c1 c2 c3 c4
  have c0 := HF1.out.c0; have c1 := HF1.out.c1; have c2 := HF1.out.c2; have c3 := HF1.out.c3; have c4 := HF1.out.c4
  go_wp2_with fail
  refine (HLI.out w1 HF1.out.bel).mono ?_
  rintro e w2 ⟨rfl, hb2⟩
  have HF2 := Lib.hid (HF1.out.on hb2)
  clear hb2 c0 c1 c2 c3 c4
  have c0 := HF2.out.c0; have c1 := HF2.out.c1; have c2 := HF2.out.c2; have c3 := HF2.out.c3; have c4 := HF2.out.c4
  go_upto_region 6 with fail
  refine Kept.start (S := fun w' => w'.cell? ⟨w.heap.size, 0, none⟩ = some (.int .i64 P) ∧ w'.cell? ⟨w.heap.size, 1, none⟩ = some (.int .i64 M) ∧ w'.cell? ⟨w.heap.size, 2, none⟩ = some mv ∧ w'.cell? ⟨w.heap.size, 3, none⟩ = some (.int .i64 (N : Int)) ∧ w'.cell? ⟨w.heap.size, 4, none⟩ = some (.slice GA gl gc)) (by kernel_rfl) (⟨c0, c1, c2, c3, c4⟩) (fun hHeld => ?_)
  change Kept _ _ _ _ 10 _ _ _
  refine Kept.take (i := 0) (v := ?_) rfl (by kernel_rfl) (by kernel_rfl) (by kernel_rfl) (fun _ _ _ h => h) (Or.inl ⟨by kernel_rfl, ?_⟩) hHeld ?_
  rotate_left
  · intro w' hSw; (try dsimp only at hSw); first | (go_simp; done) | (go_simp; with_reducible rfl)
  try simp only [List.getElem_toArray, List.getElem_cons_zero, List.getElem_cons_succ, Act.put, List.setIfInBounds_toArray, List.set_cons_zero, List.set_cons_succ]
  refine Kept.take (i := 1) (v := ?_) rfl (by kernel_rfl) (by kernel_rfl) (by kernel_rfl) (fun _ _ _ h => h) (Or.inl ⟨by kernel_rfl, ?_⟩) hHeld ?_
  rotate_left
  · intro w' hSw; (try dsimp only at hSw); first | (go_simp; done) | (go_simp; with_reducible rfl)
  try simp only [List.getElem_toArray, List.getElem_cons_zero, List.getElem_cons_succ, Act.put, List.setIfInBounds_toArray, List.set_cons_zero, List.set_cons_succ]
  refine Kept.take (i := 2) (v := ?_) rfl (by kernel_rfl) (by kernel_rfl) (by kernel_rfl) (fun _ _ _ h => h) (Or.inl ⟨by kernel_rfl, ?_⟩) hHeld ?_
  rotate_left
  · intro w' hSw; (try dsimp only at hSw); first | (go_simp; done) | (go_simp; with_reducible rfl)
  try simp only [List.getElem_toArray, List.getElem_cons_zero, List.getElem_cons_succ, Act.put, List.setIfInBounds_toArray, List.set_cons_zero, List.set_cons_succ]
  refine Kept.take (i := 3) (v := ?_) rfl (by kernel_rfl) (by kernel_rfl) (by kernel_rfl) (fun _ _ _ h => h) (Or.inl ⟨by kernel_rfl, ?_⟩) hHeld ?_
  rotate_left
  · intro w' hSw; (try dsimp only at hSw); first | (go_simp; done) | (go_simp; with_reducible rfl)
  try simp only [List.getElem_toArray, List.getElem_cons_zero, List.getElem_cons_succ, Act.put, List.setIfInBounds_toArray, List.set_cons_zero, List.set_cons_succ]
  refine Kept.only (i := 4) (by kernel_rfl) rfl (fun K hK => ?_)
  go_simp
  refine (cgen_any _ P M N mv GA gl gc).mono ?_; rintro e w3 ⟨rfl, hb3⟩; have HF3 := Lib.hid (HF2.out.on (bl_trans (bl_drew w2) hb3)); clear hb3
  refine hK.out _ _ (⟨HF3.out.c0, HF3.out.c1, HF3.out.c2, HF3.out.c3, HF3.out.c4⟩) (fun hHeld2 => ?_)
  clear hK K
  replace hHeld := hHeld2
  clear hHeld2
  try simp only [List.getElem_toArray, List.getElem_cons_zero, List.getElem_cons_succ, Act.put, List.setIfInBounds_toArray, List.set_cons_zero, List.set_cons_succ]
  refine Kept.only (i := 5) (by kernel_rfl) rfl (fun K hK => ?_)
  go_simp
  refine (HVC.out w3 HF3.out.bel).mono ?_; rintro e w4 ⟨u4, rfl, hs4, hn4, hb4⟩; have HS4 := Lib.hid hs4; have HN4 := Lib.hid hn4; have HF4 := Lib.hid (HF3.out.on hb4); clear hs4 hn4 hb4
  refine hK.out _ _ (⟨HF4.out.c0, HF4.out.c1, HF4.out.c2, HF4.out.c3, HF4.out.c4⟩) (fun hHeld2 => ?_)
  clear hK K
  replace hHeld := hHeld2
  clear hHeld2
  try simp only [List.getElem_toArray, List.getElem_cons_zero, List.getElem_cons_succ, Act.put, List.setIfInBounds_toArray, List.set_cons_zero, List.set_cons_succ]
  refine Kept.take (i := 6) (v := ?_) rfl (by kernel_rfl) (by kernel_rfl) (by kernel_rfl) (fun _ _ _ h => h) (Or.inl ⟨by kernel_rfl, ?_⟩) hHeld ?_
  rotate_left
  · intro w' hSw; (try dsimp only at hSw); first | (go_simp; done) | (go_simp; with_reducible rfl)
  try simp only [List.getElem_toArray, List.getElem_cons_zero, List.getElem_cons_succ, Act.put, List.setIfInBounds_toArray, List.set_cons_zero, List.set_cons_succ]
  refine Kept.take (i := 7) (v := ?_) rfl (by kernel_rfl) (by kernel_rfl) (by kernel_rfl) (fun _ _ _ h => h) (Or.inl ⟨by kernel_rfl, ?_⟩) hHeld ?_
  rotate_left
  · intro w' hSw; (try dsimp only at hSw); first | (go_simp; done) | (go_simp; with_reducible rfl)
  try simp only [List.getElem_toArray, List.getElem_cons_zero, List.getElem_cons_succ, Act.put, List.setIfInBounds_toArray, List.set_cons_zero, List.set_cons_succ]
  refine Kept.take (i := 8) (v := ?_) rfl (by kernel_rfl) (by kernel_rfl) (by kernel_rfl) (fun _ _ _ h => h) (Or.inl ⟨by kernel_rfl, ?_⟩) hHeld ?_
  rotate_left
  · intro w' hSw; (try dsimp only at hSw); first | (go_simp; done) | (go_simp; with_reducible rfl)
  try simp only [List.getElem_toArray, List.getElem_cons_zero, List.getElem_cons_succ, Act.put, List.setIfInBounds_toArray, List.set_cons_zero, List.set_cons_succ]
  refine Kept.only (i := 9) (by kernel_rfl) rfl (fun K hK => ?_)
  go_simp
  refine hK.out _ _ hHeld (fun hHeld2 => ?_)
  clear hK K
  clear hHeld2
  refine Kept.done (by kernel_rfl) ?_
  try simp only [List.getElem_toArray, List.getElem_cons_zero, List.getElem_cons_succ, Act.put, List.setIfInBounds_toArray, List.set_cons_zero, List.set_cons_succ]
  clear hHeld
  clear c0 c1 c2 c3 c4
  go_wp2_with fail
  go_ret2
  exact ⟨_, rfl, HS4.out, HN4.out.mono HF3.out.bel, HF4.out.bel⟩
end Go.Proofs.Ytlcgihjdafglmaa
