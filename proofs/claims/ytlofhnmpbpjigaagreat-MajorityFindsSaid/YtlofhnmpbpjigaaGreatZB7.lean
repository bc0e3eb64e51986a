/- Texts of a claim, merged: words, plain facts and walks that the last of its texts uses. -/
import Derived.Test.YtlofhnmpbpjigaaGreatZB1
import Derived.Test.YtlofhnmpbpjigaaGreatZB2
import Derived.Test.YtlofhnmpbpjigaaGreatZB3
import Derived.Test.YtlofhnmpbpjigaaGreatZB6
import Derived.Deep.CutRange
import Derived.Lib.LazyBuf
import Derived.WalkSpells
set_option linter.unusedSimpArgs false
set_option linter.unusedVariables false

namespace Go.Proofs.YtlofhnmpbpjigaaGreat
open Go.RowKit
set_option maxRecDepth 100000
def seenL (O : FOps) (x : Int) (q k : Nat) : List Bool := (List.range q).map fun i : Nat => ((List.range k).map (powO O x)).contains (i : Int)
theorem seenL_len (O : FOps) (x : Int) (q k : Nat) : (seenL O x q k).length = q := by simp [seenL]
theorem seenL_getD {O : FOps} {x : Int} {q k i : Nat} (h : i < q) : (seenL O x q k)[i]? = some (((List.range k).map (powO O x)).contains (i : Int)) := by
 unfold seenL
 rw [List.getElem?_map, List.getElem?_range h]; rfl
theorem seenL_set {O : FOps} {x : Int} {q k i : Nat} (hi : i < q) (h : powO O x k = i) : (seenL O x q k).set i true = seenL O x q (k + 1) := by
 apply List.ext_getElem?
 intro j
 by_cases hj : j < q
 ·rw [seenL_getD hj]
  by_cases e : i = j
  ·subst e
   rw [List.getElem?_set_self (by rw [seenL_len]; exact hi)]
   congr 1
   rw [eq_comm, List.contains_iff_mem]
   exact List.mem_map.2 ⟨k, List.mem_range.2 (by omega), h⟩
  ·rw [List.getElem?_set_ne e, seenL_getD hj]
   congr 1
   rw [Bool.eq_iff_iff, List.contains_iff_mem, List.contains_iff_mem, List.mem_map, List.mem_map]
   constructor
   ·rintro ⟨a, ha, he⟩
    exact ⟨a, List.mem_range.2 (by have := List.mem_range.1 ha; omega), he⟩
   ·rintro ⟨a, ha, he⟩
    have := List.mem_range.1 ha
    refine ⟨a, List.mem_range.2 ?_, he⟩
    have : a ≠ k := fun e2 => by rw [e2, h] at he; exact e (by omega)
    omega
 ·rw [List.getElem?_eq_none (by simp [seenL_len]; omega), List.getElem?_eq_none (by rw [seenL_len]; omega)]
theorem inj_le : ∀ (k n : Nat) (f : Nat → Nat), (∀ i, i < k → f i < n) → (∀ i j, i < k → j < k → f i = f j → i = j) → k ≤ n := by
 intro k n f h1 h2
 refine Nat.le_of_not_lt fun hlt => ?_
 -- extend f to n numbers
 obtain ⟨i, hi, he⟩ := inj_surj n f (fun i hi => h1 i (by omega)) (fun i j hi hj => h2 i j (by omega) (by omega)) (f n) (h1 n hlt)
 have := h2 i n (by omega) hlt he
 omega
theorem mulR_comm {P M : Int} {Mod : List Int} (ho : orderF P M ≠ 0) (hmod : ModP P M Mod) (x y : Int) : mulR P M Mod x y = mulR P M Mod y x :=
 dg_ext ho (mulR_lt ho Mod x y) (mulR_lt ho Mod y x) fun i hi => by
  rw [dg_mul ho hmod x y hi, dg_mul ho hmod y x hi, mulZ_comm _ _ (dg_sup P M x) (dg_sup P M y)]
def slLen : Value → Nat
 | .slice _ n _ => n
 | _ => 0
theorem run_le {O : FOps} {x : Int} {q k : Nat} (h1 : 1 ≤ k) (hl : ∀ j, 0 ≤ powO O x j ∧ powO O x j < (q : Int)) (hs : ∀ j, 1 ≤ j → j < k → stopB O x j = false) : k ≤ q - 1 := by
 have pos : ∀ i, i < k → powO O x i ≠ 0 := fun i hi => by
  by_cases h0 : i = 0
  ·rw [h0]; show (1 : Int) ≠ 0; decide
  ·exact (stopB_false (hs i (by omega) hi)).1
 refine inj_le k (q - 1) (fun i => (powO O x i).toNat - 1) (fun i hi => ?_) fun i j hi hj e => ?_
 ·have := pos i hi; have := hl i; omega
 ·have a := pos i hi; have b := pos j hj; have c := hl i; have d := hl j
  have e2 : powO O x i = powO O x j := by omega
  rcases Nat.lt_trichotomy i j with h | h | h
  ·exact absurd e2 ((stopB_false (hs j (by omega) hj)).2 i h)
  ·exact h
  ·exact absurd e2.symm ((stopB_false (hs i (by omega) hi)).2 j h)
theorem stop_eq {O : FOps} {x : Int} {q k : Nat} (h1 : 1 ≤ k) (hk : k ≤ q) (hs : ∀ j, 1 ≤ j → j < k → stopB O x j = false) (hb : stopB O x k = true) : stopF O x q 1 = k := by
 have key : ∀ f m, 1 ≤ m → m ≤ k → k < m + f → stopF O x f m = k := by
  intro f
  induction f with
  | zero => intro m _ h2 h3; omega
  | succ f ih =>
   intro m h1 h2 h3
   rw [stopF]
   by_cases e : m = k
   ·subst e; rw [if_pos hb]
   ·rw [if_neg (by rw [hs m h1 (by omega)]; decide)]
    exact ih (m + 1) (by omega) (by omega) (by omega)
 exact key q 1 (Nat.le_refl _) h1 (by omega)
set_option maxHeartbeats 8000000 in
theorem powers_any (w : World) (P M x : Int) (mv : Value) (Mod : List Int) (h : SI w mv Mod) (hs : ShapeP P M Mod) (hx0 : 1 ≤ x) (hx1 : x < orderF P M) :
  Calls Tryz.prog 120 #[.agg #[.int .i64 P, .int .i64 M, mv], .int .i64 (orderF P M), .int .i64 x] w (RetO w (powL (refOps P M Mod) (orderF P M) x)) := by
 have HM0 := Lib.hid h; clear h
 have HS := Lib.hid hs
 have hq2 := one_lt_order hs.1
 have hqb := orderF_bounds P M
 have HPL := Lib.hid (fun k => powR_lt (Mod := Mod) hs.1 x k)
 obtain ⟨q, hq⟩ : ∃ q : Nat, orderF P M = (q : Int) := ⟨(orderF P M).toNat, by omega⟩
 obtain ⟨O, hO⟩ : ∃ O, O = refOps P M Mod := ⟨_, rfl⟩
 rw [← hO] at HPL ⊢
 rw [hq] at HPL hx1 hq2 hqb ⊢
 have HQ := Lib.hid hq; have HOE := Lib.hid hO; clear hq hO hs
 have hq1 : 1 < q := by omega
 have hq256 : q ≤ 256 := by omega
 have hmk := fun (w : World) => run_mkB q (by omega) w
 have HF := Lib.hid (FBox.mk' w P M mv)
 obtain ⟨W2, hW2⟩ : ∃ W2, W2 = (w.alloc (.cells #[.int .i64 P, .int .i64 M, mv] 24)).alloc (.cells #[.int .i64 1] 3) := ⟨_, rfl⟩
 have hsz : W2.heap.size = w.heap.size + 1 + 1 := by rw [hW2, World.size_alloc, World.size_alloc]
 have HRB := Lib.hid (RB.made W2 q)
 have HF1 : Hid (FBox w (W2.alloc (.cells (madeCells #[.bool false] q) 4)) P M mv) := by
  rw [hW2]; exact (HF.out.on (bl_alloc _ _)).on (bl_alloc _ _)
 have HOI : Hid (OI (w.heap.size + 1) (W2.alloc (.cells (madeCells #[.bool false] q) 4)) (.slice (some ⟨w.heap.size + 1, 0, none⟩) 1 1) [1]) := by
  have h1 := OI.lit (B := w.heap.size + 1) (w.alloc (.cells #[.int .i64 P, .int .i64 M, mv] 24)) [1] (by rw [World.size_alloc]; omega) (by simp)
  rw [World.size_alloc] at h1
  rw [hW2]
  exact h1.alloc _
 have hb1 : (W2.alloc (.cells (madeCells #[.bool false] q) 4)).cell? ⟨w.heap.size + 1 + 1, 1, none⟩ = some (.bool false) := by
  have := HRB.out.cell 1 (by simp; omega)
  rw [hsz] at this
  rw [this]
  simp [List.getD, hq1]
 have hf1 : (W2.alloc (.cells (madeCells #[.bool false] q) 4)).frozen? ⟨w.heap.size + 1 + 1, 1, none⟩ = false := by
  have := HRB.out.frozen 1
  rw [hsz] at this
  exact this
 rw [hW2] at hb1 hf1
 have HW2 := Lib.hid hW2; have HSZ := Lib.hid hsz; clear hW2 hsz
 go_enter Tryz.func120, Tryz.ntmps120
 go_wp2_with fail
 clear hmk hb1 hf1
 rw [← HW2.out]
 obtain ⟨S, hS⟩ : ∃ S, S = w.heap.size + 1 + 1 := ⟨_, rfl⟩
 have hS0 : w.heap.size < S := by omega
 rw [← hS]
 rw [HSZ.out, ← hS] at HRB
 have HR1 : Hid (RB ((W2.alloc (.cells (madeCells #[.bool false] q) 4)).setCell ⟨S, 1, none⟩ (.bool true)) S (seenL O x q 1)) := by
  have h0 : seenL O x q 0 = List.replicate q false := by simp [seenL, List.map_const']
  have := HRB.out.set 1 true
  rw [← h0, seenL_set (k := 0) (by omega) rfl] at this
  exact this
 have HF2 : Hid (FBox w ((W2.alloc (.cells (madeCells #[.bool false] q) 4)).setCell ⟨S, 1, none⟩ (.bool true)) P M mv) := HF1.out.far hS0 _
 have HO2 : Hid (OI (w.heap.size + 1) ((W2.alloc (.cells (madeCells #[.bool false] q) 4)).setCell ⟨S, 1, none⟩ (.bool true)) (.slice (some ⟨w.heap.size + 1, 0, none⟩) 1 1) ((List.range 1).map (powO O x))) :=
  HOI.out.grown (gr_set1 _ S 1 _) fun g hg e => by
   have h1 := Option.some.inj e
   simp [Value.ownBlock] at hg
   omega
 have HP1 : Hid (x = powO O x 1) := by
  show x = O.mul 1 x
  rw [HOE.out]
  show x = mulR P M Mod 1 x
  rw [mulR_comm HS.out.1 HS.out.2.2, mulR_one HS.out.1 HS.out.2.2 (by omega) (by rw [HQ.out]; exact hx1)]
 clear HRB HF1 HOI
 have hWE : (W2.alloc (.cells (madeCells #[.bool false] q) 4)).setCell ⟨S, 1, none⟩ (.bool true) = W2.alloc (.cells ((madeCells #[.bool false] q).setIfInBounds 1 (.bool true)) 4) := by
  exact World.setCell_alloc_at _ _ _ _ _ (hS.trans HSZ.out.symm)
 rw [hWE] at HR1 HF2 HO2
 clear hWE
 have HSE := Lib.hid hS; clear hS
 go_loopw [7, 9] (fun out y wr => ∃ (k : Nat) (A : Option Addr) (c : Nat) (yi : Int), 1 ≤ k ∧ out = .slice A k c ∧ y = .int .i64 yi ∧ Hid (yi = powO O x k) ∧ Hid (OI (w.heap.size + 1) wr (.slice A k c) ((List.range k).map (powO O x))) ∧ Hid (RB wr S (seenL O x q k)) ∧ Hid (∀ j, 1 ≤ j → j < k → stopB O x j = false) ∧ Hid (FBox w wr P M mv)) (fun out _ _ => q - slLen out)
 case atStart => exact ⟨1, _, _, x, Nat.le_refl _, rfl, rfl, HP1, HO2, HR1, hid' fun j h1 h2 => by omega, HF2⟩
 case round =>
  clear HR1 HF2 HO2 HP1
  obtain ⟨k, A, c, yi, hk1, rfl, rfl, HY, HO, HR, HST, HFR⟩ := hrel
  have hyr : 0 ≤ yi ∧ yi < (q : Int) := by rw [HY.out]; exact HPL.out k
  have hkq := run_le hk1 HPL.out HST.out
  obtain ⟨hy0, hy1⟩ := hyr
  by_cases hz : yi = 0
  ·have hb : (yi != 0) = false := by rw [bne_eq_false_iff_eq]; exact hz
   have HPL2 : Hid (powL O (q : Int) x = (List.range k).map (powO O x)) := by
    show _ = _
    unfold powL
    rw [Int.toNat_natCast, stop_eq hk1 (by omega) HST.out (stopB_true (.inl (by rw [← HY.out]; exact hz)))]
   clear hz
   go_wp2_with fail
   go_ret
   exact ⟨_, rfl, by rw [HPL2.out]; exact HO.out.mono (by omega), HFR.out.bel⟩
  ·have hb : (yi != 0) = true := by rw [bne_iff_ne]; exact hz
   obtain ⟨yn, hyn⟩ : ∃ yn : Nat, yi = (yn : Int) := ⟨yi.toNat, by omega⟩
   subst hyn
   have hynq : yn < q := by omega
   have hc := HR.out.cell yn (by rw [seenL_len]; exact hynq)
   have hf := HR.out.frozen yn
   have hsd : (seenL O x q k).getD yn false = ((List.range k).map (powO O x)).contains (yn : Int) := by rw [List.getD_eq_getElem?_getD, seenL_getD hynq]; rfl
   rw [hsd] at hc
   clear hsd hz
   by_cases hin : ((List.range k).map (powO O x)).contains (yn : Int) = true
   ·rw [hin] at hc
    have HPL2 : Hid (powL O (q : Int) x = (List.range k).map (powO O x)) := by
     show _ = _
     unfold powL
     rw [Int.toNat_natCast, stop_eq hk1 (by omega) HST.out (by unfold stopB; rw [← HY.out, hin, Bool.or_true])]
    clear hin
    go_wp2_with fail
    go_ret
    exact ⟨_, rfl, by rw [HPL2.out]; exact HO.out.mono (by omega), HFR.out.bel⟩
   ·rw [Bool.not_eq_true] at hin
    rw [hin] at hc
    have HST2 : Hid (∀ j, 1 ≤ j → j < k + 1 → stopB O x j = false) := hid' fun j h1 h2 => by
     by_cases e : j = k
     ·subst e
      unfold stopB
      rw [← HY.out, hin, Bool.or_false, beq_eq_false_iff_ne]
      have := bne_iff_ne.1 hb
      exact this
     ·exact HST.out j h1 (by omega)
    clear hin
    have HRs : Hid (RB (wr.setCell ⟨S, yn, none⟩ (.bool true)) S (seenL O x q (k + 1))) := by
     have := HR.out.set yn true
     rw [seenL_set hynq HY.out.symm] at this
     exact this
    have HOs : Hid (OI (w.heap.size + 1) (wr.setCell ⟨S, yn, none⟩ (.bool true)) (.slice A k c) ((List.range k).map (powO O x))) :=
     HO.out.grown (gr_set1 wr S yn _) fun g hg e => HO.out.ne_blk HR.out (by decide) (by rw [hg, e])
    have HFs := Lib.hid (HFR.out.far (k := yn) hS0 (.bool true))
    have hlt := HFs.out.lt
    have HP := Lib.hid (PushI.mk' (w0 := w) HOs.out HFs.out.bel hlt (yn : Int))
    have HAP : Hid ((List.range k).map (powO O x) ++ [(yn : Int)] = (List.range (k + 1)).map (powO O x)) := by
     show _ = _
     rw [List.range_succ, List.map_append, HY.out]; rfl
    have hll : ((List.range k).map (powO O x)).length + 1 ≤ 17592186044416 := by simp; omega
    have HBOX : Hid (((wr.setCell ⟨S, yn, none⟩ (.bool true)).alloc (.cells #[.int .i64 (yn : Int)] 3)).cell? ⟨wr.heap.size, 0, none⟩ = some (.int .i64 (yn : Int))) := by
     have := HP.out.box
     rw [show (wr.setCell ⟨S, yn, none⟩ (.bool true)).heap.size = wr.heap.size by simp [World.setCell]] at this
     exact this
    have hl2 : ((List.range k).map (powO O x) ++ [(yn : Int)]).length = k + 1 := by simp
    have HL2 := Lib.hid hl2
    clear hlt hl2
    go_wp2_with (at_builtin; go_must (refine wpList_pushI rfl _ _ rfl (w.heap.size + 1) _ ((List.range k).map (powO O x)) rfl HP.out.own wr.heap.size 1 (yn : Int) rfl HBOX.out hll HP.out.up ?_); (intro v1 w2 ho hg); obtain ⟨A2, c2', rfl⟩ := ho.form'; rw [HL2.out, HAP.out] at ho; rw [HL2.out]; have HO2 := Lib.hid ho; have HB2 := Lib.hid (HP.out.below (by omega) hg); have HR2 : Hid (RB w2 S (seenL O x q (k + 1))) := hid' (RB.grown (HRs.out.alloc _) hg (fun e => HP.out.own.ne_blk (HRs.out.alloc _) (by decide) e.symm)); have HF2 : Hid (FBox w w2 P M mv) := hid' ⟨Blk.grown (HFs.out.blk.alloc _) hg (fun e => HP.out.own.ne_blk (HFs.out.blk.alloc _) (by decide) e.symm), HB2.out⟩; clear ho hg; have c0 := HF2.out.c0; have c1 := HF2.out.c1; have c2 := HF2.out.c2)
    have hn0 : 0 ≤ (yn : Int) ∧ (yn : Int) < orderF P M := ⟨hy0, by rw [HQ.out]; exact hy1⟩
    have hx2 : 0 ≤ x ∧ x < orderF P M := ⟨by omega, by rw [HQ.out]; exact hx1⟩
    refine (multiply_any _ P M yn x mv Mod (HM0.out.below HF2.out.bel (Nat.le_refl _)) HS.out hn0.1 hn0.2 hx2.1 hx2.2).mono ?_
    rintro e w3 ⟨rfl, hb3⟩
    have HNX : Hid (mulF P M Mod yn x = powO O x (k + 1)) := by
     show _ = O.mul (powO O x k) x
     rw [mulF_eq HS.out hn0 hx2, HOE.out, ← HOE.out, ← HY.out, HOE.out]
     rfl
    have HF3 := Lib.hid (HF2.out.on hb3)
    have HR3 := Lib.hid (HR2.out.belowS hb3)
    have HO3 := Lib.hid (HO2.out.below hb3 (Nat.le_refl _))
    clear hb3 hn0 hx2 c0 c1 c2
    go_wp2_with fail
    exact ⟨⟨k + 1, A2, c2', _, by omega, rfl, rfl, HNX, HO3, HR3, HST2, HF3⟩, by simp only [slLen]; omega⟩
theorem powL_rng {P M x : Int} {Mod : List Int} (ho : orderF P M ≠ 0) (k : Nat) : 0 ≤ (powL (refOps P M Mod) (orderF P M) x).getD k 0 ∧ (powL (refOps P M Mod) (orderF P M) x).getD k 0 < orderF P M := by
 unfold powL
 by_cases h : k < stopF (refOps P M Mod) x (orderF P M).toNat 1
 ·have : ((List.range (stopF (refOps P M Mod) x (orderF P M).toNat 1)).map (powO (refOps P M Mod) x)).getD k 0 = powO (refOps P M Mod) x k := by simp [List.getD, h]
  rw [this]
  exact powR_lt ho x k
 ·rw [getD_len (by simp; omega)]
  have := one_lt_order ho
  omega
theorem powL_len_le {P M x : Int} {Mod : List Int} : (powL (refOps P M Mod) (orderF P M) x).length ≤ (orderF P M).toNat + 1 := by
 unfold powL
 rw [List.length_map, List.length_range]
 have key : ∀ f k, stopF (refOps P M Mod) x f k ≤ k + f := by
  intro f
  induction f with
  | zero => intro k; rw [stopF]; omega
  | succ f ih =>
   intro k
   rw [stopF]
   split
   ·omega
   ·have := ih (k + 1); omega
 have := key (orderF P M).toNat 1
 omega
def RetON (w : World) (xs : List Int) (e : Ending) (w' : World) : Prop := ∃ u, e = .returned u ∧ OI w.heap.size w' u xs ∧ (xs = [] → u = .slice none 0 0) ∧ Below w.heap.size w w'
set_option maxHeartbeats 8000000 in
theorem generator_any (w : World) (P M : Int) (mv : Value) (Mod : List Int) (h : SI w mv Mod) (hs : ShapeP P M Mod) :
  Calls Tryz.prog 88 #[.agg #[.int .i64 P, .int .i64 M, mv], .int .i64 (orderF P M)] w (RetON w (genL (refOps P M Mod) (orderF P M))) := by
 have HM0 := Lib.hid h; clear h
 have HS := Lib.hid hs
 have hq2 := one_lt_order hs.1
 have hqb := orderF_bounds P M
 obtain ⟨q, hq⟩ : ∃ q : Nat, orderF P M = (q : Int) := ⟨(orderF P M).toNat, by omega⟩
 have HPW := Lib.hid (fun w' (hb : Below w.heap.size w w') x (h0 : 1 ≤ x) (h1 : x < orderF P M) => powers_any w' P M x mv Mod (HM0.out.below hb (Nat.le_refl _)) hs h0 h1)
 have HRG := Lib.hid (fun x k => powL_rng (P := P) (M := M) (x := x) (Mod := Mod) hs.1 k)
 have HLN := Lib.hid (fun x => powL_len_le (P := P) (M := M) (x := x) (Mod := Mod))
 have HMU := Lib.hid (fun w' (hb : Below w.heap.size w w') y x (a : 0 ≤ y) (b : y < orderF P M) (c : 0 ≤ x) (d : x < orderF P M) => multiply_any w' P M y x mv Mod (HM0.out.below hb (Nat.le_refl _)) hs a b c d)
 have HME := Lib.hid (fun y x (a : 0 ≤ y ∧ y < orderF P M) (b : 0 ≤ x ∧ x < orderF P M) => mulF_eq hs a b)
 rw [hq] at HPW HRG HLN HMU HME hq2 hqb ⊢
 clear hq hs
 obtain ⟨O, hO⟩ : ∃ O, O = refOps P M Mod := ⟨_, rfl⟩
 rw [← hO] at HPW HRG HLN ⊢
 have HOE := Lib.hid hO; clear hO
 have hq256 : q ≤ 256 := by omega
 have hq1 : 1 < q := by omega
 have HF := Lib.hid (FBox.mk' w P M mv)
 go_enter Tryz.func88, Tryz.ntmps88
 go_wp2_with fail
 obtain ⟨w0, hw0⟩ : ∃ w0, w0 = w.alloc (.cells #[.int .i64 P, .int .i64 M, mv] 24) := ⟨_, rfl⟩
 rw [← hw0] at HF ⊢
 clear hw0
 have HG0 : Hid (genL O (q : Int) = genF O (q : Int) (q - 1) ((1 : Nat) : Int)) := by
  show _ = _
  unfold genL
  rw [show ((q : Int) - 1).toNat = q - 1 by omega]; rfl
 go_loopw [5] (fun x wr => ∃ k : Nat, 1 ≤ k ∧ k ≤ q ∧ x = .int .i64 (k : Int) ∧ Hid (genL O (q : Int) = genF O (q : Int) (q - k) (k : Int)) ∧ Hid (FBox w wr P M mv)) (fun x _ => (q - intOf x).toNat)
 case atStart => exact ⟨1, Nat.le_refl _, by omega, rfl, HG0, HF⟩
 case round =>
  clear HG0 HF
  obtain ⟨k, hk1, hkq, rfl, HG, HFR⟩ := hrel
  have c0 := HFR.out.c0; have c1 := HFR.out.c1; have c2 := HFR.out.c2
  by_cases hlt : k < q
  ·go_wp2_with fail
   refine (HPW.out _ HFR.out.bel (k : Int) (by omega) (by omega)).mono ?_
   rintro e w1 ⟨u1, rfl, ho1, hb1⟩
   have HO1 := Lib.hid ho1; clear ho1
   have HF1 := Lib.hid (HFR.out.on hb1)
   have hw1 : IntKind.i64.wrap ((q : Int) - 1) = (q : Int) - 1 := IntWalk.i64_in _ (by omega)
   have hw2 : IntKind.i64.wrap ((q : Int) - 2) = (q : Int) - 2 := IntWalk.i64_in _ (by omega)
   have hll := HLN.out (k : Int)
   obtain ⟨n, hn⟩ : ∃ n, (powL O (q : Int) (k : Int)).length = n := ⟨_, rfl⟩
   rw [hn] at hll
   have HN := Lib.hid hn; clear hn
   have d0 := HF1.out.c0; have d1 := HF1.out.c1; have d2 := HF1.out.c2
   clear c0 c1 c2
   by_cases he : (n : Int) = (q : Int) - 1
   ·have hb : ((n : Int) == (q : Int) - 1) = true := by rw [beq_iff_eq]; exact he
    obtain rfl : n = q - 1 := by omega
    have hw3 : IntKind.i64.wrap ((q : Int) - 2) = ((q - 2 : Nat) : Int) := by rw [hw2]; omega
    clear hw2
    obtain ⟨g, c, rfl, hgB, hgl⟩ := HO1.out.form (by rw [HN.out]; omega)
    have p0 := HO1.out.cell (q - 2) (by rw [HN.out]; omega)
    have hvr := HRG.out (k : Int) (q - 2)
    have HVE : Hid (okGen O (q : Int) (k : Int) = ((((q - 1 : Nat) : Int) == (q : Int) - 1) && (mulF P M Mod ((powL O (q : Int) (k : Int)).getD (q - 2) 0) (k : Int) == 1))) := by
     show _ = _
     rw [HME.out _ _ hvr ⟨by omega, by omega⟩]
     unfold okGen
     rw [HN.out, show ((q : Int) - 2).toNat = q - 2 by omega, HOE.out]
     rfl
    rw [HN.out]
    generalize hv : (powL O (q : Int) (k : Int)).getD (q - 2) 0 = v at p0 hvr HVE
    have HV := Lib.hid hv; clear hv
    obtain ⟨hv0, hv1⟩ := hvr
    have hi2 : q - 2 < q - 1 := by omega
    rw [hb, Bool.true_and] at HVE
    generalize hmv : mulF P M Mod v (k : Int) = mv2 at HVE
    have HMV := Lib.hid hmv; clear hmv
    clear he
    go_wp2_with fail
    refine Kept.start (S := fun w' => w'.cell? ⟨w.heap.size, 0, none⟩ = some (.int .i64 P) ∧ w'.cell? ⟨w.heap.size, 1, none⟩ = some (.int .i64 M) ∧ w'.cell? ⟨w.heap.size, 2, none⟩ = some mv ∧ w'.cell? ⟨g, q - 2, none⟩ = some (.int .i64 v)) (by kernel_rfl) (⟨d0, d1, d2, p0⟩) (fun hHeld => ?_)
    change Kept _ _ _ _ 16 _ _ _
    refine Kept.tk 0 (v := ?_) rfl ?_ hHeld ?_
    rotate_left
    ·intro w' h; (try dsimp only at h); go_simp <;> with_reducible rfl
    try simp only [tda, tdb, tdc, Act.put, tdd, tde, tdf]
    refine Kept.tk 1 (v := ?_) rfl ?_ hHeld ?_
    rotate_left
    ·intro w' h; (try dsimp only at h); go_simp <;> with_reducible rfl
    try simp only [tda, tdb, tdc, Act.put, tdd, tde, tdf]
    refine Kept.tk 2 (v := ?_) rfl ?_ hHeld ?_
    rotate_left
    ·intro w' h; (try dsimp only at h); go_simp <;> with_reducible rfl
    try simp only [tda, tdb, tdc, Act.put, tdd, tde, tdf]
    refine Kept.tk 3 (v := ?_) rfl ?_ hHeld ?_
    rotate_left
    ·intro w' h; (try dsimp only at h); go_simp <;> with_reducible rfl
    try simp only [tda, tdb, tdc, Act.put, tdd, tde, tdf]
    refine Kept.tk 4 (v := ?_) rfl ?_ hHeld ?_
    rotate_left
    ·intro w' h; (try dsimp only at h); go_simp <;> with_reducible rfl
    try simp only [tda, tdb, tdc, Act.put, tdd, tde, tdf]
    refine Kept.tk 5 (v := ?_) rfl ?_ hHeld ?_
    rotate_left
    ·intro w' h; (try dsimp only at h); go_simp <;> with_reducible rfl
    try simp only [tda, tdb, tdc, Act.put, tdd, tde, tdf]
    refine Kept.tk 6 (v := ?_) rfl ?_ hHeld ?_
    rotate_left
    ·intro w' h; (try dsimp only at h); go_simp <;> with_reducible rfl
    try simp only [tda, tdb, tdc, Act.put, tdd, tde, tdf]
    refine Kept.tk 7 (v := ?_) rfl ?_ hHeld ?_
    rotate_left
    ·intro w' h; (try dsimp only at h); go_simp <;> with_reducible rfl
    try simp only [tda, tdb, tdc, Act.put, tdd, tde, tdf]
    refine Kept.tk 8 (v := ?_) rfl ?_ hHeld ?_
    rotate_left
    ·intro w' h; (try dsimp only at h); go_simp <;> with_reducible rfl
    try simp only [tda, tdb, tdc, Act.put, tdd, tde, tdf]
    refine Kept.tk 9 (v := ?_) rfl ?_ hHeld ?_
    rotate_left
    ·intro w' h; (try dsimp only at h); go_simp <;> with_reducible rfl
    try simp only [tda, tdb, tdc, Act.put, tdd, tde, tdf]
    refine Kept.tk 10 (v := ?_) rfl ?_ hHeld ?_
    rotate_left
    ·intro w' h; (try dsimp only at h); go_simp <;> with_reducible rfl
    try simp only [tda, tdb, tdc, Act.put, tdd, tde, tdf]
    refine Kept.tk 11 (v := ?_) rfl ?_ hHeld ?_
    rotate_left
    ·intro w' h; (try dsimp only at h); go_simp <;> with_reducible rfl
    try simp only [tda, tdb, tdc, Act.put, tdd, tde, tdf]
    refine Kept.tk 12 (v := ?_) rfl ?_ hHeld ?_
    rotate_left
    ·intro w' h; (try dsimp only at h); go_simp <;> with_reducible rfl
    try simp only [tda, tdb, tdc, Act.put, tdd, tde, tdf]
    refine Kept.only (i := 13) (by kernel_rfl) rfl (fun K hK => ?_)
    go_simp
    refine (HMU.out _ HF1.out.drew.bel v (k : Int) hv0 hv1 (by omega) (by omega)).mono ?_; rintro e w2 ⟨rfl, hb2⟩; rw [HMV.out]; have HF2 := Lib.hid (HF1.out.drew.on hb2); have HO2 := Lib.hid ((OI.keep (w' := w1.drew) HO1.out (fun _ _ => rfl)).below hb2 (Nat.le_refl _)); clear hb2; have e0 := HF2.out.c0; have e1 := HF2.out.c1; have e2 := HF2.out.c2; have e3 := HO2.out.cell (q - 2) (by rw [HN.out]; omega); rw [HV.out] at e3
    refine hK.out _ _ (⟨e0, e1, e2, e3⟩) (fun hHeld2 => ?_)
    clear hK K
    replace hHeld := hHeld2
    clear hHeld2
    try simp only [tda, tdb, tdc, Act.put, tdd, tde, tdf]
    refine Kept.tk 14 (v := ?_) rfl ?_ hHeld ?_
    rotate_left
    ·intro w' h; (try dsimp only at h); go_simp <;> with_reducible rfl
    try simp only [tda, tdb, tdc, Act.put, tdd, tde, tdf]
    refine Kept.only (i := 15) (by kernel_rfl) rfl (fun K hK => ?_)
    go_simp
    refine hK.out _ _ hHeld (fun hHeld2 => ?_)
    clear hK K
    clear hHeld2
    refine Kept.done (by kernel_rfl) ?_
    try simp only [tda, tdb, tdc, Act.put, tdd, tde, tdf]
    clear hHeld
    have hltr := HFR.out.lt
    cases hm : (mv2 == 1)
    ·rw [hm] at HVE
     have HG2 : Hid (genL O (q : Int) = genF O (q : Int) (q - (k + 1)) ((k + 1 : Nat) : Int)) := by
      show _ = _
      rw [HG.out, show q - k = (q - (k + 1)) + 1 by omega, genF, HVE.out]
      simp
     clear hb
     go_wp2_with fail
     exact ⟨⟨k + 1, by omega, by omega, by push_cast; rfl, HG2, HF2⟩, by simp only [intOf]; omega⟩
    ·rw [hm] at HVE
     have HG2 : Hid (genL O (q : Int) = powL O (q : Int) (k : Int)) := by
      show _ = _
      rw [HG.out, show q - k = (q - (k + 1)) + 1 by omega, genF, HVE.out]
      simp
     clear hb
     go_wp2_with fail
     go_ret
     exact ⟨_, rfl, by rw [HG2.out]; have h9 := HO2.out.mono (Nat.le_of_lt hltr); rw [HN.out] at h9; exact h9, fun h => (by rw [HG2.out] at h; have h8 := HN.out; rw [h] at h8; simp at h8; omega), HF2.out.bel⟩
   ·have hb : ((n : Int) == (q : Int) - 1) = false := by rw [beq_eq_false_iff_ne]; exact he
    have HG2 : Hid (genL O (q : Int) = genF O (q : Int) (q - (k + 1)) ((k + 1 : Nat) : Int)) := by
     show _ = _
     have hk : okGen O (q : Int) (k : Int) = false := by
      unfold okGen
      rw [HN.out, hb, Bool.false_and]
     rw [HG.out, show q - k = (q - (k + 1)) + 1 by omega, genF, hk]
     simp
    clear he
    obtain ⟨A, c, rfl⟩ := HO1.out.form'
    rw [HN.out]
    go_wp2_with fail
    refine Kept.start (S := fun w' => w'.cell? ⟨w.heap.size, 0, none⟩ = some (.int .i64 P) ∧ w'.cell? ⟨w.heap.size, 1, none⟩ = some (.int .i64 M) ∧ w'.cell? ⟨w.heap.size, 2, none⟩ = some mv) (by kernel_rfl) (⟨d0, d1, d2⟩) (fun hHeld => ?_)
    change Kept _ _ _ _ 16 _ _ _
    refine Kept.tk 0 (v := ?_) rfl ?_ hHeld ?_
    rotate_left
    ·intro w' h; (try dsimp only at h); go_simp <;> with_reducible rfl
    try simp only [tda, tdb, tdc, Act.put, tdd, tde, tdf]
    refine Kept.tk 1 (v := ?_) rfl ?_ hHeld ?_
    rotate_left
    ·intro w' h; (try dsimp only at h); go_simp <;> with_reducible rfl
    try simp only [tda, tdb, tdc, Act.put, tdd, tde, tdf]
    refine Kept.tk 2 (v := ?_) rfl ?_ hHeld ?_
    rotate_left
    ·intro w' h; (try dsimp only at h); go_simp <;> with_reducible rfl
    try simp only [tda, tdb, tdc, Act.put, tdd, tde, tdf]
    refine Kept.tk 3 (v := ?_) rfl ?_ hHeld ?_
    rotate_left
    ·intro w' h; (try dsimp only at h); go_simp <;> with_reducible rfl
    try simp only [tda, tdb, tdc, Act.put, tdd, tde, tdf]
    refine Kept.tk 4 (v := ?_) rfl ?_ hHeld ?_
    rotate_left
    ·intro w' h; (try dsimp only at h); go_simp <;> with_reducible rfl
    try simp only [tda, tdb, tdc, Act.put, tdd, tde, tdf]
    refine Kept.tk 5 (v := ?_) rfl ?_ hHeld ?_
    rotate_left
    ·intro w' h; (try dsimp only at h); go_simp <;> with_reducible rfl
    try simp only [tda, tdb, tdc, Act.put, tdd, tde, tdf]
    refine Kept.take (i := 6) (v := undef) rfl (by kernel_rfl) (by kernel_rfl) (by kernel_rfl) (fun _ _ _ h => h) (Or.inr ⟨by kernel_rfl, rfl⟩) hHeld ?_
    try simp only [tda, tdb, tdc, Act.put, tdd, tde, tdf]
    refine Kept.take (i := 7) (v := undef) rfl (by kernel_rfl) (by kernel_rfl) (by kernel_rfl) (fun _ _ _ h => h) (Or.inr ⟨by kernel_rfl, rfl⟩) hHeld ?_
    try simp only [tda, tdb, tdc, Act.put, tdd, tde, tdf]
    refine Kept.take (i := 8) (v := undef) rfl (by kernel_rfl) (by kernel_rfl) (by kernel_rfl) (fun _ _ _ h => h) (Or.inr ⟨by kernel_rfl, rfl⟩) hHeld ?_
    try simp only [tda, tdb, tdc, Act.put, tdd, tde, tdf]
    refine Kept.take (i := 9) (v := undef) rfl (by kernel_rfl) (by kernel_rfl) (by kernel_rfl) (fun _ _ _ h => h) (Or.inr ⟨by kernel_rfl, rfl⟩) hHeld ?_
    try simp only [tda, tdb, tdc, Act.put, tdd, tde, tdf]
    refine Kept.take (i := 10) (v := undef) rfl (by kernel_rfl) (by kernel_rfl) (by kernel_rfl) (fun _ _ _ h => h) (Or.inr ⟨by kernel_rfl, rfl⟩) hHeld ?_
    try simp only [tda, tdb, tdc, Act.put, tdd, tde, tdf]
    refine Kept.take (i := 11) (v := undef) rfl (by kernel_rfl) (by kernel_rfl) (by kernel_rfl) (fun _ _ _ h => h) (Or.inr ⟨by kernel_rfl, rfl⟩) hHeld ?_
    try simp only [tda, tdb, tdc, Act.put, tdd, tde, tdf]
    refine Kept.take (i := 12) (v := undef) rfl (by kernel_rfl) (by kernel_rfl) (by kernel_rfl) (fun _ _ _ h => h) (Or.inr ⟨by kernel_rfl, rfl⟩) hHeld ?_
    try simp only [tda, tdb, tdc, Act.put, tdd, tde, tdf]
    refine Kept.only (i := 13) (by kernel_rfl) rfl (fun K hK => ?_)
    go_simp
    refine hK.out _ _ hHeld (fun hHeld2 => ?_)
    clear hK K
    clear hHeld2
    try simp only [tda, tdb, tdc, Act.put, tdd, tde, tdf]
    refine Kept.take (i := 14) (v := undef) rfl (by kernel_rfl) (by kernel_rfl) (by kernel_rfl) (fun _ _ _ h => h) (Or.inr ⟨by kernel_rfl, rfl⟩) hHeld ?_
    try simp only [tda, tdb, tdc, Act.put, tdd, tde, tdf]
    refine Kept.only (i := 15) (by kernel_rfl) rfl (fun K hK => ?_)
    go_simp
    refine hK.out _ _ hHeld (fun hHeld2 => ?_)
    clear hK K
    clear hHeld2
    refine Kept.done (by kernel_rfl) ?_
    try simp only [tda, tdb, tdc, Act.put, tdd, tde, tdf]
    clear hHeld
    go_wp2_with fail
    exact ⟨⟨k + 1, by omega, by omega, by push_cast; rfl, HG2, hid' HF1.out.drew⟩, by simp only [intOf]; omega⟩
  ·obtain rfl : q = k := by omega
   have HE : Hid (genL O (q : Int) = []) := by
    show _ = _
    rw [HG.out, Nat.sub_self]; rfl
   go_wp2_with fail
   go_ret
   exact ⟨_, rfl, by rw [HE.out]; exact OI.nil _ _, fun _ => rfl, HFR.out.bel⟩
end Go.Proofs.YtlofhnmpbpjigaaGreat
namespace Go.Proofs.YtlofhnmpbpjigaaGreat
def logTo (E : List Int) (q : Nat) : Nat → List Int
 | 0 => List.replicate q 0
 | k + 1 => (logTo E q k).set (E.getD k 0).toNat (k : Int)
theorem logTo_len (E : List Int) (q : Nat) : ∀ k, (logTo E q k).length = q
 | 0 => by simp [logTo]
 | k + 1 => by rw [logTo, List.length_set, logTo_len E q k]
theorem logTo_rng (E : List Int) (q : Nat) : ∀ k i, 0 ≤ (logTo E q k).getD i 0 ∧ ((logTo E q k).getD i 0 < k ∨ (logTo E q k).getD i 0 = 0)
 | 0, i => by
  have : (logTo E q 0).getD i 0 = 0 := by
   unfold logTo
   by_cases h : i < q <;> simp [List.getD, h]
  rw [this]; omega
 | k + 1, i => by
  have ih := logTo_rng E q k i
  rw [logTo, getD_set]
  split <;> omega
theorem logTo_hit {E : List Int} {q n : Nat} (hr : ∀ k, k < n → 0 ≤ E.getD k 0 ∧ E.getD k 0 < (q : Int)) (hi : ∀ i j, i < n → j < n → E.getD i 0 = E.getD j 0 → i = j) : ∀ k, k ≤ n → ∀ j, j < k → (logTo E q k).getD (E.getD j 0).toNat 0 = (j : Int)
 | 0, _, j, h => by omega
 | k + 1, hk, j, hj => by
  have r1 := hr k (by omega)
  have r2 := hr j (by omega)
  rw [logTo, getD_set, logTo_len]
  by_cases e : j = k
  ·subst e; rw [if_pos ⟨rfl, by omega⟩]
  ·rw [if_neg (fun h => e (hi j k (by omega) (by omega) (by have := h.1; omega)))]
   exact logTo_hit hr hi k (by omega) j (by omega)
structure TabP (O : FOps) (q : Nat) (E L : List Int) : Prop where
 el : E.length = q - 1
 ll : L.length = q
 gen : ∃ x, Unit' (q : Int) x ∧ IsOrd O x (q - 1) ∧ ∀ k, k < q - 1 → E.getD k 0 = powO O x k
 lo : ∀ k, k < q - 1 → L.getD (E.getD k 0).toNat 0 = (k : Int)
 rng : ∀ i, 0 ≤ L.getD i 0 ∧ (L.getD i 0 < q - 1 ∨ L.getD i 0 = 0)
section
variable {O : FOps} {q : Nat} {E L : List Int} (hO : O.Fld (q : Int))
include hO
theorem pow_inj {x : Int} (hx : Unit' (q : Int) x) {n : Nat} (h : IsOrd O x n) {i j : Nat} (hi : i < n) (hj : j < n) (e : powO O x i = powO O x j) : i = j := by
 rcases Nat.lt_trichotomy i j with hlt | hlt | hlt
 ·exact absurd (pow_back hO hx (by omega) e) (h.2.2 (j - i) (by omega) (by omega))
 ·exact hlt
 ·exact absurd (pow_back hO hx (by omega) e.symm) (h.2.2 (i - j) (by omega) (by omega))
theorem tab_of {x : Int} (hx : Unit' (q : Int) x) (h : IsOrd O x (q - 1)) : TabP O q ((List.range (q - 1)).map (powO O x)) (logTo ((List.range (q - 1)).map (powO O x)) q (q - 1)) := by
 have hg : ∀ k, k < q - 1 → ((List.range (q - 1)).map (powO O x)).getD k 0 = powO O x k := fun k hk => by simp [List.getD, hk]
 refine ⟨by simp, logTo_len _ _ _, ⟨x, hx, h, hg⟩, fun k hk => ?_, fun i => ?_⟩
 ·refine logTo_hit (n := q - 1) (fun k hk => ?_) (fun i j hi hj e => ?_) (q - 1) (Nat.le_refl _) k hk
  ·rw [hg k hk]
   have := pow_unit hO hx k
   exact ⟨by have := this.1; omega, this.2⟩
  ·rw [hg i hi, hg j hj] at e
   exact pow_inj hO hx h hi hj e
 ·have := logTo_rng ((List.range (q - 1)).map (powO O x)) q (q - 1) i
  have := hO.lt.pos
  omega
theorem TabP.unit (h : TabP O q E L) {k : Nat} (hk : k < q - 1) : Unit' (q : Int) (E.getD k 0) := by
 obtain ⟨x, hx, _, hg⟩ := h.gen
 rw [hg k hk]
 exact pow_unit hO hx k
theorem TabP.hit (h : TabP O q E L) {y : Int} (hy : Unit' (q : Int) y) : ∃ k, k < q - 1 ∧ E.getD k 0 = y ∧ L.getD y.toNat 0 = (k : Int) := by
 obtain ⟨x, hx, ho, hg⟩ := h.gen
 obtain ⟨k, hk, he⟩ := inj_surj (q - 1) (fun i => (powO O x i).toNat - 1) (fun i hi => by
  have := pow_unit hO hx i
  have h1 := this.1; have h2 := this.2
  omega) (fun i j hi hj e => pow_inj hO hx ho hi hj (by
  have a := pow_unit hO hx i; have b := pow_unit hO hx j
  have a1 := a.1; have a2 := a.2; have b1 := b.1; have b2 := b.2
  omega)) (y.toNat - 1) (by have h1 := hy.1; have h2 := hy.2; omega)
 have a := pow_unit hO hx k
 have hE : E.getD k 0 = y := by
  rw [hg k hk]
  have a1 := a.1; have h1 := hy.1
  omega
 refine ⟨k, hk, hE, ?_⟩
 rw [← hE]
 exact h.lo k hk
theorem pow_mod {x : Int} (hx : Unit' (q : Int) x) {n : Nat} (h : IsOrd O x n) (m : Nat) : powO O x (m % n) = powO O x m := by
 have e : m = n * (m / n) + m % n := (Nat.div_add_mod m n).symm
 conv => rhs; rw [e, pow_add' hO hx, pow_mul' hO hx, h.2.1, pow_one_base hO, unit_one_mul hO (pow_unit hO hx _)]
theorem TabP.mul (h : TabP O q E L) {y z : Int} (hy : Unit' (q : Int) y) (hz : Unit' (q : Int) z) :
  (L.getD y.toNat 0 + L.getD z.toNat 0) % ((q : Int) - 1) < (q : Int) - 1 ∧ 0 ≤ (L.getD y.toNat 0 + L.getD z.toNat 0) % ((q : Int) - 1) ∧
  E.getD ((L.getD y.toNat 0 + L.getD z.toNat 0) % ((q : Int) - 1)).toNat 0 = O.mul y z := by
 obtain ⟨i, hi, ei, li⟩ := h.hit hO hy
 obtain ⟨j, hj, ej, lj⟩ := h.hit hO hz
 obtain ⟨x, hx, ho, hg⟩ := h.gen
 rw [li, lj]
 have hq : ((q : Int) - 1) = ((q - 1 : Nat) : Int) := by omega
 have hm : ((i : Int) + (j : Int)) % ((q : Int) - 1) = (((i + j) % (q - 1) : Nat) : Int) := by rw [hq]; push_cast; rfl
 have hlt := Nat.mod_lt (i + j) (show q - 1 > 0 by omega)
 rw [hm]
 refine ⟨by omega, by omega, ?_⟩
 rw [Int.toNat_natCast, hg _ hlt, pow_mod hO hx ho, pow_add' hO hx, ← hg i hi, ← hg j hj, ei, ej]
theorem TabP.inv (h : TabP O q E L) {y : Int} (hy : Unit' (q : Int) y) (hi : 0 ≤ O.inv y ∧ O.inv y < (q : Int)) :
  ((q : Int) - 1 - L.getD y.toNat 0) % ((q : Int) - 1) < (q : Int) - 1 ∧ 0 ≤ ((q : Int) - 1 - L.getD y.toNat 0) % ((q : Int) - 1) ∧
  E.getD (((q : Int) - 1 - L.getD y.toNat 0) % ((q : Int) - 1)).toNat 0 = O.inv y := by
 obtain ⟨i, hi2, ei, li⟩ := h.hit hO hy
 obtain ⟨x, hx, ho, hg⟩ := h.gen
 rw [li]
 have hq : ((q : Int) - 1) = ((q - 1 : Nat) : Int) := by omega
 have hm : ((q : Int) - 1 - (i : Int)) % ((q : Int) - 1) = (((q - 1 - i) % (q - 1) : Nat) : Int) := by
  rw [hq, show ((q - 1 : Nat) : Int) - (i : Int) = ((q - 1 - i : Nat) : Int) by omega]; push_cast; rfl
 have hlt := Nat.mod_lt (q - 1 - i) (show q - 1 > 0 by omega)
 rw [hm]
 refine ⟨by omega, by omega, ?_⟩
 rw [Int.toNat_natCast, hg _ hlt, pow_mod hO hx ho]
 have hiu : Unit' (q : Int) (O.inv y) := by
  refine ⟨?_, hi.2⟩
  have : O.inv y ≠ 0 := fun e => by
   have h1 := hO.mul_inv y hy.1 hy.2
   rw [e, hO.mul_zero] at h1
   cases h1
  omega
 refine mul_cancel' hO hy (pow_unit hO hx _) hiu ?_
 rw [hO.mul_inv y hy.1 hy.2, ← ei, hg i hi2, ← pow_add' hO hx, show i + (q - 1 - i) = q - 1 by omega, ho.2.1]
end
end Go.Proofs.YtlofhnmpbpjigaaGreat
namespace Go.Proofs.YtlofhnmpbpjigaaGreat
open Go.RowKit
set_option maxRecDepth 100000
structure GFat (w : World) (a : Nat) (P M : Int) (Mod : List Int) (q : Nat) (mv : Value) (ge ce gl cl : Nat) (E L : List Int) : Prop where
 c0 : w.cell? ⟨a, 0, none⟩ = some (.int .i64 P)
 c1 : w.cell? ⟨a, 1, none⟩ = some (.int .i64 M)
 c2 : w.cell? ⟨a, 2, none⟩ = some mv
 c3 : w.cell? ⟨a, 3, none⟩ = some (.int .i64 (q : Int))
 c4 : w.cell? ⟨a, 4, none⟩ = some (.slice (some ⟨ge, 0, none⟩) (q - 1) ce)
 c5 : w.cell? ⟨a, 5, none⟩ = some (.slice (some ⟨gl, 0, none⟩) q cl)
 mod : SI w mv Mod
 exp : ∀ k, k < q - 1 → w.cell? ⟨ge, k, none⟩ = some (.int .i64 (E.getD k 0))
 log : ∀ k, k < q → w.cell? ⟨gl, k, none⟩ = some (.int .i64 (L.getD k 0))
 tab : TabP (refOps P M Mod) q E L
 fld : FieldP P M Mod
 ord : orderF P M = (q : Int)
def GF (w : World) (a : Nat) (P M : Int) (Mod : List Int) : Prop := ∃ q mv ge ce gl cl E L, GFat w a P M Mod q mv ge ce gl cl E L
theorem GFat.keep {w w' : World} {a : Nat} {P M : Int} {Mod : List Int} {q : Nat} {mv : Value} {ge ce gl cl : Nat} {E L : List Int} (h : GFat w a P M Mod q mv ge ce gl cl E L) (hk : ∀ p : Addr, p.block < w.heap.size → w'.cell? p = w.cell? p) : GFat w' a P M Mod q mv ge ce gl cl E L :=
 have key : ∀ {p : Addr} {v : Value}, w.cell? p = some v → w'.cell? p = some v := fun h => (hk _ (World.block_lt_of_cell? _ _ h)).trans h
 ⟨key h.c0, key h.c1, key h.c2, key h.c3, key h.c4, key h.c5, h.mod.keep hk, fun k hk' => key (h.exp k hk'), fun k hk' => key (h.log k hk'), h.tab, h.fld, h.ord⟩
theorem GF.keep {w w' : World} {a : Nat} {P M : Int} {Mod : List Int} (h : GF w a P M Mod) (hk : ∀ p : Addr, p.block < w.heap.size → w'.cell? p = w.cell? p) : GF w' a P M Mod := by
 obtain ⟨q, mv, ge, ce, gl, cl, E, L, h⟩ := h
 exact ⟨q, mv, ge, ce, gl, cl, E, L, h.keep hk⟩
theorem GF.below {w w' : World} {a : Nat} {P M : Int} {Mod : List Int} {B : Nat} (h : GF w a P M Mod) (hb : Below B w w') (hB : w.heap.size ≤ B) : GF w' a P M Mod := h.keep fun _ hp => hb.cell (Nat.lt_of_lt_of_le hp hB)
theorem GF.on {w w' : World} {a : Nat} {P M : Int} {Mod : List Int} (h : GF w a P M Mod) (hb : Below w.heap.size w w') : GF w' a P M Mod := h.below hb (Nat.le_refl _)
theorem GF.fld {w : World} {a : Nat} {P M : Int} {Mod : List Int} (h : GF w a P M Mod) : FieldP P M Mod := by
 obtain ⟨q, mv, ge, ce, gl, cl, E, L, h⟩ := h
 exact h.fld
theorem GF.sep {B : Nat} {w : World} {a : Nat} {P M : Int} {Mod E L : List Int} {q : Nat} {mv : Value} {ge ce gl cl : Nat} (ha : B ≤ a)
  (hb : Blk w a 108 [.int .i64 P, .int .i64 M, mv, .int .i64 (q : Int), .slice (some ⟨ge, 0, none⟩) (q - 1) ce, .slice (some ⟨gl, 0, none⟩) q cl])
  (hm : OI B w mv Mod) (hml : Mod.length ≤ 17592186044416) (hmw : ∀ k, I64 (Mod.getD k 0)) (he : OI B w (.slice (some ⟨ge, 0, none⟩) (q - 1) ce) E) (hl : RI w gl L) (hgl : B ≤ gl)
  (ht : TabP (refOps P M Mod) q E L) (hf : FieldP P M Mod) (ho : orderF P M = (q : Int)) : Sep B w fun w2 => GF w2 a P M Mod := fun w2 h2 => by
 have hal := hb.lt
 have ca : ∀ i, w2.cell? ⟨a, i, none⟩ = w.cell? ⟨a, i, none⟩ := fun i => h2 ⟨a, i, none⟩ ha hal
 have hge : B ≤ ge ∧ ge < w.heap.size := he.lt rfl
 refine ⟨q, mv, ge, ce, gl, cl, E, L, (ca 0).trans (hb.cell 0), (ca 1).trans (hb.cell 1), (ca 2).trans (hb.cell 2), (ca 3).trans (hb.cell 3), (ca 4).trans (hb.cell 4), (ca 5).trans (hb.cell 5), (hm.sep hml hmw) w2 h2, fun k hk => ?_, fun k hk => ?_, ht, hf, ho⟩
 ·rw [h2 ⟨ge, k, none⟩ hge.1 hge.2]
  exact he.cell k (by rw [ht.el]; exact hk)
 ·rw [h2 ⟨gl, k, none⟩ hgl hl.lt]
  exact hl.cell k (by rw [ht.ll]; exact hk)
def RetG (w : World) (P M : Int) (Mod : List Int) (e : Ending) (w' : World) : Prop := ∃ a, e = .returned (.tuple #[.pointer (some ⟨a, 0, none⟩), .int .i64 0]) ∧ Sep w.heap.size w' (fun w2 => GF w2 a P M Mod) ∧ Below w.heap.size w w'
def RetG0 (w : World) (e : Ending) (w' : World) : Prop := e = .returned (.tuple #[.pointer none, .int .i64 1]) ∧ Below w.heap.size w w'
set_option maxHeartbeats 8000000 in
theorem new_no (w : World) (P M : Int) (mv : Value) (Mod : List Int) (h : SI w mv Mod) (hf : ¬ FieldP P M Mod) :
  Calls Tryz.prog 51 #[.agg #[.int .i64 P, .int .i64 M, mv]] w (RetG0 w) := by
 have HM := Lib.hid h; clear h
 have HF := Lib.hid (FBox.mk' w P M mv)
 by_cases hs : ShapeP P M Mod
 ·have HG : Hid (genL (refOps P M Mod) (orderF P M) = []) := gen_none hs hf
  have HS := Lib.hid hs
  have HSB : Hid (shapeB P M Mod = true) := shapeB_true hs
  have hq2 := one_lt_order hs.1
  have hqb := orderF_bounds P M
  generalize hq : orderF P M = q at HG hq2 hqb
  have HQ := Lib.hid hq; clear hq hs hf
  go_enter Tryz.func51, Tryz.ntmps51
  go_wp2_with fail
  obtain ⟨w0, hw0⟩ : ∃ w0, w0 = w.alloc (.cells #[.int .i64 P, .int .i64 M, mv] 24) := ⟨_, rfl⟩
  rw [← hw0] at HF ⊢
  clear hw0
  have c0 := HF.out.c0; have c1 := HF.out.c1; have c2 := HF.out.c2
  go_wp2_with fail
  refine (shape_any _ P M mv Mod (HM.out.below HF.out.bel (Nat.le_refl _))).mono ?_
  rintro e w1 ⟨rfl, hb1⟩
  rw [HSB.out]
  have HF1 := Lib.hid (HF.out.on hb1); clear hb1 c0 c1 c2
  have c0 := HF1.out.c0; have c1 := HF1.out.c1; have c2 := HF1.out.c2
  go_wp2_with fail
  refine (forder_any _ _ _).mono ?_
  rintro e w2 ⟨rfl, rfl⟩
  go_wp2_with fail
  refine (generator_any _ P M mv Mod (HM.out.below HF1.out.bel (Nat.le_refl _)) HS.out).mono ?_
  rintro e w2 ⟨u, rfl, _, hn, hb2⟩
  obtain rfl := hn (by rw [HQ.out]; exact HG.out)
  have hnil := fun (w : World) (l c : Nat) => run_eql_slice_nil (P := Tryz.prog) w 22 3 none l c Tryz.underlying22
  have HF2 := Lib.hid (HF1.out.on hb2); clear hb2 c0 c1 c2 hn
  go_wp2_with fail
  go_ret2
  exact ⟨rfl, HF2.out.bel⟩
 ·have HSB : Hid (shapeB P M Mod = false) := shapeB_false hs
  clear hs hf
  go_enter Tryz.func51, Tryz.ntmps51
  go_wp2_with fail
  obtain ⟨w0, hw0⟩ : ∃ w0, w0 = w.alloc (.cells #[.int .i64 P, .int .i64 M, mv] 24) := ⟨_, rfl⟩
  rw [← hw0] at HF ⊢
  clear hw0
  have c0 := HF.out.c0; have c1 := HF.out.c1; have c2 := HF.out.c2
  go_wp2_with fail
  refine (shape_any _ P M mv Mod (HM.out.below HF.out.bel (Nat.le_refl _))).mono ?_
  rintro e w1 ⟨rfl, hb1⟩
  rw [HSB.out]
  have HF1 := Lib.hid (HF.out.on hb1); clear hb1 c0 c1 c2
  go_wp2_with fail
  go_ret2
  exact ⟨rfl, HF1.out.bel⟩
set_option maxHeartbeats 16000000 in
theorem new_ok (w : World) (P M : Int) (mv : Value) (Mod : List Int) (h : SI w mv Mod) (hf : FieldP P M Mod) :
   Calls Tryz.prog 51 #[.agg #[.int .i64 P, .int .i64 M, mv]] w (RetG w P M Mod) := by
 have HM := Lib.hid h; clear h
 have HF := Lib.hid (FBox.mk' w P M mv)
 have hs : ShapeP P M Mod := ⟨hf.1, hf.2.1, hf.2.2.1⟩
 have hO := ref_fld hf
 obtain ⟨x, hx, hord, hgen⟩ := gen_field hO
 have HSB : Hid (shapeB P M Mod = true) := shapeB_true hs
 have hq2 := one_lt_order hs.1
 have hqb := orderF_bounds P M
 have hml : Mod.length ≤ 100000 := by
   obtain ⟨h1, h2⟩ := hs.2.2
   obtain ⟨_, _, h3, h4, _, _⟩ := order_ne hs.1
   by_cases e : M = 1
   · rw [h1 e]; simp
   · have := (h2 e).1; omega
 obtain ⟨q, hq⟩ : ∃ q : Nat, orderF P M = (q : Int) := ⟨(orderF P M).toNat, by omega⟩
 have HQ := Lib.hid hq
 rw [hq] at hx hord hgen hq2 hqb hO
 rw [Int.toNat_natCast] at hord hgen
 have HT := Lib.hid (tab_of hO hx hord)
 have hq1 : 1 < q := by omega
 have hq256 : q ≤ 256 := by omega
 have HGE : Hid (genL (refOps P M Mod) (orderF P M) = (List.range (q - 1)).map (powO (refOps P M Mod) x)) := by show _ = _; rw [hq]; exact hgen
 obtain ⟨E, hE⟩ : ∃ E, E = (List.range (q - 1)).map (powO (refOps P M Mod) x) := ⟨_, rfl⟩
 rw [← hE] at HT HGE
 have HS := Lib.hid hs; have HFLD := Lib.hid hf
 clear hE hgen hord hx hs hf hq hO
 have hEl : E.length = q - 1 := HT.out.el
 have HEU : Hid (∀ k, k < q - 1 → 0 ≤ E.getD k 0 ∧ E.getD k 0 < (q : Int)) := hid' fun k hk => by
   have := HT.out.unit (by rw [← HQ.out]; exact ref_fld HFLD.out) hk
   have h1 := this.1; have h2 := this.2; omega
 have HEL := Lib.hid hEl; clear hEl
 have hmki := fun (w : World) => run_mkI q (by omega) w
 go_enter Tryz.func51, Tryz.ntmps51
 go_wp2_with fail
 obtain ⟨w0, hw0⟩ : ∃ w0, w0 = w.alloc (.cells #[.int .i64 P, .int .i64 M, mv] 24) := ⟨_, rfl⟩
 rw [← hw0] at HF ⊢
 clear hw0
 have c0 := HF.out.c0; have c1 := HF.out.c1; have c2 := HF.out.c2
 go_wp2_with fail
 refine (shape_any _ P M mv Mod (HM.out.below HF.out.bel (Nat.le_refl _))).mono ?_
 rintro e w1 ⟨rfl, hb1⟩
 rw [HSB.out]
 have HF1 := Lib.hid (HF.out.on hb1); clear hb1 c0 c1 c2
 have c0 := HF1.out.c0; have c1 := HF1.out.c1; have c2 := HF1.out.c2
 go_wp2_with fail
 refine (forder_any _ _ _).mono ?_
 rintro e w2 ⟨rfl, rfl⟩
 go_wp2_with fail
 refine (generator_any _ P M mv Mod (HM.out.below HF1.out.bel (Nat.le_refl _)) HS.out).mono ?_
 rintro e w2 ⟨u, rfl, hou, _, hb2⟩
 rw [HGE.out] at hou
 obtain ⟨ge, ce, rfl, hge1, hge2⟩ := hou.form (by rw [HEL.out]; omega)
 rw [HEL.out] at hou ⊢
 have HE2 := Lib.hid (hou.mono HF1.out.bel.size)
 have HF2 := Lib.hid (HF1.out.on hb2); clear hb2 c0 c1 c2 hou
 have hnil := fun (w : World) (l c : Nat) => run_eql_slice_nil (P := Tryz.prog) w 22 3 (some ⟨ge, 0, none⟩) l c Tryz.underlying22
 rw [HQ.out]
 have c0 := HF2.out.c0; have c1 := HF2.out.c1; have c2 := HF2.out.c2
 go_upto_region 7 with fail
 clear hnil
 go_cut [6] from 22 to 36 (fun t6 wc => ∃ a mv2 gl, t6 = .pointer (some ⟨a, 0, none⟩) ∧ w2.heap.size ≤ a ∧ w2.heap.size ≤ gl ∧ a ≠ gl ∧ Hid (Blk wc a 108 [.int .i64 P, .int .i64 M, mv2, .int .i64 (q : Int), .slice (some ⟨ge, 0, none⟩) (q - 1) ce, .slice (some ⟨gl, 0, none⟩) q q]) ∧ Hid (OI w2.heap.size wc mv2 Mod) ∧ Hid (RI wc gl (List.replicate q 0)) ∧ Hid (∀ g, mv2.ownBlock = some g → g ≠ gl) ∧ Hid (Below w2.heap.size w2 wc))
 case first =>
   refine Kept.start (S := fun w' => w'.cell? ⟨w.heap.size, 0, none⟩ = some (.int .i64 P) ∧ w'.cell? ⟨w.heap.size, 1, none⟩ = some (.int .i64 M) ∧ w'.cell? ⟨w.heap.size, 2, none⟩ = some mv) (by kernel_rfl) (⟨c0, c1, c2⟩) (fun hHeld => ?_)
   change Kept _ _ _ _ 16 _ _ _
   have hdrew := bl_drew w2
   generalize w2.drew = wq1 at hdrew hHeld ⊢
   have HB := Lib.hid hdrew
   clear c0 c1 c2
   clear hdrew
   refine Kept.tk 0 (v := ?_) rfl ?_ hHeld ?_
   rotate_left
   · intro w' h; (try dsimp only at h); go_simp <;> with_reducible rfl
   try simp only [tda, tdb, tdc, Act.put, tdd, tde, tdf]
   refine Kept.tk 1 (v := ?_) rfl ?_ hHeld ?_
   rotate_left
   · intro w' h; (try dsimp only at h); go_simp <;> with_reducible rfl
   try simp only [tda, tdb, tdc, Act.put, tdd, tde, tdf]
   refine Kept.tk 2 (v := ?_) rfl ?_ hHeld ?_
   rotate_left
   · intro w' h; (try dsimp only at h); go_simp <;> with_reducible rfl
   try simp only [tda, tdb, tdc, Act.put, tdd, tde, tdf]
   refine Kept.tk 3 (v := ?_) rfl ?_ hHeld ?_
   rotate_left
   · intro w' h; (try dsimp only at h); go_simp <;> with_reducible rfl
   try simp only [tda, tdb, tdc, Act.put, tdd, tde, tdf]
   refine Kept.tk 5 (v := ?_) rfl ?_ hHeld ?_
   rotate_left
   · intro w' h; (try dsimp only at h); go_simp <;> with_reducible rfl
   try simp only [tda, tdb, tdc, Act.put, tdd, tde, tdf]
   refine Kept.tk 6 (v := ?_) rfl ?_ hHeld ?_
   rotate_left
   · intro w' h; (try dsimp only at h); go_simp <;> with_reducible rfl
   try simp only [tda, tdb, tdc, Act.put, tdd, tde, tdf]
   refine Kept.tk 9 (v := ?_) rfl ?_ hHeld ?_
   rotate_left
   · intro w' h; (try dsimp only at h); go_simp <;> with_reducible rfl
   try simp only [tda, tdb, tdc, Act.put, tdd, tde, tdf]
   refine Kept.tk 10 (v := ?_) rfl ?_ hHeld ?_
   rotate_left
   · intro w' h; (try dsimp only at h); go_simp <;> with_reducible rfl
   try simp only [tda, tdb, tdc, Act.put, tdd, tde, tdf]
   refine Kept.tk 11 (v := ?_) rfl ?_ hHeld ?_
   rotate_left
   · intro w' h; (try dsimp only at h); go_simp <;> with_reducible rfl
   try simp only [tda, tdb, tdc, Act.put, tdd, tde, tdf]
   refine Kept.two (i := 4) (j := 12) (oi := ?opa2) (oj := ?opb2) (by kernel_rfl) ?hoa2 ?hob2 (fun K hK => ?way12) (fun K hK => ?way22)
   case hoa2 => (conv => lhs; simp only [tdg, tdh, tdi])
   case hob2 => (conv => lhs; simp only [tdg, tdh, tdi])
   case way12 =>
     go_simp
     obtain ⟨wq3, gE, e1, e2, hX, hb⟩ := mk_empty wq1
     rw [e1, e2]
     have HE0 := Lib.hid (hX.mono (B' := w2.heap.size) (by have := HB.out.size; omega))
     replace HB := Lib.hid (bl_trans HB.out hb)
     clear e1 e2 hX hb
     refine hK.out _ _ ((fun h => ⟨h.c0, h.c1, h.c2⟩) (HF2.out.on HB.out)) (fun hHeld2 => ?_)
     clear hK K
     replace hHeld := hHeld2
     clear hHeld2
     try simp only [tda, tdb, tdc, Act.put, tdd, tde, tdf]
     refine Kept.two (i := 7) (j := 12) (oi := ?opa4) (oj := ?opb4) (by kernel_rfl) ?hoa4 ?hob4 (fun K hK => ?way14) (fun K hK => ?way24)
     case hoa4 => (conv => lhs; simp only [tdg, tdh, tdi])
     case hob4 => (conv => lhs; simp only [tdg, tdh, tdi])
     case way14 =>
       refine step_catI rfl _ _ rfl w2.heap.size _ _ rfl HE0.out _ Mod rfl ((HM.out.below HF2.out.bel (Nat.le_refl _)).below HB.out (Nat.le_refl _)) (by simp; omega) HB.out.size ?_
       intro v2 wq5 ho hg hv2
       rw [List.nil_append] at ho
       obtain ⟨A2, k2, rfl⟩ := ho.form'
       have HA := Lib.hid ho
       replace HB := Lib.hid (HE0.out.bgrown HB.out HB.out.size hg)
       clear ho hg hv2 HE0 
       refine hK.out _ _ ((fun h => ⟨h.c0, h.c1, h.c2⟩) (HF2.out.on HB.out)) (fun hHeld2 => ?_)
       clear hK K
       replace hHeld := hHeld2
       clear hHeld2
       try simp only [tda, tdb, tdc, Act.put, tdd, tde, tdf]
       refine Kept.tk 8 (v := ?_) rfl ?_ hHeld ?_
       rotate_left
       · intro w' h; (try dsimp only at h); go_simp <;> with_reducible rfl
       try simp only [tda, tdb, tdc, Act.put, tdd, tde, tdf]
       refine Kept.only (i := 12) (o := ?op6) (by kernel_rfl) ?ho6 (fun K hK => ?_)
       case ho6 => (conv => lhs; simp only [tdg, tdh, tdi])
       go_simp
       obtain ⟨wq7, gl, e1, e2, hX, hb⟩ := mk_row wq5 q
       rw [e1, e2]
       have HL := Lib.hid hX
       have HLB : w2.heap.size ≤ gl := (by have := HB.out.size; omega)
       have HNE : Hid (∀ g, (Value.slice A2 Mod.length k2).ownBlock = some g → g ≠ gl) := hid' fun g hg => (by have h1 := (HA.out.lt hg).2; omega) 
       replace HA := Lib.hid (HA.out.below hb (Nat.le_refl _)) 
       replace HB := Lib.hid (bl_trans HB.out hb)
       clear e1 e2 hX hb
       refine hK.out _ _ ((fun h => ⟨h.c0, h.c1, h.c2⟩) (HF2.out.on HB.out)) (fun hHeld2 => ?_)
       clear hK K
       replace hHeld := hHeld2
       clear hHeld2
       try simp only [tda, tdb, tdc, Act.put, tdd, tde, tdf]
       refine Kept.tk 13 (v := ?_) rfl ?_ hHeld ?_
       rotate_left
       · intro w' h; (try dsimp only at h); go_simp <;> with_reducible rfl
       try simp only [tda, tdb, tdc, Act.put, tdd, tde, tdf]
       refine Kept.only (i := 14) (o := ?op8) (by kernel_rfl) ?ho8 (fun K hK => ?_)
       case ho8 => (conv => lhs; simp only [tdg, tdh, tdi])
       go_simp
       obtain ⟨wq9, ga, e1, e2, hX, hb⟩ := mk_box wq7 108 [.int .i64 P, .int .i64 M, .slice A2 Mod.length k2, .int .i64 (q : Int), .slice (some ⟨ge, 0, none⟩) (q - 1) ce, .slice (some ⟨gl, 0, none⟩) q q]
       rw [e1, e2]
       have HG := Lib.hid hX
       have hga : w2.heap.size ≤ ga := (by have := HB.out.size; omega)
       have hgl : ga ≠ gl := (by have := HL.out.lt; omega)
       replace HA := Lib.hid (HA.out.below hb (Nat.le_refl _))
       replace HL := Lib.hid (HL.out.belowS hb)
       replace HB := Lib.hid (bl_trans HB.out hb)
       clear e1 e2 hX hb
       refine hK.out _ _ ((fun h => ⟨h.c0, h.c1, h.c2⟩) (HF2.out.on HB.out)) (fun hHeld2 => ?_)
       clear hK K
       replace hHeld := hHeld2
       clear hHeld2
       try simp only [tda, tdb, tdc, Act.put, tdd, tde, tdf]
       refine Kept.only (i := 15) (by kernel_rfl) rfl (fun K hK => ?_)
       go_simp
       refine hK.out _ _ hHeld (fun hHeld2 => ?_)
       clear hK K
       clear hHeld2
       refine Kept.done (by kernel_rfl) ?_
       try simp only [tda, tdb, tdc, Act.put, tdd, tde, tdf]
       clear hHeld
       go_wp2_with fail
       go_meet
       exact ⟨ga, _, gl, rfl, hga, HLB, hgl, HG, HA, HL, HNE, HB⟩
     case way24 =>
       go_simp
       obtain ⟨wq10, gl, e1, e2, hX, hb⟩ := mk_row wq3 q
       rw [e1, e2]
       have HL := Lib.hid hX
       have HLB : w2.heap.size ≤ gl := (by have := HB.out.size; omega)
       have HNE : Hid (∀ g, (Value.slice (some ⟨gE, 0, none⟩) 0 0).ownBlock = some g → g ≠ gl) := hid' fun g hg => (by have h1 := (HE0.out.lt hg).2; omega)  
       replace HE0 := Lib.hid (HE0.out.below hb (Nat.le_refl _))  
       replace HB := Lib.hid (bl_trans HB.out hb)
       clear e1 e2 hX hb
       refine hK.out _ _ ((fun h => ⟨h.c0, h.c1, h.c2⟩) (HF2.out.on HB.out)) (fun hHeld2 => ?_)
       clear hK K
       replace hHeld := hHeld2
       clear hHeld2
       try simp only [tda, tdb, tdc, Act.put, tdd, tde, tdf]
       refine Kept.only (i := 7) (o := ?op11) (by kernel_rfl) ?ho11 (fun K hK => ?_)
       case ho11 => (conv => lhs; simp only [tdg, tdh, tdi])
       refine step_catI rfl _ _ rfl w2.heap.size _ _ rfl HE0.out _ Mod rfl ((HM.out.below HF2.out.bel (Nat.le_refl _)).below HB.out (Nat.le_refl _)) (by simp; omega) HB.out.size ?_
       intro v2 wq12 ho hg hv2
       rw [List.nil_append] at ho
       obtain ⟨A2, k2, rfl⟩ := ho.form'
       have hne0 : some gl ≠ (Value.slice (some ⟨gE, 0, none⟩) 0 0).ownBlock := fun e => HNE.out gl e.symm rfl 
       replace HNE : Hid (∀ g, (Value.slice A2 Mod.length k2).ownBlock = some g → g ≠ gl) := hid' (fun g hg2 => hv2.elim (fun h => HNE.out g (h ▸ hg2)) (fun h => (by have h0 := HL.out.lt; rw [h] at hg2; have h3 := Option.some.inj hg2; omega))) 
       replace HL := Lib.hid (HL.out.grown hg hne0) 
       have HA := Lib.hid ho
       replace HB := Lib.hid (HE0.out.bgrown HB.out HB.out.size hg)
       clear ho hg hv2 HE0 hne0 
       refine hK.out _ _ ((fun h => ⟨h.c0, h.c1, h.c2⟩) (HF2.out.on HB.out)) (fun hHeld2 => ?_)
       clear hK K
       replace hHeld := hHeld2
       clear hHeld2
       try simp only [tda, tdb, tdc, Act.put, tdd, tde, tdf]
       refine Kept.tk 8 (v := ?_) rfl ?_ hHeld ?_
       rotate_left
       · intro w' h; (try dsimp only at h); go_simp <;> with_reducible rfl
       try simp only [tda, tdb, tdc, Act.put, tdd, tde, tdf]
       refine Kept.tk 13 (v := ?_) rfl ?_ hHeld ?_
       rotate_left
       · intro w' h; (try dsimp only at h); go_simp <;> with_reducible rfl
       try simp only [tda, tdb, tdc, Act.put, tdd, tde, tdf]
       refine Kept.only (i := 14) (o := ?op13) (by kernel_rfl) ?ho13 (fun K hK => ?_)
       case ho13 => (conv => lhs; simp only [tdg, tdh, tdi])
       go_simp
       obtain ⟨wq14, ga, e1, e2, hX, hb⟩ := mk_box wq12 108 [.int .i64 P, .int .i64 M, .slice A2 Mod.length k2, .int .i64 (q : Int), .slice (some ⟨ge, 0, none⟩) (q - 1) ce, .slice (some ⟨gl, 0, none⟩) q q]
       rw [e1, e2]
       have HG := Lib.hid hX
       have hga : w2.heap.size ≤ ga := (by have := HB.out.size; omega)
       have hgl : ga ≠ gl := (by have := HL.out.lt; omega)
       replace HA := Lib.hid (HA.out.below hb (Nat.le_refl _))
       replace HL := Lib.hid (HL.out.belowS hb)
       replace HB := Lib.hid (bl_trans HB.out hb)
       clear e1 e2 hX hb
       refine hK.out _ _ ((fun h => ⟨h.c0, h.c1, h.c2⟩) (HF2.out.on HB.out)) (fun hHeld2 => ?_)
       clear hK K
       replace hHeld := hHeld2
       clear hHeld2
       try simp only [tda, tdb, tdc, Act.put, tdd, tde, tdf]
       refine Kept.only (i := 15) (by kernel_rfl) rfl (fun K hK => ?_)
       go_simp
       refine hK.out _ _ hHeld (fun hHeld2 => ?_)
       clear hK K
       clear hHeld2
       refine Kept.done (by kernel_rfl) ?_
       try simp only [tda, tdb, tdc, Act.put, tdd, tde, tdf]
       clear hHeld
       go_wp2_with fail
       go_meet
       exact ⟨ga, _, gl, rfl, hga, HLB, hgl, HG, HA, HL, HNE, HB⟩
   case way22 =>
     go_simp
     obtain ⟨wq15, gl, e1, e2, hX, hb⟩ := mk_row wq1 q
     rw [e1, e2]
     have HL := Lib.hid hX
     have HLB : w2.heap.size ≤ gl := (by have := HB.out.size; omega)
     replace HB := Lib.hid (bl_trans HB.out hb)
     clear e1 e2 hX hb
     refine hK.out _ _ ((fun h => ⟨h.c0, h.c1, h.c2⟩) (HF2.out.on HB.out)) (fun hHeld2 => ?_)
     clear hK K
     replace hHeld := hHeld2
     clear hHeld2
     try simp only [tda, tdb, tdc, Act.put, tdd, tde, tdf]
     refine Kept.only (i := 4) (o := ?op16) (by kernel_rfl) ?ho16 (fun K hK => ?_)
     case ho16 => (conv => lhs; simp only [tdg, tdh, tdi])
     go_simp
     obtain ⟨wq17, gE, e1, e2, hX, hb⟩ := mk_empty wq15
     rw [e1, e2]
     have HE0 := Lib.hid (hX.mono (B' := w2.heap.size) (by have := HB.out.size; omega))
     have HNE : Hid (∀ g, (Value.slice (some ⟨gE, 0, none⟩) 0 0).ownBlock = some g → g ≠ gl) := hid' fun g hg => (by have h1 := HL.out.lt; simp [Value.ownBlock] at hg; omega) 
     replace HL := Lib.hid (HL.out.belowS hb) 
     replace HB := Lib.hid (bl_trans HB.out hb)
     clear e1 e2 hX hb
     refine hK.out _ _ ((fun h => ⟨h.c0, h.c1, h.c2⟩) (HF2.out.on HB.out)) (fun hHeld2 => ?_)
     clear hK K
     replace hHeld := hHeld2
     clear hHeld2
     try simp only [tda, tdb, tdc, Act.put, tdd, tde, tdf]
     refine Kept.only (i := 7) (o := ?op18) (by kernel_rfl) ?ho18 (fun K hK => ?_)
     case ho18 => (conv => lhs; simp only [tdg, tdh, tdi])
     refine step_catI rfl _ _ rfl w2.heap.size _ _ rfl HE0.out _ Mod rfl ((HM.out.below HF2.out.bel (Nat.le_refl _)).below HB.out (Nat.le_refl _)) (by simp; omega) HB.out.size ?_
     intro v2 wq19 ho hg hv2
     rw [List.nil_append] at ho
     obtain ⟨A2, k2, rfl⟩ := ho.form'
     have hne0 : some gl ≠ (Value.slice (some ⟨gE, 0, none⟩) 0 0).ownBlock := fun e => HNE.out gl e.symm rfl 
     replace HNE : Hid (∀ g, (Value.slice A2 Mod.length k2).ownBlock = some g → g ≠ gl) := hid' (fun g hg2 => hv2.elim (fun h => HNE.out g (h ▸ hg2)) (fun h => (by have h0 := HL.out.lt; rw [h] at hg2; have h3 := Option.some.inj hg2; omega))) 
     replace HL := Lib.hid (HL.out.grown hg hne0) 
     have HA := Lib.hid ho
     replace HB := Lib.hid (HE0.out.bgrown HB.out HB.out.size hg)
     clear ho hg hv2 HE0 hne0 
     refine hK.out _ _ ((fun h => ⟨h.c0, h.c1, h.c2⟩) (HF2.out.on HB.out)) (fun hHeld2 => ?_)
     clear hK K
     replace hHeld := hHeld2
     clear hHeld2
     try simp only [tda, tdb, tdc, Act.put, tdd, tde, tdf]
     refine Kept.tk 8 (v := ?_) rfl ?_ hHeld ?_
     rotate_left
     · intro w' h; (try dsimp only at h); go_simp <;> with_reducible rfl
     try simp only [tda, tdb, tdc, Act.put, tdd, tde, tdf]
     refine Kept.tk 13 (v := ?_) rfl ?_ hHeld ?_
     rotate_left
     · intro w' h; (try dsimp only at h); go_simp <;> with_reducible rfl
     try simp only [tda, tdb, tdc, Act.put, tdd, tde, tdf]
     refine Kept.only (i := 14) (o := ?op20) (by kernel_rfl) ?ho20 (fun K hK => ?_)
     case ho20 => (conv => lhs; simp only [tdg, tdh, tdi])
     go_simp
     obtain ⟨wq21, ga, e1, e2, hX, hb⟩ := mk_box wq19 108 [.int .i64 P, .int .i64 M, .slice A2 Mod.length k2, .int .i64 (q : Int), .slice (some ⟨ge, 0, none⟩) (q - 1) ce, .slice (some ⟨gl, 0, none⟩) q q]
     rw [e1, e2]
     have HG := Lib.hid hX
     have hga : w2.heap.size ≤ ga := (by have := HB.out.size; omega)
     have hgl : ga ≠ gl := (by have := HL.out.lt; omega)
     replace HA := Lib.hid (HA.out.below hb (Nat.le_refl _))
     replace HL := Lib.hid (HL.out.belowS hb)
     replace HB := Lib.hid (bl_trans HB.out hb)
     clear e1 e2 hX hb
     refine hK.out _ _ ((fun h => ⟨h.c0, h.c1, h.c2⟩) (HF2.out.on HB.out)) (fun hHeld2 => ?_)
     clear hK K
     replace hHeld := hHeld2
     clear hHeld2
     try simp only [tda, tdb, tdc, Act.put, tdd, tde, tdf]
     refine Kept.only (i := 15) (by kernel_rfl) rfl (fun K hK => ?_)
     go_simp
     refine hK.out _ _ hHeld (fun hHeld2 => ?_)
     clear hK K
     clear hHeld2
     refine Kept.done (by kernel_rfl) ?_
     try simp only [tda, tdb, tdc, Act.put, tdd, tde, tdf]
     clear hHeld
     go_wp2_with fail
     go_meet
     exact ⟨ga, _, gl, rfl, hga, HLB, hgl, HG, HA, HL, HNE, HB⟩
 case rest =>
   clear c0 c1 c2 hmki
   obtain ⟨ga, mv2, gl, rfl, hga, hgl, hne, HG, HA, HL, HNE, HB⟩ := hcut
   have hgel : ge ≠ gl := by omega
   have HE3 := Lib.hid (HE2.out.below HB.out (Nat.le_refl _)); clear HE2
   have hge3 : w.heap.size ≤ w2.heap.size := HF2.out.bel.size
   go_wp2_with fail
   go_loopw [39] (fun i wr => ∃ k : Nat, k ≤ q - 1 ∧ i = .int .i64 (k : Int) ∧ Hid (Blk wr ga 108 [.int .i64 P, .int .i64 M, mv2, .int .i64 (q : Int), .slice (some ⟨ge, 0, none⟩) (q - 1) ce, .slice (some ⟨gl, 0, none⟩) q q]) ∧ Hid (OI w2.heap.size wr mv2 Mod) ∧ Hid (RI wr gl (logTo E q k)) ∧ Hid (OI w.heap.size wr (.slice (some ⟨ge, 0, none⟩) (q - 1) ce) E) ∧ Hid (Below w2.heap.size w2 wr)) (fun i _ => (q - 1 - (intOf i).toNat))
   case atStart => exact ⟨0, Nat.zero_le _, rfl, HG, HA, HL, HE3, HB⟩
   case round =>
     clear HG HA HL HE3 HB
     obtain ⟨k, hk, rfl, HG, HA, HL, HE, HB⟩ := hrel
     have g5 : wr.cell? ⟨ga, 5, none⟩ = some (.slice (some ⟨gl, 0, none⟩) q q) := HG.out.cell 5
     by_cases hlt : k < q - 1
     · have e1 := HE.out.cell k (by rw [HEL.out]; exact hlt)
       have hr := HEU.out k hlt
       have HSET : Hid (logTo E q (k + 1) = (logTo E q k).set (E.getD k 0).toNat (k : Int)) := rfl
       generalize E.getD k 0 = x at e1 hr HSET
       obtain ⟨xn, rfl⟩ : ∃ xn : Nat, x = (xn : Int) := ⟨x.toNat, by omega⟩
       obtain ⟨hx0, hx1⟩ := hr
       have hxq : xn < q := by omega
       have l1 := HL.out.cell xn (by rw [logTo_len]; exact hxq)
       have lf := HL.out.frozen xn
       rw [Int.toNat_natCast] at HSET
       have HL2 := Lib.hid (HL.out.set xn (k : Int))
       rw [← HSET.out] at HL2
       have HG2 := Lib.hid (HG.out.far (p := ⟨gl, xn, none⟩) hne (.int .i64 (k : Int)))
       have HA2 := Lib.hid (HA.out.grown (gr_set1 wr gl xn (.int .i64 (k : Int))) fun g hg e => HNE.out g hg (Option.some.inj e).symm)
       have HE2 := Lib.hid (HE.out.grown (gr_set1 wr gl xn (.int .i64 (k : Int))) fun g hg e => (by have h1 : gl = g := Option.some.inj e; have h2 : ge = g := Option.some.inj hg; omega))
       have HB2 := Lib.hid (HB.out.setCell (p := ⟨gl, xn, none⟩) hgl (.int .i64 (k : Int)))
       generalize (logTo E q k).getD xn 0 = old at l1
       go_wp2_with fail
       exact ⟨⟨k + 1, by omega, by push_cast; rfl, HG2, HA2, HL2, HE2, HB2⟩, by simp only [intOf]; omega⟩
     · obtain rfl : k = q - 1 := by omega
       go_wp2_with fail
       go_ret2
       refine ⟨ga, rfl, GF.sep (by omega) HG.out (HA.out.mono hge3) (by omega) HM.out.wfs HE.out HL.out (by omega) ?_ HFLD.out HQ.out, bl_trans HF2.out.bel HB.out⟩
       exact HT.out
end Go.Proofs.YtlofhnmpbpjigaaGreat
namespace Go.Proofs.YtlofhnmpbpjigaaGreat
def psum (p : Int) (f : Nat → Int) : Nat → Int
 | 0 => 0
 | k + 1 => psum p f k + f k * p ^ k
theorem psum_shift (p : Int) (f : Nat → Int) : ∀ m, psum p f (m + 1) = psum p (fun i => f (i + 1)) m * p + f 0
 | 0 => by simp [psum]
 | m + 1 => by
  have ih := psum_shift p f m
  rw [psum, ih, psum, Int.add_mul, Int.pow_succ]
  have : f (m + 1) * (p ^ m * p) = f (m + 1) * p ^ m * p := (Int.mul_assoc _ _ _).symm
  rw [this]; omega
theorem psum_congr {p : Int} {f g : Nat → Int} : ∀ {m}, (∀ i, i < m → f i = g i) → psum p f m = psum p g m
 | 0, _ => rfl
 | m + 1, h => by rw [psum, psum, psum_congr fun i hi => h i (by omega), h m (by omega)]
theorem value_row (p : Int) : ∀ (m : Nat) (f : Nat → Int), valueF p (rowOf m f) = psum p f m
 | 0, f => rfl
 | m + 1, f => by
  rw [psum_shift, ← value_row p m]
  have : rowOf (m + 1) f = f 0 :: rowOf m (fun i => f (i + 1)) := by
   unfold rowOf; rw [List.range_succ_eq_map, List.map_cons, List.map_map]; rfl
  rw [this, valueF]
theorem psum_cut {p : Int} {f : Nat → Int} {k m : Nat} (h : k ≤ m) (hz : ∀ i, k ≤ i → i < m → f i = 0) : psum p f m = psum p f k := by
 obtain ⟨d, rfl⟩ : ∃ d, m = k + d := ⟨m - k, by omega⟩
 induction d with
 | zero => rfl
 | succ d ih =>
  rw [← Nat.add_assoc, psum, ih (by omega) (fun i h1 h2 => hz i h1 (by omega)), hz (k + d) (by omega) (by omega)]
  simp
theorem psum_bd {p : Int} (hp : 2 ≤ p) {f : Nat → Int} (hf : ∀ i, 0 ≤ f i ∧ f i < p) : ∀ m, 0 ≤ psum p f m ∧ psum p f m < p ^ m
 | 0 => by simp [psum]
 | m + 1 => by
  obtain ⟨h1, h2⟩ := psum_bd hp hf m
  obtain ⟨h3, h4⟩ := hf m
  have hpp : 0 < p ^ m := Int.pow_pos (by omega)
  have h5 : 0 ≤ f m * p ^ m := Int.mul_nonneg h3 (by omega)
  have h6 : f m * p ^ m ≤ (p - 1) * p ^ m := Int.mul_le_mul_of_nonneg_right (by omega) (by omega)
  have h7 : (p - 1) * p ^ m = p ^ m * p - p ^ m := by rw [Int.sub_mul, Int.one_mul, Int.mul_comm]
  rw [psum, Int.pow_succ]
  omega
def adg (p x y : Int) (i : Nat) : Int := (x / p ^ i % p + y / p ^ i % p) % p
def ndg (p x : Int) (i : Nat) : Int := (p - x / p ^ i % p) % p
theorem adg_bd {p : Int} (hp : 2 ≤ p) (x y : Int) (i : Nat) : 0 ≤ adg p x y i ∧ adg p x y i < p := ⟨Int.emod_nonneg _ (by omega), Int.emod_lt_of_pos _ (by omega)⟩
theorem ndg_bd {p : Int} (hp : 2 ≤ p) (x : Int) (i : Nat) : 0 ≤ ndg p x i ∧ ndg p x i < p := ⟨Int.emod_nonneg _ (by omega), Int.emod_lt_of_pos _ (by omega)⟩
theorem div_pow_succ2 {p : Int} (hp : 2 ≤ p) (x : Int) (k : Nat) : x / p ^ k / p = x / p ^ (k + 1) := by
 rw [Int.ediv_ediv_of_nonneg (Int.le_of_lt (Int.pow_pos (by omega))), Int.pow_succ]
theorem div_gone {p : Int} (hp : 2 ≤ p) {x : Int} {k : Nat} (h : x / p ^ k = 0) : ∀ i, k ≤ i → x / p ^ i = 0 := fun i hi => by
 obtain ⟨d, rfl⟩ : ∃ d, i = k + d := ⟨i - k, by omega⟩
 rw [Int.pow_add, ← Int.ediv_ediv_of_nonneg (Int.le_of_lt (Int.pow_pos (by omega))), h, Int.zero_ediv]
theorem addF_psum {P M : Int} (x y : Int) : addF P M x y = psum P (adg P (inQ (orderF P M) x) (inQ (orderF P M) y)) M.toNat := by
 unfold addF
 rw [value_row]
 refine psum_congr fun i hi => ?_
 unfold digF adg
 rw [digitsF_getD hi, digitsF_getD hi]
theorem negF_psum {P M : Int} (x : Int) : negF P M x = psum P (ndg P (inQ (orderF P M) x)) M.toNat := by
 unfold negF
 rw [value_row]
 refine psum_congr fun i hi => ?_
 unfold digF ndg
 rw [digitsF_getD hi]
theorem inQ_in {q x : Int} : inQ q (inQ q x) = inQ q x := by
 unfold inQ
 by_cases h : 0 ≤ x ∧ x < q
 ·rw [if_pos h, if_pos h]
 ·rw [if_neg h]; split <;> rfl
theorem digF_in (P M x : Int) : digF P M (inQ (orderF P M) x) = digF P M x := by unfold digF; rw [inQ_in]
theorem mulR_in (P M : Int) (Mod : List Int) (x y : Int) : mulR P M Mod (inQ (orderF P M) x) (inQ (orderF P M) y) = mulR P M Mod x y := by unfold mulR; rw [digF_in, digF_in]
theorem mulR_in1 (P M : Int) (Mod : List Int) (x y : Int) : mulR P M Mod (inQ (orderF P M) x) y = mulR P M Mod x y := by unfold mulR; rw [digF_in]
theorem invTo_in (P M : Int) (Mod : List Int) (x : Int) : ∀ k, invTo P M Mod (inQ (orderF P M) x) k = invTo P M Mod x k
 | 0 => rfl
 | k + 1 => by rw [invTo, invTo, invTo_in P M Mod x k, mulR_in1]
theorem invF_in (P M : Int) (Mod : List Int) (x : Int) : invF P M Mod (inQ (orderF P M) x) = invF P M Mod x := invTo_in P M Mod x _
theorem xor_psum : ∀ (m x y : Nat), x < 2 ^ m → y < 2 ^ m → psum 2 (adg 2 (x : Int) (y : Int)) m = ((x ^^^ y : Nat) : Int)
 | 0, x, y, hx, hy => by
  obtain rfl : x = 0 := by simpa using hx
  obtain rfl : y = 0 := by simpa using hy
  rfl
 | m + 1, x, y, hx, hy => by
  rw [Nat.pow_succ] at hx hy
  have ih := xor_psum m (x / 2) (y / 2) (by omega) (by omega)
  have e : ∀ i, adg 2 (x : Int) (y : Int) (i + 1) = adg 2 ((x / 2 : Nat) : Int) ((y / 2 : Nat) : Int) i := fun i => by
   have h2 : ∀ z : Nat, ((z : Int)) / 2 ^ (i + 1) = ((z / 2 : Nat) : Int) / 2 ^ i := fun z => by
    rw [Int.pow_succ, Int.mul_comm, ← Int.ediv_ediv_of_nonneg (by omega)]; push_cast; rfl
   unfold adg
   rw [h2, h2]
  have h0 : adg 2 (x : Int) (y : Int) 0 = (((x + y) % 2 : Nat) : Int) := by
   unfold adg
   simp
  rw [psum_shift, psum_congr fun i _ => e i, ih, h0]
  have h3 : (x ^^^ y) / 2 = x / 2 ^^^ y / 2 := Nat.xor_div_two
  have h4 : (x ^^^ y) % 2 = (x + y) % 2 := by
   have h := Nat.xor_mod_two_pow (a := x) (b := y) (n := 1)
   rw [Nat.pow_one] at h
   rw [h]
   rcases Nat.mod_two_eq_zero_or_one x with h1 | h1 <;> rcases Nat.mod_two_eq_zero_or_one y with h2 | h2 <;> rw [h1, h2, Nat.add_mod, h1, h2] <;> decide
  rw [← h3, ← h4]
  omega
end Go.Proofs.YtlofhnmpbpjigaaGreat
