/- SpaceSupport: the law returns true for every input; each argument reads behind the call as it read before. The walk is in LSup. -/
import Derived.Test.YtmejijekcfhonaaQ14
import Derived.Test.YtmejijekcfhonaaQ19
set_option linter.unusedSimpArgs false
set_option linter.unusedVariables false

/- The places that the bits of a number name, and the others. No program in sight. -/
namespace Go.Proofs.Ytmejijekcfhonaa
set_option linter.unusedVariables false
set_option maxRecDepth 100000

def sT (b : Nat) : Nat → List Int
  | 0 => []
  | k + 1 => if b.testBit k = true then sT b k ++ [(k : Int)] else sT b k
def rT (b : Nat) : Nat → List Int
  | 0 => []
  | k + 1 => if b.testBit k = true then rT b k else rT b k ++ [(k : Int)]
theorem sT_len (b : Nat) : ∀ k, (sT b k).length ≤ k
  | 0 => Nat.le_refl _
  | k + 1 => by have := sT_len b k; rw [sT]; split <;> simp <;> omega
theorem rT_len (b : Nat) : ∀ k, (rT b k).length ≤ k
  | 0 => Nat.le_refl _
  | k + 1 => by have := rT_len b k; rw [rT]; split <;> simp <;> omega
theorem sT_mem (b : Nat) (i : Nat) : ∀ k, (i : Int) ∈ sT b k ↔ i < k ∧ b.testBit i = true
  | 0 => by simp [sT]
  | k + 1 => by
    rw [sT]
    have ih := sT_mem b i k
    by_cases h : b.testBit k = true
    · rw [if_pos h, List.mem_append, ih, List.mem_singleton]
      constructor
      · rintro (⟨h1, h2⟩ | h1)
        · exact ⟨by omega, h2⟩
        · obtain rfl : i = k := by omega
          exact ⟨by omega, h⟩
      · rintro ⟨h1, h2⟩
        by_cases e : i = k
        · exact Or.inr (by omega)
        · exact Or.inl ⟨by omega, h2⟩
    · rw [if_neg h, ih]
      constructor
      · rintro ⟨h1, h2⟩; exact ⟨by omega, h2⟩
      · rintro ⟨h1, h2⟩
        have : i ≠ k := fun e => h (e ▸ h2)
        exact ⟨by omega, h2⟩
theorem app_getD {l : List Int} {x : Int} (k : Nat) : (l ++ [x]).getD k 0 = if k < l.length then l.getD k 0 else if k = l.length then x else 0 := by
  by_cases h : k < l.length
  · rw [if_pos h]; simp [List.getD, List.getElem?_append, h]
  · rw [if_neg h]
    by_cases e : k = l.length
    · rw [if_pos e]; subst e; simp [List.getD]
    · rw [if_neg e, getD_len (by simp; omega)]
theorem sT_ris (b : Nat) : ∀ k, RisP (sT b k) k
  | 0 => fun j hj => absurd hj (by simp [sT])
  | k + 1 => by
    have ih := sT_ris b k
    rw [sT]
    split
    · intro j hj
      rw [List.length_append, List.length_singleton] at hj
      rw [app_getD, app_getD]
      by_cases h : j < (sT b k).length
      · obtain ⟨h1, h2, h3⟩ := ih j h
        rw [if_pos h]
        refine ⟨h1, by omega, fun h0 => ?_⟩
        rw [if_pos (by omega)]
        exact h3 h0
      · rw [if_neg h, if_pos (by omega)]
        refine ⟨by omega, by omega, fun h0 => ?_⟩
        rw [if_pos (by omega)]
        exact (ih (j - 1) (by omega)).2.1
    · intro j hj
      obtain ⟨h1, h2, h3⟩ := ih j hj
      exact ⟨h1, by omega, h3⟩
theorem rT_bd (b : Nat) : ∀ k j, j < (rT b k).length → 0 ≤ (rT b k).getD j 0 ∧ (rT b k).getD j 0 < k
  | 0 => fun j hj => absurd hj (by simp [rT])
  | k + 1 => by
    have ih := rT_bd b k
    rw [rT]
    split
    · intro j hj
      have := ih j hj
      omega
    · intro j hj
      rw [List.length_append, List.length_singleton] at hj
      rw [app_getD]
      by_cases h : j < (rT b k).length
      · rw [if_pos h]; have := ih j h; omega
      · rw [if_neg h, if_pos (by omega)]; omega
theorem rT_filter (b : Nat) : ∀ k, rT b k = ((List.range k).filter fun (i : Nat) => !(b.testBit i)).map fun (i : Nat) => (i : Int)
  | 0 => rfl
  | k + 1 => by
    rw [rT, List.range_succ, List.filter_append, List.map_append, ← rT_filter b k]
    by_cases h : b.testBit k = true
    · rw [if_pos h]; simp [h]
    · rw [if_neg h]; simp [h]
theorem others_sT (b n : Nat) : othersL (sT b n) n = rT b n := by
  rw [rT_filter]
  unfold othersL
  congr 1
  refine List.filter_congr fun i hi => ?_
  rw [List.mem_range] at hi
  congr 1
  rw [Bool.eq_iff_iff, List.any_eq_true]
  constructor
  · rintro ⟨x, hx, e⟩
    rw [beq_iff_eq] at e
    subst e
    exact ((sT_mem b i n).1 hx).2
  · intro h
    exact ⟨_, (sT_mem b i n).2 ⟨hi, h⟩, by simp⟩
theorem u32_bit (b k : Nat) (hb : b < 4294967296) : (bits BinOp.and IntKind.u32 ((b : Int) / 2 ^ k) 1 == 1) = b.testBit k := by
  have h1 : ((b : Int) / 2 ^ k) = ((b / 2 ^ k : Nat) : Int) := by push_cast; rfl
  have h2 : b / 2 ^ k < 4294967296 := Nat.lt_of_le_of_lt (Nat.div_le_self _ _) hb
  rw [h1, Nat.testBit_eq_decide_div_mod_eq]
  generalize b / 2 ^ k = a at *
  have h3 : bits BinOp.and IntKind.u32 (a : Int) 1 = ((a % 2 : Nat) : Int) := by
    show IntKind.u32.wrap ((BitVec.ofInt 32 (a : Int) &&& BitVec.ofInt 32 1).toNat : Int) = _
    have e1 : (BitVec.ofInt 32 (a : Int)).toNat = a := by rw [BitVec.ofInt_natCast, BitVec.toNat_ofNat]; exact Nat.mod_eq_of_lt (by omega)
    rw [BitVec.toNat_and, e1, show (BitVec.ofInt 32 1).toNat = 1 by decide, Nat.and_one_is_mod]
    have : a % 2 < 2 := Nat.mod_lt _ (by omega)
    simp [IntKind.wrap, IntKind.bits, IntKind.signed]
    omega
  rw [h3]
  by_cases h : a % 2 = 1
  · rw [h]; rfl
  · have h0 : a % 2 = 0 := by omega
    rw [h0]; rfl
section
variable {O : FOps} {q : Int} (hO : O.Fld q) {n : Nat}
include hO
theorem supL_cn (A : List (List Int)) (oth : List Int) : Cn O q n (supL O A n oth) := Cn.canon hO (mul_rows hO)
theorem supL_iff {A : List (List Int)} (hA : Cn O q n A) (oth : List Int) (x : Nat → Int) : Span O (supL O A n oth) x ↔ Span O A x ∧ ∀ p, p ∈ oth → x p.toNat = 0 := by
  obtain ⟨p, hA⟩ := hA
  unfold supL
  rw [canon_span hO (mul_rows hO)]
  exact supp_span hO hA oth x
theorem supL_ins {A : List (List Int)} (hA : Cn O q n A) (oth : List Int) : insB O (supL O A n oth) A = true :=
  insB_of hO (supL_cn hO A oth).rows hA fun i hi => ((supL_iff hO hA oth _).1 (Span.row hO hi (((supL_cn hO (n := n) A oth).r hO) i))).1
theorem supL_zero {A : List (List Int)} (hA : Cn O q n A) (oth : List Int) {i : Nat} (hi : i < (supL O A n oth).length) {k : Nat} (hk : k < oth.length) : ((supL O A n oth).getD i []).getD (oth.getD k 0).toNat 0 = 0 :=
  ((supL_iff hO hA oth _).1 (Span.row hO hi (((supL_cn hO (n := n) A oth).r hO) i))).2 _ (getD_mem hk)
end
end Go.Proofs.Ytmejijekcfhonaa

/- The law SpaceSupport returns true for every input. Printed by a program (gen_sup.py). -/
namespace Go.Proofs.Ytmejijekcfhonaa
open Go.RowKit
set_option linter.unusedVariables false
set_option maxRecDepth 100000

/-- two slices of the call's own, apart from each other -/
structure Two (B : Nat) (w0 w : World) (u v : Value) (xs ys : List Int) : Prop where
  a : OI B w u xs
  b : OI B w v ys
  ap : ∀ g, u.ownBlock = some g → v.ownBlock ≠ some g
  bel : Below w0.heap.size w0 w
  up : w0.heap.size ≤ B
  upw : B ≤ w.heap.size
theorem Two.swap {B : Nat} {w0 w : World} {u v : Value} {xs ys : List Int} (h : Two B w0 w u v xs ys) : Two B w0 w v u ys xs := ⟨h.b, h.a, fun g h1 h2 => h.ap g h2 h1, h.bel, h.up, h.upw⟩
theorem Two.box {B : Nat} {w0 w : World} {u v : Value} {xs ys : List Int} (h : Two B w0 w u v xs ys) (y : Int) : Two B w0 (w.alloc (.cells #[.int .i64 y] 3)) u v xs ys :=
  ⟨h.a.alloc _, h.b.alloc _, h.ap, bl_trans h.bel (bl_alloc _ _), h.up, by rw [World.size_alloc]; have := h.upw; omega⟩
theorem Two.push {B : Nat} {w0 w w' : World} {u v u' : Value} {xs ys : List Int} {y : Int} (h : Two B w0 w u v xs ys) (ho : OI B w' u' (xs ++ [y])) (hg : w.grownBy w' u.ownBlock) (hv : u'.ownBlock = u.ownBlock ∨ u'.ownBlock = some w.heap.size) : Two B w0 w' u' v (xs ++ [y]) ys := by
  refine ⟨ho, h.b.grown hg fun g h1 h2 => h.ap g h2 h1, fun g h1 h2 => ?_, h.bel.grown hg h.bel.size fun k hk => Nat.le_trans h.up (h.a.lt hk).1, h.up, Nat.le_trans h.upw hg.size⟩
  rcases hv with e | e
  · rw [e] at h1; exact h.ap g h1 h2
  · rw [e] at h1; cases h1; have := (h.b.lt h2).2; omega
theorem one_si {w : World} {y : Int} (hy : I64 y) : SI (w.alloc (.cells #[.int .i64 y] 3)) (.slice (some ⟨w.heap.size, 0, none⟩) 1 1) [y] :=
  SI.lit w [y] (by simp) (fun k => by
    match k with
    | 0 => exact hy
    | k + 1 => exact I64.zero)

set_option maxHeartbeats 64000000 in
theorem lawSup (w : World) {fv v1 v2 : Value} (hf : ∃ P M mv Mod, fv = .agg #[.int .i64 P, .int .i64 M, mv] ∧ SI w mv Mod) (h1 : ∃ cols rv rows, v1 = .agg #[.int .i64 cols, rv] ∧ SS w rv rows) (h2 : ∃ k : Nat, k < 4294967296 ∧ v2 = .int .u32 (k : Int)) :
    Calls Try.prog 8 #[fv, v1, v2] w (RetB w true) := by
  obtain ⟨P, M, mv, Mod, rfl, hm⟩ := hf
  obtain ⟨k1, rv1, R1, rfl, hv1⟩ := h1
  obtain ⟨kk, hkk, rfl⟩ := h2
  have HM := Lib.hid hm; have HV1 := Lib.hid hv1; clear hm hv1
  have hq := FMBox.mk' w P M mv k1 rv1
  obtain ⟨w1, e1⟩ : ∃ w1, (w.alloc (.cells #[.int .i64 P, .int .i64 M, mv] 24)).alloc (.cells #[.int .i64 k1, rv1] 27) = w1 := ⟨_, rfl⟩
  rw [e1] at hq
  have HE1 := Lib.hid e1; clear e1
  have T0 := Lib.hid hq.fb.blk; have T1 := Lib.hid hq.mb; have HB := Lib.hid hq.fb.bel; clear hq
  go_enter Try.func8, Try.ntmps8
  go_wp2_with fail
  rw [HE1.out]
  clear HE1
  go_wp2_with fail
  refine (awake_any _).mono ?_
  rintro e y1 ⟨rfl, hb1⟩
  replace T0 := Lib.hid (T0.out.belowS hb1)
  replace T1 := Lib.hid (T1.out.belowS hb1)
  replace HB := Lib.hid (bl_trans HB.out hb1)
  have cT10 : y1.cell? ⟨w.heap.size + 1, 0, none⟩ = some (.int .i64 k1) := T1.out.cell 0
  have cT11 : y1.cell? ⟨w.heap.size + 1, 1, none⟩ = some (rv1) := T1.out.cell 1
  go_wp2_with fail
  refine (few10_any _ k1 k1 rv1 rv1 R1 R1 (HV1.out.below HB.out (Nat.le_refl _)) (HV1.out.below HB.out (Nat.le_refl _))).mono ?_
  rintro e y2 ⟨rfl, hb2⟩
  clear cT10 cT11
  replace T0 := Lib.hid (T0.out.belowS hb2)
  replace T1 := Lib.hid (T1.out.belowS hb2)
  replace HB := Lib.hid (bl_trans HB.out hb2)
  cases hfw : few10 k1 R1 k1 R1
  · have HFW := Lib.hid hfw; clear hfw
    go_wp2_with fail
    refine (awake_any _).mono ?_
    rintro e y9 ⟨rfl, hb9⟩
    go_wp2_with fail
    go_ret
    exact ⟨rfl, bl_trans HB.out hb9⟩
  have hk1 : k1 ≤ 20 := few10_le hfw
  clear hfw
  have cT00 : y2.cell? ⟨w.heap.size, 0, none⟩ = some (.int .i64 P) := T0.out.cell 0
  have cT01 : y2.cell? ⟨w.heap.size, 1, none⟩ = some (.int .i64 M) := T0.out.cell 1
  have cT02 : y2.cell? ⟨w.heap.size, 2, none⟩ = some (mv) := T0.out.cell 2
  have cT10 : y2.cell? ⟨w.heap.size + 1, 0, none⟩ = some (.int .i64 k1) := T1.out.cell 0
  have cT11 : y2.cell? ⟨w.heap.size + 1, 1, none⟩ = some (rv1) := T1.out.cell 1
  go_wp2_with fail
  refine (canon10_any _ P M k1 mv rv1 Mod R1 (HM.out.below HB.out (Nat.le_refl _)) (HV1.out.below HB.out (Nat.le_refl _))).mono ?_
  rintro e y3 ⟨cA, UA, lA, tA, bA, rfl, hxA, hb3⟩
  clear cT00 cT01 cT02 cT10 cT11
  replace T0 := Lib.hid (T0.out.belowS hb3)
  replace T1 := Lib.hid (T1.out.belowS hb3)
  replace HB := Lib.hid (bl_trans HB.out hb3)
  have PA := Lib.hid hxA; clear hxA
  go_upto_region 4 with fail
  obtain ⟨z3, gA, e1, e2, hbx, hbz⟩ := mk_box y3 27 [.int .i64 cA, .slice UA lA tA]
  rw [e1, e2]
  clear e1
  replace T0 := Lib.hid (T0.out.belowS hbz)
  replace T1 := Lib.hid (T1.out.belowS hbz)
  replace PA := Lib.hid (PA.out.below hbz (Nat.le_refl _))
  replace HB := Lib.hid (bl_trans HB.out hbz)
  have TA := Lib.hid hbx; clear hbx hbz e2
  cases bA
  · go_wp2_with fail
    go_ret
    exact ⟨rfl, HB.out⟩
  obtain ⟨n, rfl, rfl, hma, rfl, hsA⟩ := PA.out rfl
  clear PA
  obtain ⟨hfd, hn256, hCA⟩ := can_space hma
  have hO := ref_fld hfd
  clear hma
  generalize canonL (refOps P M Mod) R1 n = A at *
  have hlA := hCA.le
  have XA := Lib.hid hsA; clear hsA
  obtain ⟨l, hl⟩ : ∃ l, l = A.length := ⟨_, rfl⟩
  rw [← hl] at hlA XA TA
  have HL := Lib.hid hl; have HCA := Lib.hid hCA; have HO := Lib.hid hO; have HFD := Lib.hid hfd
  clear hl hCA hO hfd
  have hn0 : decide ((n : Int) < 0) = false := by simp
  have hn20 : decide ((20 : Int) < (n : Int)) = false := by rw [decide_eq_false_iff_not]; omega
  have cTA0 : z3.cell? ⟨gA, 0, none⟩ = some (.int .i64 (n : Int)) := TA.out.cell 0
  have cTA1 : z3.cell? ⟨gA, 1, none⟩ = some (.slice UA l tA) := TA.out.cell 1
  rw [← HL.out]
  go_upto_region 8 with fail
  clear cTA0 cTA1
  clear hn0 hn20
  have H2 : Hid (Two z3.heap.size z3 z3 (.slice none 0 0) (.slice none 0 0) (sT kk 0) (rT kk 0)) := hid' ⟨OI.nil _ _, OI.nil _ _, fun g h => by simp [Value.ownBlock] at h, bl_refl _, Nat.le_refl _, Nat.le_refl _⟩
  go_loopw [9, 10, 53] (fun s r i wr => ∃ (k ls lr : Nat) (SA RA : Option Addr) (sc rc : Nat), k ≤ n ∧ i = .int .i64 (k : Int) ∧ s = .slice SA ls sc ∧ r = .slice RA lr rc ∧ Hid ((sT kk k).length = ls) ∧ Hid ((rT kk k).length = lr) ∧ Hid (Two z3.heap.size z3 wr (.slice SA ls sc) (.slice RA lr rc) (sT kk k) (rT kk k))) (fun _ _ i _ => n - (intOf i).toNat)
  case atStart => exact ⟨0, 0, 0, none, none, 0, 0, Nat.zero_le _, rfl, rfl, rfl, rfl, rfl, H2⟩
  case round =>
    clear H2
    obtain ⟨k, ls, lr, SA, RA, sc, rc, hk, rfl, rfl, rfl, HSL, HRL, H2⟩ := hrel
    by_cases hkn : k < n
    · have hub := u32_bit kk k hkk
      have hsl := sT_len kk k; have hrl := rT_len kk k
      have hki : I64 (k : Int) := I64.of_small (by omega) (by omega)
      have HX := Lib.hid (one_si (w := wr) hki)
      have H3 := Lib.hid (H2.out.box (k : Int))
      have hlb1 : (sT kk k).length + [(k : Int)].length ≤ 17592186044416 := by simp; omega
      have hlb2 : (rT kk k).length + [(k : Int)].length ≤ 17592186044416 := by simp; omega
      have HB1 := Lib.hid hlb1; have HB2 := Lib.hid hlb2
      clear hlb1 hlb2 hsl hrl hki
      cases hb : kk.testBit k
      · have HS : Hid (sT kk (k + 1) = sT kk k) := hid' (by rw [sT, if_neg (by rw [hb]; decide)])
        have HR : Hid (rT kk (k + 1) = rT kk k ++ [(k : Int)]) := hid' (by rw [rT, if_neg (by rw [hb]; decide)])
        rw [hb] at hub
        clear hb
        go_wp2_with (at_builtin; refine wpList_catI rfl _ _ rfl z3.heap.size _ (rT kk k) rfl H3.out.b _ [(k : Int)] rfl HX.out HB2.out H3.out.upw ?_; (intro v1 w5 ho hg hv; have H4 := Lib.hid (H3.out.swap.push ho hg hv).swap; (rw [← HR.out, ← HS.out] at H4); clear ho hg hv; obtain ⟨A5, c5, rfl⟩ := H4.out.b.form'))
        exact ⟨⟨k + 1, ls, _, SA, A5, sc, c5, by omega, by go_num, rfl, rfl, by rw [HS.out]; exact HSL, rfl, H4⟩, by simp only [intOf]; omega⟩
      · have HS : Hid (sT kk (k + 1) = sT kk k ++ [(k : Int)]) := hid' (by rw [sT, if_pos hb])
        have HR : Hid (rT kk (k + 1) = rT kk k) := hid' (by rw [rT, if_pos hb])
        rw [hb] at hub
        clear hb
        go_wp2_with (at_builtin; refine wpList_catI rfl _ _ rfl z3.heap.size _ (sT kk k) rfl H3.out.a _ [(k : Int)] rfl HX.out HB1.out H3.out.upw ?_; (intro v1 w5 ho hg hv; have H4 := Lib.hid (H3.out.push ho hg hv); (rw [← HR.out, ← HS.out] at H4); clear ho hg hv; obtain ⟨A5, c5, rfl⟩ := H4.out.a.form'))
        exact ⟨⟨k + 1, _, lr, A5, RA, c5, rc, by omega, by go_num, rfl, rfl, rfl, by rw [HR.out]; exact HRL, H4⟩, by simp only [intOf]; omega⟩
    · obtain rfl : n = k := by omega
      have hsl := sT_len kk n; have hrl := rT_len kk n
      have hris := sT_ris kk n; have hbd := rT_bd kk n; have hoth := others_sT kk n
      have XE := Lib.hid (H2.out.a.si (by omega) (fun j => by
        by_cases h : j < (sT kk n).length
        · have := hris j h; exact I64.of_small (by omega) (by omega)
        · rw [getD_len (by omega)]; exact I64.zero))
      have XO := Lib.hid (H2.out.b.si (by omega) (fun j => by
        by_cases h : j < (rT kk n).length
        · have := hbd j h; exact I64.of_small (by omega) (by omega)
        · rw [getD_len (by omega)]; exact I64.zero))
      have HBZ := Lib.hid H2.out.bel
      clear H2 hk hkn
      have hslz := HSL.out
      have hrlz := HRL.out
      generalize sT kk n = E at *
      generalize rT kk n = F at *
      have hO := HO.out; have hCA := HCA.out; have hfd := HFD.out
      have hSC := supL_cn hO (n := n) A F
      have hSI := supL_ins hO hCA F
      have hSD := supp_dim hO hCA F
      have HZ := Lib.hid (fun i (hi : i < (supL (refOps P M Mod) A n F).length) k (hk : k < F.length) => supL_zero hO hCA F hi hk)
      have HSR := Lib.hid hSC.rows
      have hq0 : 0 < orderF P M := by have := hO.lt.pos; omega
      have hCR := cols_rows hq0 hCA.rows F
      have hAE := hCA.spaceE hfd hn256
      have KS := Lib.hid (fun (w' : World) (u1 u2 : Value) (hb : Below w.heap.size w w') (h1 : SS w' u1 A) (h2 : SI w' u2 E) => sSupp_ok w' P M n mv u1 u2 Mod E A (HM.out.below hb (Nat.le_refl _)) h1 h2 hAE hris)
      rw [hoth] at KS
      have KI := Lib.hid (fun (w' : World) (u1 u2 : Value) (hb : Below w.heap.size w w') (h1 : SS w' u1 _) (h2 : SS w' u2 A) => sInside_ok w' P M n mv u1 u2 Mod _ A (HM.out.below hb (Nat.le_refl _)) h1 h2 (hSC.spaceE hfd hn256) hAE)
      rw [hSI] at KI
      have KC := Lib.hid (fun (w' : World) (u1 u2 : Value) (hb : Below w.heap.size w w') (h1 : SS w' u1 A) (h2 : SI w' u2 F) => mColumns_ok w' P M n mv u1 u2 Mod F A (HM.out.below hb (Nat.le_refl _)) h1 h2 (spaceE_zero hAE).1 hbd (by omega))
      have hlal := HL.out
      have KR := Lib.hid (fun (w' : World) (u1 : Value) (hb : Below w.heap.size w w') (h1 : SS w' u1 (colsL A F)) => mRank_ok w' P M F.length mv u1 Mod (colsL A F) (HM.out.below hb (Nat.le_refl _)) h1 (matE_mk hfd (by omega) (by rw [colsL_len]; omega) hCR))
      have HBD := Lib.hid hbd
      clear hris hbd hoth hSC hSI hCR hAE hO hCA hfd hq0
      generalize supL (refOps P M Mod) A n F = S at *
      generalize (canonL (refOps P M Mod) (colsL A F) F.length).length = rk at *
      generalize colsL A F = C at *
      rw [hrlz] at KC KR
      have hsb : ((S.length : Int) != (l : Int) - (rk : Int)) = false := by rw [bne_eq_false_iff_eq]; omega
      have hrk : rk ≤ l := by omega
      have hsl2 : S.length ≤ l := by omega
      have hlrn : lr ≤ n := by omega
      clear hSD hlal hslz hrlz hsl hrl
      replace T0 := Lib.hid (T0.out.belowS HBZ.out)
      replace TA := Lib.hid (TA.out.belowS HBZ.out)
      replace XA := Lib.hid (XA.out.below HBZ.out (Nat.le_refl _))
      replace HB := Lib.hid (bl_trans HB.out HBZ.out)
      clear HBZ
      have cT00 : wr.cell? ⟨w.heap.size, 0, none⟩ = some (.int .i64 P) := T0.out.cell 0
      have cT01 : wr.cell? ⟨w.heap.size, 1, none⟩ = some (.int .i64 M) := T0.out.cell 1
      have cT02 : wr.cell? ⟨w.heap.size, 2, none⟩ = some (mv) := T0.out.cell 2
      have cTA0 : wr.cell? ⟨gA, 0, none⟩ = some (.int .i64 (n : Int)) := TA.out.cell 0
      have cTA1 : wr.cell? ⟨gA, 1, none⟩ = some (.slice UA l tA) := TA.out.cell 1
      go_wp2_with fail
      refine (KS.out _ _ _ HB.out XA.out XE.out).mono ?_
      rintro e y4 ⟨u, rfl, hx, hb4⟩
      clear cT00 cT01 cT02 cTA0 cTA1
      replace T0 := Lib.hid (T0.out.belowS hb4)
      replace TA := Lib.hid (TA.out.belowS hb4)
      replace XA := Lib.hid (XA.out.below hb4 (Nat.le_refl _))
      replace XE := Lib.hid (XE.out.below hb4 (Nat.le_refl _))
      replace XO := Lib.hid (XO.out.below hb4 (Nat.le_refl _))
      replace HB := Lib.hid (bl_trans HB.out hb4)
      obtain ⟨US, cS, rfl, _⟩ := hx.out
      have XS := Lib.hid hx.out; clear hx
      change Hid (SS _ (.slice US S.length cS) S) at XS
      go_upto_region 15 with fail
      obtain ⟨z4, gS, e1, e2, hbx, hbz⟩ := mk_box y4 27 [.int .i64 (n : Int), .slice US S.length cS]
      rw [e1, e2]
      clear e1
      replace T0 := Lib.hid (T0.out.belowS hbz)
      replace TA := Lib.hid (TA.out.belowS hbz)
      replace XA := Lib.hid (XA.out.below hbz (Nat.le_refl _))
      replace XE := Lib.hid (XE.out.below hbz (Nat.le_refl _))
      replace XO := Lib.hid (XO.out.below hbz (Nat.le_refl _))
      replace XS := Lib.hid (XS.out.below hbz (Nat.le_refl _))
      replace HB := Lib.hid (bl_trans HB.out hbz)
      have TS := Lib.hid hbx; clear hbx hbz e2
      have cT00 : z4.cell? ⟨w.heap.size, 0, none⟩ = some (.int .i64 P) := T0.out.cell 0
      have cT01 : z4.cell? ⟨w.heap.size, 1, none⟩ = some (.int .i64 M) := T0.out.cell 1
      have cT02 : z4.cell? ⟨w.heap.size, 2, none⟩ = some (mv) := T0.out.cell 2
      have cTA0 : z4.cell? ⟨gA, 0, none⟩ = some (.int .i64 (n : Int)) := TA.out.cell 0
      have cTA1 : z4.cell? ⟨gA, 1, none⟩ = some (.slice UA l tA) := TA.out.cell 1
      have cTS0 : z4.cell? ⟨gS, 0, none⟩ = some (.int .i64 (n : Int)) := TS.out.cell 0
      have cTS1 : z4.cell? ⟨gS, 1, none⟩ = some (.slice US S.length cS) := TS.out.cell 1
      go_wp2_with fail
      refine (KI.out _ _ _ HB.out XS.out XA.out).mono ?_
      rintro e y5 ⟨rfl, hb5⟩
      clear cT00 cT01 cT02 cTA0 cTA1 cTS0 cTS1
      replace T0 := Lib.hid (T0.out.belowS hb5)
      replace TA := Lib.hid (TA.out.belowS hb5)
      replace TS := Lib.hid (TS.out.belowS hb5)
      replace XA := Lib.hid (XA.out.below hb5 (Nat.le_refl _))
      replace XE := Lib.hid (XE.out.below hb5 (Nat.le_refl _))
      replace XO := Lib.hid (XO.out.below hb5 (Nat.le_refl _))
      replace XS := Lib.hid (XS.out.below hb5 (Nat.le_refl _))
      replace HB := Lib.hid (bl_trans HB.out hb5)
      have cT00 : y5.cell? ⟨w.heap.size, 0, none⟩ = some (.int .i64 P) := T0.out.cell 0
      have cT01 : y5.cell? ⟨w.heap.size, 1, none⟩ = some (.int .i64 M) := T0.out.cell 1
      have cT02 : y5.cell? ⟨w.heap.size, 2, none⟩ = some (mv) := T0.out.cell 2
      have cTA0 : y5.cell? ⟨gA, 0, none⟩ = some (.int .i64 (n : Int)) := TA.out.cell 0
      have cTA1 : y5.cell? ⟨gA, 1, none⟩ = some (.slice UA l tA) := TA.out.cell 1
      go_wp2_with fail
      refine (KC.out _ _ _ HB.out XA.out XO.out).mono ?_
      rintro e y6 ⟨u, rfl, hx, hb6⟩
      clear cT00 cT01 cT02 cTA0 cTA1
      replace T0 := Lib.hid (T0.out.belowS hb6)
      replace TA := Lib.hid (TA.out.belowS hb6)
      replace TS := Lib.hid (TS.out.belowS hb6)
      replace XA := Lib.hid (XA.out.below hb6 (Nat.le_refl _))
      replace XE := Lib.hid (XE.out.below hb6 (Nat.le_refl _))
      replace XO := Lib.hid (XO.out.below hb6 (Nat.le_refl _))
      replace XS := Lib.hid (XS.out.below hb6 (Nat.le_refl _))
      replace HB := Lib.hid (bl_trans HB.out hb6)
      obtain ⟨UC, cC, rfl, _⟩ := hx.out
      have XC := Lib.hid hx.out; clear hx
      change Hid (SS _ (.slice UC C.length cC) C) at XC
      go_upto_region 17 with fail
      obtain ⟨z6, gC, e1, e2, hbx, hbz⟩ := mk_box y6 27 [.int .i64 (lr : Int), .slice UC C.length cC]
      rw [e1, e2]
      clear e1
      replace T0 := Lib.hid (T0.out.belowS hbz)
      replace TA := Lib.hid (TA.out.belowS hbz)
      replace TS := Lib.hid (TS.out.belowS hbz)
      replace XA := Lib.hid (XA.out.below hbz (Nat.le_refl _))
      replace XE := Lib.hid (XE.out.below hbz (Nat.le_refl _))
      replace XO := Lib.hid (XO.out.below hbz (Nat.le_refl _))
      replace XS := Lib.hid (XS.out.below hbz (Nat.le_refl _))
      replace XC := Lib.hid (XC.out.below hbz (Nat.le_refl _))
      replace HB := Lib.hid (bl_trans HB.out hbz)
      have TC := Lib.hid hbx; clear hbx hbz e2
      have cT00 : z6.cell? ⟨w.heap.size, 0, none⟩ = some (.int .i64 P) := T0.out.cell 0
      have cT01 : z6.cell? ⟨w.heap.size, 1, none⟩ = some (.int .i64 M) := T0.out.cell 1
      have cT02 : z6.cell? ⟨w.heap.size, 2, none⟩ = some (mv) := T0.out.cell 2
      have cTC0 : z6.cell? ⟨gC, 0, none⟩ = some (.int .i64 (lr : Int)) := TC.out.cell 0
      have cTC1 : z6.cell? ⟨gC, 1, none⟩ = some (.slice UC C.length cC) := TC.out.cell 1
      go_wp2_with fail
      refine (KR.out _ _ HB.out XC.out).mono ?_
      rintro e y7 ⟨rfl, hb7⟩
      clear cT00 cT01 cT02 cTC0 cTC1
      replace T0 := Lib.hid (T0.out.belowS hb7)
      replace TA := Lib.hid (TA.out.belowS hb7)
      replace TS := Lib.hid (TS.out.belowS hb7)
      replace TC := Lib.hid (TC.out.belowS hb7)
      replace XA := Lib.hid (XA.out.below hb7 (Nat.le_refl _))
      replace XE := Lib.hid (XE.out.below hb7 (Nat.le_refl _))
      replace XO := Lib.hid (XO.out.below hb7 (Nat.le_refl _))
      replace XS := Lib.hid (XS.out.below hb7 (Nat.le_refl _))
      replace XC := Lib.hid (XC.out.below hb7 (Nat.le_refl _))
      replace HB := Lib.hid (bl_trans HB.out hb7)
      have cTA0 : y7.cell? ⟨gA, 0, none⟩ = some (.int .i64 (n : Int)) := TA.out.cell 0
      have cTA1 : y7.cell? ⟨gA, 1, none⟩ = some (.slice UA l tA) := TA.out.cell 1
      have cTS0 : y7.cell? ⟨gS, 0, none⟩ = some (.int .i64 (n : Int)) := TS.out.cell 0
      have cTS1 : y7.cell? ⟨gS, 1, none⟩ = some (.slice US S.length cS) := TS.out.cell 1
      go_upto_region 21 with fail
      clear cTA0 cTA1 cTS0 cTS1
      go_loop [129] (fun i => ∃ a : Nat, a ≤ S.length ∧ i = .int .i64 (a : Int)) (fun i => S.length - (intOf i).toNat)
      case atStart => exact ⟨0, Nat.zero_le _, rfl⟩
      case round =>
        obtain ⟨a, ha, rfl⟩ := hrel
        by_cases hlt : a < S.length
        · obtain ⟨ad, Ak, ck, x, rfl, hc, HX, HXE⟩ := XS.out.eltA (k := a) hlt
          have HXL : Hid (x.length = n) := hid' (by rw [← HXE.out]; exact (HSR.out a hlt).1)
          rw [HXL.out] at hc
          have HZA := Lib.hid (fun k (hk : k < F.length) => HZ.out a hlt k hk)
          rw [HXE.out] at HZA
          go_upto_region 24 with fail
          go_loop [135] (fun i => ∃ b : Nat, b ≤ lr ∧ i = .int .i64 (b : Int)) (fun i => lr - (intOf i).toNat)
          case atStart => exact ⟨0, Nat.zero_le _, rfl⟩
          case round =>
            obtain ⟨b, hb, rfl⟩ := hrel
            by_cases hbl : b < lr
            · obtain ⟨fd, y, rfl, hd, _, HY⟩ := XO.out.elt (k := b) (by rw [HRL.out]; exact hbl)
              have hyb := HBD.out b (by rw [HRL.out]; exact hbl)
              have hyz := HZA.out b (by rw [HRL.out]; exact hbl)
              rw [HY.out] at hyb hyz
              obtain ⟨m, rfl⟩ := Int.eq_ofNat_of_zero_le hyb.1
              have hmn : m < n := by omega
              rw [Int.toNat_natCast] at hyz
              obtain ⟨xd, t, rfl, he, _, HT⟩ := HX.out.elt (k := m) (by rw [HXL.out]; exact hmn)
              have htz : (t != 0) = false := by rw [bne_eq_false_iff_eq, ← HT.out]; exact hyz
              have hnm : decide ((n : Int) ≤ (m : Int)) = false := by rw [decide_eq_false_iff_not]; omega
              clear hyb hyz
              go_wp2_with fail
              exact ⟨⟨b + 1, by omega, by go_num⟩, by simp only [intOf]; omega⟩
            · obtain rfl : lr = b := by omega
              go_wp2_with fail
              exact ⟨⟨a + 1, by omega, by go_num⟩, by simp only [intOf]; omega⟩
        · go_wp2_with fail
          go_ret
          exact ⟨rfl, HB.out⟩
end Go.Proofs.Ytmejijekcfhonaa

/- SpaceSupport: the law returns true for every input; each argument reads behind the call as it read before. The walk is in LSup. -/
namespace Go.Proofs.Ytmejijekcfhonaa.spaceSupport
open Go.ChangeShapes Go.WideShapes Go.ChangeAt Go.RowKit
set_option linter.unusedVariables false

set_option maxRecDepth 100000 in
theorem lifted (os : Os) (started : os.Started) (H : Type) (enc : TypeId × Value → H) :
    ReturnsInHanded {} Try.checked os 8 .any (Rows.spaceSupportSpec.pre6 enc Try.prog Try.f8 Rows.spaceSupportRow.domain false) (Rows.spaceSupportSpec.post enc Try.prog Try.f8 false true false false) := by
  refine returnsInHanded_of_change_sized (C := Try.checked) own started (by kernel_rfl) Try.func8
    (ChangeSpec.witness6 (enc := enc) (C := Try.checked) false ⟨#[], #[.agg #[.int .i64 0, .int .i64 0, .slice none 0 0], .agg #[.int .i64 0, .slice none 0 0], .int .u32 0], []⟩ 8 (by kernel_rfl) (by kernel_rfl) (by kernel_rfl) (by kernel_rfl)) ?_
  intro W base args ds gs before hval0 hW _ hsz0 _
  have hsz : (DataW.weightsEach Try.prog (Try.f8.params.toList ++ Rows.spaceSupportSpec.plain.varTypes Try.prog) (ds ++ gs)).all (· ≤ reachBytes) = true := hsz0
  have hval : ∀ (j : Nat) t v, Try.f8.params[j]? = some t → args[j]? = some v → Value.okWide Try.prog W .any base t v := hval0
  have hW' := hW
  obtain ⟨p, q, hA0, hV, rfl, hfz, hnd⟩ := hW
  have hA : DataW.TrodAll enc Try.prog W 0 (fun _ => true) true Try.f8.params.toList args.toList ds p := hA0
  rw [Try.params8] at hA hval hsz
  obtain ⟨v0, vs0, d0, ds0, p0, q0, hargs, rfl, rfl, h0, r0'⟩ := trodAll_cons hA
  obtain ⟨v1, vs1, d1, ds1, p1, q1, rfl, rfl, rfl, h1, r1'⟩ := trodAll_cons r0'
  obtain ⟨v2, vs2, d2, ds2, p2, q2, rfl, rfl, rfl, h2, r2'⟩ := trodAll_cons r1'
  obtain ⟨rfl, rfl, rfl⟩ := trodAll_nil r2'
  obtain rfl : args = #[v0, v1, v2] := by cases args; simp_all
  obtain ⟨rfl, rfl⟩ := trodVars_none hV
  have k0 := h0
  have r0 := open_Field h0 (hval 0 24 v0 rfl rfl) (weigh hsz 0 rfl rfl)
  have k1 := h1
  have r1 := open_Matrix h1 (hval 1 27 v1 rfl rfl) (weigh hsz 1 rfl rfl)
  obtain ⟨a2, rfl, rfl, rfl, w2⟩ := open_int Try.underlying51 (hval 2 51 v2 rfl rfl) h2
  clear hA0 hval0
  refine (lawSup W r0 r1 (u32_of w2)).mono fun e W' ⟨he, bel⟩ => ?_
  subst he
  exact ⟨_, rfl, _, _, _, [], _, [], hW', trodAll_mk1 (shut_bool Try.underlying4 _), (trodAll_cons_mk (Below.trod laidOut (by kernel_rfl) (of_decide_eq_true (by kernel_rfl)) k0 bel (lt_of_trod k0)) (trodAll_cons_mk (Below.trod laidOut (by kernel_rfl) (of_decide_eq_true (by kernel_rfl)) k1 bel (lt_of_trod k1)) (trodAll_cons_mk (shut_int Try.underlying51 w2) trodAll_mk0))), rfl, bel.frame _, fun h => by cases h⟩

theorem proved : Rows.SpaceSupportSaid :=
  OpenClaim.holds_of_wide 8 Try.f8 rfl rfl rfl rfl rfl rfl rfl ⟨rfl, rfl, rfl, rfl, rfl⟩ rfl rfl rfl rfl rfl (by kernel_rfl) Try.func8 (by kernel_rfl)
    (of_decide_eq_true (by kernel_rfl)) (by unfold Func.isWrapper; first | (rw [if_pos (by decide +kernel)]; kernel_rfl) | (rw [if_neg (by decide +kernel)]; exact ⟨rfl, rfl⟩))
    (fun os started H enc _ => lifted os started H enc)
#print axioms proved
end Go.Proofs.Ytmejijekcfhonaa.spaceSupport
