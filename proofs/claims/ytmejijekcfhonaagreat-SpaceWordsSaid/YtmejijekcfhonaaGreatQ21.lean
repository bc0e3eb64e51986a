/- SpaceWords: the law returns true for every input; each argument reads behind the call as it read before. The walk is in LWrds. -/
import Derived.Test.YtmejijekcfhonaaGreatQ15
import Derived.Test.YtmejijekcfhonaaGreatQ17
import Derived.Test.YtmejijekcfhonaaGreatQ18
import Derived.Test.YtmejijekcfhonaaGreatQ19
set_option linter.unusedSimpArgs false
set_option linter.unusedVariables false

/- Slices from an index on. -/
namespace Go.Proofs.YtmejijekcfhonaaGreat
open Go.RowKit
set_option linter.unusedVariables false
set_option maxRecDepth 100000

theorem addr_add (a : Addr) (i k : Nat) : (a.add i).add k = a.add (i + k) := by
  unfold Addr.add
  by_cases h1 : i = 0 <;> by_cases h2 : k = 0 <;> simp [h1, h2, Nat.add_assoc]
theorem SS.dropv {w : World} {A : Option Addr} {c : Nat} {xss : List (List Int)} (h : SS w (.slice A xss.length c) xss) {i : Nat} (hi : i ≤ xss.length) :
    SS w (.slice (if c = i then A else Option.map (fun x => x.add i) A) (xss.length - i) (c - i)) (xss.drop i) := by
  obtain ⟨A', c', e, h⟩ := h
  cases e
  have hl : (xss.drop i).length = xss.length - i := List.length_drop
  refine ⟨_, c - i, by rw [hl], by have := h.len; omega, by have := h.cap; omega, fun k hk => ?_⟩
  rw [hl] at hk
  obtain ⟨ad, u, rfl, hc, hs⟩ := h.cell (i + k) (by omega)
  have hci : ¬ c = i := by have := h.cap; omega
  refine ⟨ad.add i, u, by rw [if_neg hci]; rfl, by rw [addr_add]; exact hc, ?_⟩
  rw [show (xss.drop i).getD k [] = xss.getD (i + k) [] by simp [List.getD]]
  exact hs
theorem SS.takev {w : World} {A : Option Addr} {c : Nat} {xss : List (List Int)} (h : SS w (.slice A xss.length c) xss) {i : Nat} (hi : i ≤ xss.length) :
    SS w (.slice A i c) (xss.take i) := by
  obtain ⟨A', c', e, h⟩ := h
  cases e
  have hl : (xss.take i).length = i := by rw [List.length_take]; omega
  refine ⟨_, c, by rw [hl], by have := h.len; omega, by have := h.cap; omega, fun k hk => ?_⟩
  rw [hl] at hk
  obtain ⟨ad, u, rfl, hc, hs⟩ := h.cell k (by omega)
  refine ⟨ad, u, rfl, hc, ?_⟩
  rw [show (xss.take i).getD k [] = xss.getD k [] by simp [List.getD, List.getElem?_take, hk]]
  exact hs
theorem insB_of {O : FOps} {q : Int} (hO : O.Fld q) {n : Nat} {A B : List (List Int)} (hA : Rows q n A) (hB : Cn O q n B) (h : Inside O A B) : insB O A B = true := by
  obtain ⟨p, hp⟩ := hB
  exact all_of_getD fun i hi => (inL_span hO hp (hA i hi).2 (hA i hi).1).2 (h i hi)
theorem quo_cn {O : FOps} {q : Int} (hO : O.Fld q) {n : Nat} {A B : List (List Int)} (hA : Cn O q n A) (hB : Rows q n B) : Cn O q n (quoS O A B n) := by
  obtain ⟨p, hp⟩ := hA
  exact Cn.canon hO (rests_rows hO hp hB)
theorem u8_of {z : Int} (h : (Lit.int .u8 z).wf = true) : ∃ k : Nat, k < 256 ∧ Value.int .u8 z = .int .u8 (k : Int) := by
  simp [Lit.wf, IntKind.min, IntKind.max, IntKind.signed, IntKind.bits] at h
  have h2 : 0 ≤ z ∧ z < 256 := ⟨by omega, by omega⟩
  obtain ⟨k, rfl⟩ := Int.eq_ofNat_of_zero_le h2.1
  exact ⟨k, by omega, rfl⟩
theorem u32_of {z : Int} (h : (Lit.int .u32 z).wf = true) : ∃ k : Nat, k < 4294967296 ∧ Value.int .u32 z = .int .u32 (k : Int) := by
  simp [Lit.wf, IntKind.min, IntKind.max, IntKind.signed, IntKind.bits] at h
  have h2 : 0 ≤ z ∧ z < 4294967296 := ⟨by omega, by omega⟩
  obtain ⟨k, rfl⟩ := Int.eq_ofNat_of_zero_le h2.1
  exact ⟨k, by omega, rfl⟩
end Go.Proofs.YtmejijekcfhonaaGreat

/- ref09.Vector. -/
namespace Go.Proofs.YtmejijekcfhonaaGreat
open Go.RowKit
set_option linter.unusedVariables false
set_option maxRecDepth 100000

set_option maxHeartbeats 4000000 in
theorem rVector_any (w : World) (P M nn : Int) (mv xv : Value) (Mod x : List Int) (hm : SI w mv Mod) (hx : SI w xv x) :
    Calls Tryz.prog 67 #[.agg #[.int .i64 P, .int .i64 M, mv], xv, .int .i64 nn] w (RetI w (vecE (orderF P M) x nn)) := by
  obtain ⟨XA, xc, rfl, hx⟩ := hx
  have hxl := hx.len
  have HX := Lib.hid hx.si; clear hx
  have HF := Lib.hid (FBox.mk' w P M mv)
  obtain ⟨l, hl⟩ : ∃ l, l = x.length := ⟨_, rfl⟩
  rw [← hl] at HX hxl ⊢
  have HLL := Lib.hid hl; clear hl
  by_cases hn : (l : Int) = nn
  case neg =>
    have hb : ((l : Int) != nn) = true := by rw [bne_iff_ne]; exact hn
    have HE : Hid (vecE (orderF P M) x nn = 3) := hid' (by unfold vecE; rw [if_neg (by rw [← HLL.out]; exact hn)])
    clear hn
    go_enter Tryz.func67, Tryz.ntmps67
    go_wp2_with fail
    go_ret
    exact ⟨by rw [HE.out]; rfl, HF.out.bel⟩
  have hb : ((l : Int) != nn) = false := by rw [bne_eq_false_iff_eq]; exact hn
  have HE : Hid (vecE (orderF P M) x nn = entriesF (orderF P M) x) := hid' (by unfold vecE; rw [if_pos (by rw [← HLL.out]; exact hn)])
  clear hn
  go_enter Tryz.func67, Tryz.ntmps67
  go_wp2_with fail
  generalize hw0 : w.alloc (.cells #[.int .i64 P, .int .i64 M, mv] 24) = w0 at *
  clear hw0
  have c0 := HF.out.c0; have c1 := HF.out.c1; have c2 := HF.out.c2
  go_wp2_with fail
  refine (entries_any _ P M mv _ x (HX.out.below HF.out.bel (Nat.le_refl _))).mono ?_
  rintro e w1 ⟨rfl, hb1⟩
  have HB1 := Lib.hid (bl_trans HF.out.bel hb1); clear hb1
  go_wp2_with fail
  go_ret
  exact ⟨by rw [HE.out]; rfl, HB1.out⟩
end Go.Proofs.YtmejijekcfhonaaGreat

/- ref10.word, Has, Reduce, Coordinates; ref09.Pick. Printed by a program (gen_r10g.py). -/
namespace Go.Proofs.YtmejijekcfhonaaGreat
open Go.RowKit
set_option linter.unusedVariables false
set_option maxRecDepth 100000

/-- an entry of a list, whatever the place -/
theorem pickL_all (x set : List Int) : fillTo set.length (fun k => x.getD (set.getD k 0).toNat 0) (fun _ => 0) set.length = pickL x set := fillTo_full _ _ _
set_option maxHeartbeats 8000000 in
theorem rPick_any (w : World) (vx vs : Value) (x set : List Int) (hx : SI w vx x) (hs : SI w vs set) (hr : ∀ k, k < set.length → 0 ≤ set.getD k 0 ∧ set.getD k 0 < x.length) (hl : set.length ≤ 100000) :
    Calls Tryz.prog 44 #[vx, vs] w (RetO w (pickL x set)) := by
  obtain ⟨XA, xc, rfl, hx⟩ := hx
  obtain ⟨SA, sc, rfl, hs⟩ := hs
  have HX := Lib.hid hx.si; have HS := Lib.hid hs.si; have HR := Lib.hid hr
  clear hx hs hr
  obtain ⟨m, hm⟩ : ∃ m, m = set.length := ⟨_, rfl⟩
  have HF : Hid (fillTo m (fun k => x.getD (set.getD k 0).toNat 0) (fun _ => 0) m = pickL x set) := hid' (by rw [hm]; exact pickL_all x set)
  rw [← hm] at hl HS HR ⊢
  have HM := Lib.hid hm; clear hm
  obtain ⟨l, hll⟩ : ∃ l, l = x.length := ⟨_, rfl⟩
  rw [← hll] at HX HR ⊢
  have HL := Lib.hid hll; clear hll
  have hmk := fun (w : World) => run_mkI m (by omega) w
  have HI0 : Hid (RI (w.alloc (.cells (madeCells #[.int .i64 0] m) 3)) w.heap.size (fillTo m (fun k => x.getD (set.getD k 0).toNat 0) (fun _ => 0) 0)) := hid' (by rw [fillTo_zero, rowOf_zero]; exact RI.made w m)
  have HBa := Lib.hid (bl_alloc w (.cells (madeCells #[.int .i64 0] m) 3))
  go_enter Tryz.func44, Tryz.ntmps44
  go_wp2_with fail
  generalize w.alloc (.cells (madeCells #[.int .i64 0] m) 3) = w2 at *
  clear hmk
  go_loopw [6] (fun i wr => ∃ k : Nat, k ≤ m ∧ i = .int .i64 (k : Int) ∧ Hid (RI wr w.heap.size (fillTo m (fun k => x.getD (set.getD k 0).toNat 0) (fun _ => 0) k)) ∧ Hid (Below w.heap.size w wr)) (fun i _ => m - (intOf i).toNat)
  case atStart => exact ⟨0, Nat.zero_le _, rfl, HI0, HBa⟩
  case round =>
    clear HI0 HBa
    obtain ⟨k, hk, rfl, HI, HB⟩ := hrel
    by_cases hkm : k < m
    · obtain ⟨sd, z, rfl, hc, _, HZ⟩ := (HS.out.below HB.out (Nat.le_refl _)).elt (k := k) (by rw [← HM.out]; exact hkm)
      obtain ⟨hz0, hz1⟩ := HR.out k hkm
      rw [HZ.out] at hz0 hz1
      obtain ⟨pj, rfl⟩ : ∃ pj : Nat, z = (pj : Int) := ⟨z.toNat, by omega⟩
      have hpj : pj < l := by omega
      obtain ⟨xd, y, rfl, hd, _, HY⟩ := (HX.out.below HB.out (Nat.le_refl _)).elt (k := pj) (by rw [← HL.out]; exact hpj)
      have u0 : wr.cell? ⟨w.heap.size, k, none⟩ = some (.int .i64 0) := by rw [HI.out.cell k (by rw [fillTo_len]; exact hkm), fillTo_getD hkm]
      have uf := HI.out.frozen k
      have HI2 : Hid (RI (wr.setCell ⟨w.heap.size, k, none⟩ (.int .i64 y)) w.heap.size (fillTo m (fun k => x.getD (set.getD k 0).toNat 0) (fun _ => 0) (k + 1))) := hid' (by
        have h := HI.out.set k y
        rw [← fillTo_set hkm]
        have e : x.getD (set.getD k 0).toNat 0 = y := by rw [HZ.out, Int.toNat_natCast, HY.out]
        rw [e]
        exact h)
      have HB2 := Lib.hid (HB.out.setCell (p := ⟨w.heap.size, k, none⟩) (Nat.le_refl _) (.int .i64 y))
      clear hz0 hz1
      go_wp2_with fail
      exact ⟨⟨k + 1, by omega, by push_cast; rfl, HI2, HB2⟩, by simp only [intOf]; omega⟩
    · obtain rfl : k = m := by omega
      rw [HF.out] at HI
      have hpl : Hid ((pickL x set).length = k) := hid' (by rw [pickL_len, ← HM.out])
      have HO := Lib.hid (HI.out.oi (Nat.le_refl _) (by rw [hpl.out]; omega))
      rw [hpl.out] at HO
      clear HI
      go_wp2_with fail
      go_ret
      exact ⟨_, rfl, HO.out, HB.out⟩
theorem pick_pivots {O : FOps} {q : Int} {n : Nat} {A : List (List Int)} (hA : Rref O q n A (pivL O A n)) (x : List Int) : pickL x (pivots A) = crdL O A n x := by
  refine ext_getD (by rw [pickL_len, pivots_len]; simp [crdL]) fun k hk => ?_
  rw [pickL_len, pivots_len] at hk
  unfold pickL crdL
  rw [rowOf_getD (by rw [pivots_len]; exact hk), pivots_getD _ hk, Int.toNat_natCast, hA.fst hk]
  simp [List.getD, hk]
theorem pivots_rng {O : FOps} {q : Int} {n : Nat} {A : List (List Int)} (hA : Rref O q n A (pivL O A n)) : ∀ k, k < (pivots A).length → 0 ≤ (pivots A).getD k 0 ∧ (pivots A).getD k 0 < n := fun k hk => by
  rw [pivots_len] at hk
  rw [pivots_getD _ hk, hA.fst hk]
  have := hA.lt k hk
  omega

set_option maxHeartbeats 8000000 in
theorem rWord_any (w : World) (P M cols : Int) (mv rv xv : Value) (Mod : List Int) (A : List (List Int)) (x : List Int) (hm : SI w mv Mod) (hv : SS w rv A) (hx : SI w xv x) :
    Calls Tryz.prog 41 #[.agg #[.int .i64 P, .int .i64 M, mv], .agg #[.int .i64 cols, rv], xv] w (RetI w (wordE P M Mod cols A x)) := by
  have HO := Lib.hid (fun (w' : World) (hb : Below w.heap.size w w') => rSCheck_any w' P M cols mv rv Mod A (hm.below hb (Nat.le_refl _)) (hv.below hb (Nat.le_refl _)))
  have HW := Lib.hid (fun (w' : World) (hb : Below w.heap.size w w') => rVector_any w' P M cols mv xv Mod x (hm.below hb (Nat.le_refl _)) (hx.below hb (Nat.le_refl _)))
  have HE1 : Hid (spaceE P M Mod cols A ≠ 0 → wordE P M Mod cols A x = spaceE P M Mod cols A) := hid' fun h => by unfold wordE; rw [if_pos h]
  have HE2 : Hid (spaceE P M Mod cols A = 0 → wordE P M Mod cols A x = vecE (orderF P M) x cols) := hid' fun h => by unfold wordE; rw [if_neg (by simp [h])]
  generalize wordE P M Mod cols A x = er at *
  generalize vecE (orderF P M) x cols = e2 at *
  generalize spaceE P M Mod cols A = e1 at *
  obtain ⟨RA, rc, rfl, _⟩ := hv
  clear hm hx
  generalize A.length = r at *
  have HF := Lib.hid (FMBox.mk' w P M mv cols (.slice RA r rc))
  go_enter Tryz.func41, Tryz.ntmps41
  go_upto_region 1 with fail
  generalize (w.alloc (.cells #[.int .i64 P, .int .i64 M, mv] 24)).alloc (.cells #[.int .i64 cols, .slice RA r rc] 27) = w1 at *
  have c0 := HF.out.fb.c0; have c1 := HF.out.fb.c1; have c2 := HF.out.fb.c2; have d0 := HF.out.d0; have d1 := HF.out.d1
  go_wp2_with fail
  refine (HO.out w1 HF.out.fb.bel).mono ?_
  rintro e w2 ⟨rfl, hb2⟩
  have HF2 := Lib.hid (HF.out.on hb2)
  clear hb2 c0 c1 c2 d0 d1
  by_cases he1 : e1 = 0
  case neg =>
    obtain rfl : e1 = er := (HE1.out he1).symm
    have hb1 : (e1 == 0) = false := by rw [beq_eq_false_iff_ne]; exact he1
    clear he1 HE1 HE2
    go_wp2_with fail
    go_ret
    exact ⟨rfl, HF2.out.fb.bel⟩
  subst he1
  obtain rfl := HE2.out rfl
  clear HE1 HE2
  have c0 := HF2.out.fb.c0; have c1 := HF2.out.fb.c1; have c2 := HF2.out.fb.c2; have d0 := HF2.out.d0
  go_wp2_with fail
  refine (HW.out w2 HF2.out.fb.bel).mono ?_
  rintro e w3 ⟨rfl, hb3⟩
  have HF3 := Lib.hid (HF2.out.on hb3)
  clear hb3 c0 c1 c2 d0
  go_wp2_with fail
  go_ret
  exact ⟨rfl, HF3.out.fb.bel⟩

set_option maxHeartbeats 8000000 in
theorem rHas_no (w : World) (P M cols : Int) (mv rv xv : Value) (Mod : List Int) (A : List (List Int)) (x : List Int) (hm : SI w mv Mod) (hv : SS w rv A) (hx : SI w xv x) (hE : wordE P M Mod cols A x ≠ 0) :
    Calls Tryz.prog 13 #[.agg #[.int .i64 P, .int .i64 M, mv], .agg #[.int .i64 cols, rv], xv] w (RetZE w (.bool false) (wordE P M Mod cols A x)) := by
  have HW := Lib.hid (fun (w' : World) (hb : Below w.heap.size w w') => rWord_any w' P M cols mv rv xv Mod A x (hm.below hb (Nat.le_refl _)) (hv.below hb (Nat.le_refl _)) (hx.below hb (Nat.le_refl _)))
  generalize wordE P M Mod cols A x = er at *
  have hb : (er != 0) = true := by rw [bne_iff_ne]; exact hE
  obtain ⟨RA, rc, rfl, _⟩ := hv
  clear hm hx hE
  generalize A.length = r at *
  have HF := Lib.hid (FMBox.mk' w P M mv cols (.slice RA r rc))
  go_enter Tryz.func13, Tryz.ntmps13
  go_upto_region 1 with fail
  generalize (w.alloc (.cells #[.int .i64 P, .int .i64 M, mv] 24)).alloc (.cells #[.int .i64 cols, .slice RA r rc] 27) = w1 at *
  have c0 := HF.out.fb.c0; have c1 := HF.out.fb.c1; have c2 := HF.out.fb.c2; have d0 := HF.out.d0; have d1 := HF.out.d1
  go_wp2_with fail
  refine (HW.out w1 HF.out.fb.bel).mono ?_
  rintro e w2 ⟨rfl, hb2⟩
  have HF2 := Lib.hid (HF.out.on hb2)
  clear hb2 c0 c1 c2 d0 d1
  go_wp2_with fail
  go_ret2
  exact ⟨rfl, HF2.out.fb.bel⟩

set_option maxHeartbeats 8000000 in
theorem rReduce_no (w : World) (P M cols : Int) (mv rv xv : Value) (Mod : List Int) (A : List (List Int)) (x : List Int) (hm : SI w mv Mod) (hv : SS w rv A) (hx : SI w xv x) (hE : wordE P M Mod cols A x ≠ 0) :
    Calls Tryz.prog 15 #[.agg #[.int .i64 P, .int .i64 M, mv], .agg #[.int .i64 cols, rv], xv] w (RetZE w (.slice none 0 0) (wordE P M Mod cols A x)) := by
  have HW := Lib.hid (fun (w' : World) (hb : Below w.heap.size w w') => rWord_any w' P M cols mv rv xv Mod A x (hm.below hb (Nat.le_refl _)) (hv.below hb (Nat.le_refl _)) (hx.below hb (Nat.le_refl _)))
  generalize wordE P M Mod cols A x = er at *
  have hb : (er != 0) = true := by rw [bne_iff_ne]; exact hE
  obtain ⟨RA, rc, rfl, _⟩ := hv
  clear hm hx hE
  generalize A.length = r at *
  have HF := Lib.hid (FMBox.mk' w P M mv cols (.slice RA r rc))
  go_enter Tryz.func15, Tryz.ntmps15
  go_upto_region 1 with fail
  generalize (w.alloc (.cells #[.int .i64 P, .int .i64 M, mv] 24)).alloc (.cells #[.int .i64 cols, .slice RA r rc] 27) = w1 at *
  have c0 := HF.out.fb.c0; have c1 := HF.out.fb.c1; have c2 := HF.out.fb.c2; have d0 := HF.out.d0; have d1 := HF.out.d1
  go_wp2_with fail
  refine (HW.out w1 HF.out.fb.bel).mono ?_
  rintro e w2 ⟨rfl, hb2⟩
  have HF2 := Lib.hid (HF.out.on hb2)
  clear hb2 c0 c1 c2 d0 d1
  go_wp2_with fail
  go_ret2
  exact ⟨rfl, HF2.out.fb.bel⟩

set_option maxHeartbeats 8000000 in
theorem rCoord_no (w : World) (P M cols : Int) (mv rv xv : Value) (Mod : List Int) (A : List (List Int)) (x : List Int) (hm : SI w mv Mod) (hv : SS w rv A) (hx : SI w xv x) (hE : wordE P M Mod cols A x ≠ 0) :
    Calls Tryz.prog 18 #[.agg #[.int .i64 P, .int .i64 M, mv], .agg #[.int .i64 cols, rv], xv] w (RetZE w (.slice none 0 0) (wordE P M Mod cols A x)) := by
  have HW := Lib.hid (fun (w' : World) (hb : Below w.heap.size w w') => rWord_any w' P M cols mv rv xv Mod A x (hm.below hb (Nat.le_refl _)) (hv.below hb (Nat.le_refl _)) (hx.below hb (Nat.le_refl _)))
  generalize wordE P M Mod cols A x = er at *
  have hb : (er != 0) = true := by rw [bne_iff_ne]; exact hE
  obtain ⟨RA, rc, rfl, _⟩ := hv
  clear hm hx hE
  generalize A.length = r at *
  have HF := Lib.hid (FMBox.mk' w P M mv cols (.slice RA r rc))
  go_enter Tryz.func18, Tryz.ntmps18
  go_upto_region 1 with fail
  generalize (w.alloc (.cells #[.int .i64 P, .int .i64 M, mv] 24)).alloc (.cells #[.int .i64 cols, .slice RA r rc] 27) = w1 at *
  have c0 := HF.out.fb.c0; have c1 := HF.out.fb.c1; have c2 := HF.out.fb.c2; have d0 := HF.out.d0; have d1 := HF.out.d1
  go_wp2_with fail
  refine (HW.out w1 HF.out.fb.bel).mono ?_
  rintro e w2 ⟨rfl, hb2⟩
  have HF2 := Lib.hid (HF.out.on hb2)
  clear hb2 c0 c1 c2 d0 d1
  go_wp2_with fail
  go_ret2
  exact ⟨rfl, HF2.out.fb.bel⟩

set_option maxHeartbeats 8000000 in
theorem rHas_ok (w : World) (P M : Int) (n : Nat) (mv rv xv : Value) (Mod : List Int) (A : List (List Int)) (x : List Int) (hm : SI w mv Mod) (hv : SS w rv A) (hx : SI w xv x) (hA : spaceE P M Mod n A = 0) (hxe : vecE (orderF P M) x n = 0) :
    Calls Tryz.prog 13 #[.agg #[.int .i64 P, .int .i64 M, mv], .agg #[.int .i64 (n : Int), rv], xv] w (RetZE w (.bool (inL (refOps P M Mod) A x)) 0) := by
  have hS := SpP.of hA
  have hob := orderF_bounds P M
  have hq0 : 0 < orderF P M := by have := hS.fld.1; omega
  have hvx := vecE_zero hxe hq0
  have HW := Lib.hid (fun (w' : World) (hb : Below w.heap.size w w') => rWord_any w' P M n mv rv xv Mod A x (hm.below hb (Nat.le_refl _)) (hv.below hb (Nat.le_refl _)) (hx.below hb (Nat.le_refl _)))
  rw [show wordE P M Mod n A x = 0 by unfold wordE; rw [if_neg (by simp [hA])]; exact hxe] at HW
  have HI := Lib.hid (fun (w' : World) (hb : Below w.heap.size w w') => rIn_sp w' P M n mv rv xv Mod x A hS (hm.below hb (Nat.le_refl _)) (hx.below hb (Nat.le_refl _)) (hv.below hb (Nat.le_refl _)) hvx.1 hvx.2)
  obtain ⟨RA, rc, rfl, _⟩ := hv
  clear hm hA hS hxe hvx hob hq0 hx
  generalize A.length = r at *
  have HF := Lib.hid (FMBox.mk' w P M mv n (.slice RA r rc))
  go_enter Tryz.func13, Tryz.ntmps13
  go_upto_region 1 with fail
  generalize (w.alloc (.cells #[.int .i64 P, .int .i64 M, mv] 24)).alloc (.cells #[.int .i64 (n : Int), .slice RA r rc] 27) = w1 at *
  have c0 := HF.out.fb.c0; have c1 := HF.out.fb.c1; have c2 := HF.out.fb.c2; have d0 := HF.out.d0; have d1 := HF.out.d1
  go_wp2_with fail
  refine (HW.out w1 HF.out.fb.bel).mono ?_
  rintro e w2 ⟨rfl, hb2⟩
  have HF2 := Lib.hid (HF.out.on hb2)
  clear hb2 c0 c1 c2 d0 d1
  have c0 := HF2.out.fb.c0; have c1 := HF2.out.fb.c1; have c2 := HF2.out.fb.c2; have d1 := HF2.out.d1
  go_wp2_with fail
  refine (HI.out w2 HF2.out.fb.bel).mono ?_
  rintro e w3 ⟨rfl, hb3⟩
  have HB3 := Lib.hid (bl_trans HF2.out.fb.bel hb3)
  clear hb3 c0 c1 c2 d1
  go_wp2_with fail
  go_ret2
  exact ⟨rfl, HB3.out⟩

set_option maxHeartbeats 8000000 in
theorem rReduce_ok (w : World) (P M : Int) (n : Nat) (mv rv xv : Value) (Mod : List Int) (A : List (List Int)) (x : List Int) (hm : SI w mv Mod) (hv : SS w rv A) (hx : SI w xv x) (hA : spaceE P M Mod n A = 0) (hxe : vecE (orderF P M) x n = 0) :
    Calls Tryz.prog 15 #[.agg #[.int .i64 P, .int .i64 M, mv], .agg #[.int .i64 (n : Int), rv], xv] w (RetIs w (restL (refOps P M Mod) A x)) := by
  have hS := SpP.of hA
  have hob := orderF_bounds P M
  have hq0 : 0 < orderF P M := by have := hS.fld.1; omega
  have hvx := vecE_zero hxe hq0
  have HW := Lib.hid (fun (w' : World) (hb : Below w.heap.size w w') => rWord_any w' P M n mv rv xv Mod A x (hm.below hb (Nat.le_refl _)) (hv.below hb (Nat.le_refl _)) (hx.below hb (Nat.le_refl _)))
  rw [show wordE P M Mod n A x = 0 by unfold wordE; rw [if_neg (by simp [hA])]; exact hxe] at HW
  have HI := Lib.hid (fun (w' : World) (hb : Below w.heap.size w w') => rRest_sp w' P M n mv rv xv Mod x A hS (hm.below hb (Nat.le_refl _)) (hx.below hb (Nat.le_refl _)) (hv.below hb (Nat.le_refl _)) hvx.1 hvx.2)
  obtain ⟨RA, rc, rfl, _⟩ := hv
  clear hm hA hS hxe hvx hob hq0 hx
  generalize A.length = r at *
  have HF := Lib.hid (FMBox.mk' w P M mv n (.slice RA r rc))
  go_enter Tryz.func15, Tryz.ntmps15
  go_upto_region 1 with fail
  generalize (w.alloc (.cells #[.int .i64 P, .int .i64 M, mv] 24)).alloc (.cells #[.int .i64 (n : Int), .slice RA r rc] 27) = w1 at *
  have c0 := HF.out.fb.c0; have c1 := HF.out.fb.c1; have c2 := HF.out.fb.c2; have d0 := HF.out.d0; have d1 := HF.out.d1
  go_wp2_with fail
  refine (HW.out w1 HF.out.fb.bel).mono ?_
  rintro e w2 ⟨rfl, hb2⟩
  have HF2 := Lib.hid (HF.out.on hb2)
  clear hb2 c0 c1 c2 d0 d1
  have c0 := HF2.out.fb.c0; have c1 := HF2.out.fb.c1; have c2 := HF2.out.fb.c2; have d1 := HF2.out.d1
  go_wp2_with fail
  refine (HI.out w2 HF2.out.fb.bel).mono ?_
  rintro e w3 ⟨u, rfl, hu, hb3⟩
  have HU := Lib.hid (hu.mono HF2.out.fb.bel.size)
  have HB3 := Lib.hid (bl_trans HF2.out.fb.bel hb3)
  clear hb3 hu c0 c1 c2 d1
  go_wp2_with fail
  go_ret2
  exact ⟨_, rfl, HU.out, HB3.out⟩

set_option maxHeartbeats 8000000 in
theorem rCoord_out (w : World) (P M : Int) (n : Nat) (mv rv xv : Value) (Mod : List Int) (A : List (List Int)) (x : List Int) (hm : SI w mv Mod) (hv : SS w rv A) (hx : SI w xv x) (hA : spaceE P M Mod n A = 0) (hxe : vecE (orderF P M) x n = 0) (hin : inL (refOps P M Mod) A x = false) :
    Calls Tryz.prog 18 #[.agg #[.int .i64 P, .int .i64 M, mv], .agg #[.int .i64 (n : Int), rv], xv] w (RetZE w (.slice none 0 0) 11) := by
  have hS := SpP.of hA
  have hob := orderF_bounds P M
  have hq0 : 0 < orderF P M := by have := hS.fld.1; omega
  have hvx := vecE_zero hxe hq0
  have HW := Lib.hid (fun (w' : World) (hb : Below w.heap.size w w') => rWord_any w' P M n mv rv xv Mod A x (hm.below hb (Nat.le_refl _)) (hv.below hb (Nat.le_refl _)) (hx.below hb (Nat.le_refl _)))
  rw [show wordE P M Mod n A x = 0 by unfold wordE; rw [if_neg (by simp [hA])]; exact hxe] at HW
  have HI := Lib.hid (fun (w' : World) (hb : Below w.heap.size w w') => rIn_sp w' P M n mv rv xv Mod x A hS (hm.below hb (Nat.le_refl _)) (hx.below hb (Nat.le_refl _)) (hv.below hb (Nat.le_refl _)) hvx.1 hvx.2)
  rw [hin] at HI
  obtain ⟨RA, rc, rfl, _⟩ := hv
  clear hm hA hS hxe hvx hob hq0 hx hin
  generalize A.length = r at *
  have HF := Lib.hid (FMBox.mk' w P M mv n (.slice RA r rc))
  go_enter Tryz.func18, Tryz.ntmps18
  go_upto_region 1 with fail
  generalize (w.alloc (.cells #[.int .i64 P, .int .i64 M, mv] 24)).alloc (.cells #[.int .i64 (n : Int), .slice RA r rc] 27) = w1 at *
  have c0 := HF.out.fb.c0; have c1 := HF.out.fb.c1; have c2 := HF.out.fb.c2; have d0 := HF.out.d0; have d1 := HF.out.d1
  go_wp2_with fail
  refine (HW.out w1 HF.out.fb.bel).mono ?_
  rintro e w2 ⟨rfl, hb2⟩
  have HF2 := Lib.hid (HF.out.on hb2)
  clear hb2 c0 c1 c2 d0 d1
  have c0 := HF2.out.fb.c0; have c1 := HF2.out.fb.c1; have c2 := HF2.out.fb.c2; have d1 := HF2.out.d1
  go_wp2_with fail
  refine (HI.out w2 HF2.out.fb.bel).mono ?_
  rintro e w3 ⟨rfl, hb3⟩
  have HB3 := Lib.hid (bl_trans HF2.out.fb.bel hb3)
  clear hb3 c0 c1 c2 d1
  go_wp2_with fail
  go_ret2
  exact ⟨rfl, HB3.out⟩

set_option maxHeartbeats 8000000 in
theorem rCoord_ok (w : World) (P M : Int) (n : Nat) (mv rv xv : Value) (Mod : List Int) (A : List (List Int)) (x : List Int) (hm : SI w mv Mod) (hv : SS w rv A) (hx : SI w xv x) (hA : spaceE P M Mod n A = 0) (hxe : vecE (orderF P M) x n = 0) (hin : inL (refOps P M Mod) A x = true) :
    Calls Tryz.prog 18 #[.agg #[.int .i64 P, .int .i64 M, mv], .agg #[.int .i64 (n : Int), rv], xv] w (RetIs w (crdL (refOps P M Mod) A n x)) := by
  have hS := SpP.of hA
  have hob := orderF_bounds P M
  have hq0 : 0 < orderF P M := by have := hS.fld.1; omega
  have hvx := vecE_zero hxe hq0
  have HW := Lib.hid (fun (w' : World) (hb : Below w.heap.size w w') => rWord_any w' P M n mv rv xv Mod A x (hm.below hb (Nat.le_refl _)) (hv.below hb (Nat.le_refl _)) (hx.below hb (Nat.le_refl _)))
  rw [show wordE P M Mod n A x = 0 by unfold wordE; rw [if_neg (by simp [hA])]; exact hxe] at HW
  have HI := Lib.hid (fun (w' : World) (hb : Below w.heap.size w w') => rIn_sp w' P M n mv rv xv Mod x A hS (hm.below hb (Nat.le_refl _)) (hx.below hb (Nat.le_refl _)) (hv.below hb (Nat.le_refl _)) hvx.1 hvx.2)
  rw [hin] at HI
  have HPV := Lib.hid (fun (w' : World) (hb : Below w.heap.size w w') => rPivots_any w' rv A (hv.below hb (Nat.le_refl _)))
  have hpr := pivots_rng hS.rref
  have hn := hS.n256
  have hr2 := hS.r256
  have hpl := pivots_len A
  have HPI : Hid (∀ k, I64 ((pivots A).getD k 0)) := hid' (fun k => by
    by_cases hk : k < (pivots A).length
    · have := hpr k hk; exact I64.of_small (by omega) (by omega)
    · rw [getD_len (by omega)]; exact I64.zero)
  have HPK := Lib.hid (fun (w' : World) (u : Value) (hb : Below w.heap.size w w') (hu : SI w' u (pivots A)) => rPick_any w' xv u x (pivots A) (hx.below hb (Nat.le_refl _)) hu (fun k hk => by have := hpr k hk; omega) (by omega))
  rw [pick_pivots hS.rref] at HPK
  have HPL : Hid ((pivots A).length ≤ 256) := by show _ ≤ _; omega
  obtain ⟨RA, rc, rfl, _⟩ := hv
  clear hm hA hS hxe hvx hob hq0 hx hin hpr hn hr2 hpl
  generalize A.length = r at *
  have HF := Lib.hid (FMBox.mk' w P M mv n (.slice RA r rc))
  go_enter Tryz.func18, Tryz.ntmps18
  go_upto_region 1 with fail
  generalize (w.alloc (.cells #[.int .i64 P, .int .i64 M, mv] 24)).alloc (.cells #[.int .i64 (n : Int), .slice RA r rc] 27) = w1 at *
  have c0 := HF.out.fb.c0; have c1 := HF.out.fb.c1; have c2 := HF.out.fb.c2; have d0 := HF.out.d0; have d1 := HF.out.d1
  go_wp2_with fail
  refine (HW.out w1 HF.out.fb.bel).mono ?_
  rintro e w2 ⟨rfl, hb2⟩
  have HF2 := Lib.hid (HF.out.on hb2)
  clear hb2 c0 c1 c2 d0 d1
  have c0 := HF2.out.fb.c0; have c1 := HF2.out.fb.c1; have c2 := HF2.out.fb.c2; have d1 := HF2.out.d1
  go_wp2_with fail
  refine (HI.out w2 HF2.out.fb.bel).mono ?_
  rintro e w3 ⟨rfl, hb3⟩
  have HF3 := Lib.hid (HF2.out.on hb3)
  clear hb3 c0 c1 c2 d1
  have d1 := HF3.out.d1
  go_wp2_with fail
  refine (HPV.out w3 HF3.out.fb.bel).mono ?_
  rintro e w4 ⟨u, rfl, hu, hb4⟩
  have HU := Lib.hid (hu.si (by have := HPL.out; omega) HPI.out)
  have HF4 := Lib.hid (HF3.out.on hb4)
  clear hu hb4 d1
  go_wp2_with fail
  refine (HPK.out w4 u HF4.out.fb.bel HU.out).mono ?_
  rintro e w5 ⟨u5, rfl, hu5, hb5⟩
  have HU5 := Lib.hid (hu5.mono HF4.out.fb.bel.size)
  have HB5 := Lib.hid (bl_trans HF4.out.fb.bel hb5)
  clear hu5 hb5
  go_wp2_with fail
  go_ret2
  exact ⟨_, rfl, HU5.out, HB5.out⟩
end Go.Proofs.YtmejijekcfhonaaGreat

/- space.Supported: the errors. -/
namespace Go.Proofs.YtmejijekcfhonaaGreat
open Go.RowKit
set_option linter.unusedVariables false
set_option maxRecDepth 100000

set_option maxHeartbeats 8000000 in
theorem sSupp_no1 (w : World) (P M cols : Int) (mv rv sv : Value) (Mod : List Int) (A : List (List Int)) (hm : SI w mv Mod) (hv : SS w rv A) (hA : spaceE P M Mod cols A ≠ 0) :
    Calls Tryz.prog 19 #[.agg #[.int .i64 P, .int .i64 M, mv], .agg #[.int .i64 cols, rv], sv] w (RetNo w (spaceE P M Mod cols A)) := by
  have HO := Lib.hid (fun (w' : World) (hb : Below w.heap.size w w') => sopen_no w' P M cols mv _ Mod A (hm.below hb (Nat.le_refl _)) (hv.below hb (Nat.le_refl _)) hA)
  obtain ⟨RA, rc, rfl, _⟩ := hv
  obtain ⟨er, her⟩ : ∃ er, er = spaceE P M Mod cols A := ⟨_, rfl⟩
  rw [← her] at HO hA ⊢
  have hb : (er != 0) = true := by rw [bne_iff_ne]; exact hA
  clear hm hA her
  generalize A.length = r at *
  obtain ⟨w1, e1, hq, hsz⟩ := FMQ.mk' w P M mv cols (.slice RA r rc)
  have HQ := Lib.hid hq; have HE1 := Lib.hid e1; clear hq e1
  go_enter Tryz.func19, Tryz.ntmps19
  go_upto_region 1 with fail
  rw [HE1.out]
  clear HE1
  have c0 := HQ.out.fm.fb.c0; have c1 := HQ.out.fm.fb.c1; have c2 := HQ.out.fm.fb.c2; have d0 := HQ.out.fm.d0; have d1 := HQ.out.fm.d1
  go_wp2_with fail
  refine (HO.out w1 HQ.out.fm.fb.bel).mono ?_
  rintro e w2 ⟨rfl, hb2⟩
  have HQ2 := Lib.hid ((HQ.out.on hb2).on (bl_alloc w2 (.cells #[.pointer none, .int .i64 0, .slice none 0 0, .slice none 0 0] 49)))
  clear hb2 c0 c1 c2 d0 d1
  go_upto_region 2 with fail
  generalize w2.alloc (.cells #[.pointer none, .int .i64 0, .slice none 0 0, .slice none 0 0] 49) = w3 at *
  obtain ⟨y0, y1, f0, f1⟩ := HQ2.out.q.two
  go_wp2_with fail
  obtain ⟨wz, hz, HL⟩ := lay2 (x := .int .i64 0) (y := .slice none 0 0) HQ2.out.q
  rw [hz]
  have q0 := HL.c0; have q1 := HL.c1
  refine bodyPost_ret (v := .tuple #[.agg #[.int .i64 0, .slice none 0 0], .int .i64 er]) (by simp [results, Tryz.results19, go_sem, q0, q1]) rfl ?_
  exact ⟨rfl, HL.below HQ2.out.fm.fb.bel HQ2.out.fm.fb.bel.size (by omega)⟩

/-- one position of a rising list -/
def RisA (set : List Int) (n : Nat) (k : Nat) : Prop := 0 ≤ set.getD k 0 ∧ set.getD k 0 < n ∧ (0 < k → set.getD (k - 1) 0 < set.getD k 0)
set_option maxHeartbeats 16000000 in
theorem sSupp_no2 (w : World) (P M : Int) (n : Nat) (mv rv sv : Value) (Mod set : List Int) (A : List (List Int)) (hm : SI w mv Mod) (hv : SS w rv A) (hs : SI w sv set) (hA : spaceE P M Mod n A = 0) (hset : ¬ RisP set n) :
    Calls Tryz.prog 19 #[.agg #[.int .i64 P, .int .i64 M, mv], .agg #[.int .i64 (n : Int), rv], sv] w (RetNo w 6) := by
  have HOP := Lib.hid (fun (w' : World) (hb : Below w.heap.size w w') => sopen_ok w' P M n mv _ Mod A (hm.below hb (Nat.le_refl _)) (hv.below hb (Nat.le_refl _)) hA)
  unfold RetVW at HOP
  have HS := Lib.hid hs; have HRP := Lib.hid hset
  obtain ⟨RA, rc, rfl, _⟩ := hv
  obtain ⟨SA, sc, rfl, _⟩ := hs
  clear hm hA hset
  generalize A.length = r at *
  obtain ⟨m, hmm⟩ : ∃ m, m = set.length := ⟨_, rfl⟩
  rw [← hmm] at HS ⊢
  have HMM := Lib.hid hmm; clear hmm
  have hml : m ≤ 17592186044416 := by rw [HMM.out]; exact HS.out.len'
  obtain ⟨w1, e1, hq, hsz⟩ := FMQ.mk' w P M mv n (.slice RA r rc)
  have HQ := Lib.hid hq; have HE1 := Lib.hid e1; clear hq e1
  go_enter Tryz.func19, Tryz.ntmps19
  go_upto_region 1 with fail
  rw [HE1.out]
  clear HE1
  have c0 := HQ.out.fm.fb.c0; have c1 := HQ.out.fm.fb.c1; have c2 := HQ.out.fm.fb.c2; have d0 := HQ.out.fm.d0; have d1 := HQ.out.fm.d1
  go_wp2_with fail
  refine (HOP.out w1 HQ.out.fm.fb.bel).mono ?_
  rintro e w2 ⟨a, PA, c, rfl, _, hb2⟩
  have hb3 := bl_alloc w2 (.cells #[.pointer (some ⟨a, 0, none⟩), .int .i64 (n : Int), .slice RA r rc, .slice PA r c] 49)
  have HQ3 := Lib.hid ((HQ.out.on hb2).on hb3)
  clear hb2 hb3 c0 c1 c2 d0 d1 HOP HQ
  go_upto_region 2 with fail
  generalize w2.alloc (.cells #[.pointer (some ⟨a, 0, none⟩), .int .i64 (n : Int), .slice RA r rc, .slice PA r c] 49) = w3 at *
  have d0 := HQ3.out.fm.d0
  go_wp2_with fail
  go_loop [32] (fun i => ∃ k : Nat, k ≤ m ∧ i = .int .i64 (k : Int) ∧ Hid (∀ j, j < k → RisA set n j)) (fun i => m - (intOf i).toNat)
  case atStart => exact ⟨0, Nat.zero_le _, rfl, hid' fun j hj => absurd hj (Nat.not_lt_zero _)⟩
  case round =>
    obtain ⟨k, hk, rfl, HK⟩ := hrel
    by_cases hkm : k < m
    · have HSW := HS.out.below HQ3.out.fm.fb.bel (Nat.le_refl _)
      obtain ⟨ad, x, rfl, hc, _, HX⟩ := HSW.elt (k := k) (by rw [← HMM.out]; exact hkm)
      obtain ⟨y0, y1, f0, f1⟩ := HQ3.out.q.two
      cases hxb : decide (x < 0)
      case true =>
        clear HSW
        go_wp2_with fail
        obtain ⟨wz, hz, HL⟩ := lay2 (x := .int .i64 0) (y := .slice none 0 0) HQ3.out.q
        rw [hz]
        have q0 := HL.c0; have q1 := HL.c1
        refine bodyPost_ret (v := .tuple #[.agg #[.int .i64 0, .slice none 0 0], .int .i64 6]) (by simp [results, Tryz.results19, go_sem, q0, q1]) rfl ?_
        exact ⟨rfl, HL.below HQ3.out.fm.fb.bel HQ3.out.fm.fb.bel.size (by omega)⟩
      cases hxc : decide ((n : Int) ≤ x)
      case true =>
        clear HSW
        go_wp2_with fail
        obtain ⟨wz, hz, HL⟩ := lay2 (x := .int .i64 0) (y := .slice none 0 0) HQ3.out.q
        rw [hz]
        have q0 := HL.c0; have q1 := HL.c1
        refine bodyPost_ret (v := .tuple #[.agg #[.int .i64 0, .slice none 0 0], .int .i64 6]) (by simp [results, Tryz.results19, go_sem, q0, q1]) rfl ?_
        exact ⟨rfl, HL.below HQ3.out.fm.fb.bel HQ3.out.fm.fb.bel.size (by omega)⟩
      have HX0 : Hid (0 ≤ x ∧ x < n) := hid' (by
        have h1 := of_decide_eq_false hxb
        have h2 := of_decide_eq_false hxc
        exact ⟨by omega, by omega⟩)
      by_cases hk0 : 0 < k
      · obtain ⟨ad', z, e9, hcz, _, HZ⟩ := HSW.elt (k := k - 1) (by rw [← HMM.out]; omega)
        have e10 := Option.some.inj e9
        subst e10
        have hkb : decide ((0 : Int) < (k : Int)) = true := by simp; omega
        have hpm : k - 1 < m := by omega
        clear HSW e9
        cases hzb : decide (x ≤ z)
        case true =>
          go_wp2_with fail
          obtain ⟨wz, hz, HL⟩ := lay2 (x := .int .i64 0) (y := .slice none 0 0) HQ3.out.q
          rw [hz]
          have q0 := HL.c0; have q1 := HL.c1
          refine bodyPost_ret (v := .tuple #[.agg #[.int .i64 0, .slice none 0 0], .int .i64 6]) (by simp [results, Tryz.results19, go_sem, q0, q1]) rfl ?_
          exact ⟨rfl, HL.below HQ3.out.fm.fb.bel HQ3.out.fm.fb.bel.size (by omega)⟩
        have HZB := Lib.hid (of_decide_eq_false hzb)
        clear y0 y1 f0 f1
        go_wp2_with fail
        go_round
        case rel => exact ⟨k + 1, by omega, by go_num, hid' fun j hj => by
          by_cases e : j = k
          · subst e
            refine ⟨by rw [HX.out]; exact HX0.out.1, by rw [HX.out]; exact HX0.out.2, fun _ => by rw [HX.out, HZ.out]; have := HZB.out; omega⟩
          · exact HK.out j (by omega)⟩
        case measure => simp [intOf]; omega
      · have hkb : decide ((0 : Int) < (k : Int)) = false := by simp; omega
        clear HSW y0 y1 f0 f1
        go_wp2_with fail
        go_round
        case rel => exact ⟨k + 1, by omega, by go_num, hid' fun j hj => by
          by_cases e : j = k
          · subst e
            refine ⟨by rw [HX.out]; exact HX0.out.1, by rw [HX.out]; exact HX0.out.2, fun h => absurd h hk0⟩
          · exact HK.out j (by omega)⟩
        case measure => simp [intOf]; omega
    · obtain rfl : m = k := by omega
      exact absurd (fun j hj => HK.out j (by rw [HMM.out]; exact hj)) HRP.out
end Go.Proofs.YtmejijekcfhonaaGreat

/- ref10.Rising, Others, Within, Supported. -/
namespace Go.Proofs.YtmejijekcfhonaaGreat
open Go.RowKit
set_option linter.unusedVariables false
set_option maxRecDepth 100000

/-- whether a list rises -/
def RetRis (w : World) (set : List Int) (n : Nat) (e : Ending) (w' : World) : Prop := ∃ b : Bool, e = .returned (.bool b) ∧ (b = true ↔ RisP set n) ∧ Below w.heap.size w w'
set_option maxHeartbeats 16000000 in
theorem rRising_any (w : World) (n : Nat) (sv : Value) (set : List Int) (hs : SI w sv set) :
    Calls Tryz.prog 52 #[sv, .int .i64 (n : Int)] w (RetRis w set n) := by
  have HS := Lib.hid hs
  obtain ⟨SA, sc, rfl, _⟩ := hs
  obtain ⟨m, hmm⟩ : ∃ m, m = set.length := ⟨_, rfl⟩
  rw [← hmm] at HS ⊢
  have HMM := Lib.hid hmm; clear hmm
  have hml : m ≤ 17592186044416 := by rw [HMM.out]; exact HS.out.len'
  have HNO : Hid (∀ k, k < m → ¬ RisA set n k → ((false = true) ↔ RisP set n)) := hid' fun k hk h => ⟨fun e => (by cases e), fun h2 => absurd (h2 k (by rw [← HMM.out]; exact hk)) h⟩
  go_enter Tryz.func52, Tryz.ntmps52
  go_wp2_with fail
  go_loopw [5] (fun i wr => ∃ k : Nat, k ≤ m ∧ i = .int .i64 (k : Int) ∧ Hid (∀ j, j < k → RisA set n j) ∧ Hid (Below w.heap.size w wr)) (fun i _ => m - (intOf i).toNat)
  case atStart => exact ⟨0, Nat.zero_le _, rfl, hid' fun j hj => absurd hj (Nat.not_lt_zero _), bl_refl _⟩
  case round =>
    obtain ⟨k, hk, rfl, HK, HB⟩ := hrel
    by_cases hkm : k < m
    · have HSW := HS.out.below HB.out (Nat.le_refl _)
      obtain ⟨ad, x, rfl, hc, _, HX⟩ := HSW.elt (k := k) (by rw [← HMM.out]; exact hkm)
      cases hxb : decide (x < 0)
      case true =>
        have HE := Lib.hid (HNO.out k hkm (fun h => by have h1 := h.1; rw [HX.out] at h1; have := of_decide_eq_true hxb; omega))
        clear HSW
        go_wp2_with fail
        go_quiet (fail)
        go_wp2_with fail
        go_ret
        exact ⟨_, rfl, HE.out, bl_trans HB.out (bl_drewN _ _)⟩
      cases hxc : decide ((n : Int) ≤ x)
      case true =>
        have HE := Lib.hid (HNO.out k hkm (fun h => by have h1 := h.2.1; rw [HX.out] at h1; have := of_decide_eq_true hxc; omega))
        clear HSW
        go_wp2_with fail
        go_quiet (fail)
        go_wp2_with fail
        go_ret
        exact ⟨_, rfl, HE.out, bl_trans HB.out (bl_drewN _ _)⟩
      have HX0 : Hid (0 ≤ x ∧ x < n) := hid' (by
        have h1 := of_decide_eq_false hxb
        have h2 := of_decide_eq_false hxc
        exact ⟨by omega, by omega⟩)
      by_cases hk0 : 0 < k
      · obtain ⟨ad', z, e9, hcz, _, HZ⟩ := HSW.elt (k := k - 1) (by rw [← HMM.out]; omega)
        have e10 := Option.some.inj e9
        subst e10
        have hkb : decide ((0 : Int) < (k : Int)) = true := by simp; omega
        have hpm : k - 1 < m := by omega
        clear HSW e9
        cases hzb : decide (x ≤ z)
        case true =>
          have HE := Lib.hid (HNO.out k hkm (fun h => by have h1 := h.2.2 hk0; rw [HX.out, HZ.out] at h1; have := of_decide_eq_true hzb; omega))
          go_wp2_with fail
          go_quiet (fail)
          go_wp2_with fail
          go_ret
          exact ⟨_, rfl, HE.out, bl_trans HB.out (bl_drewN _ _)⟩
        have HZB := Lib.hid (of_decide_eq_false hzb)
        go_wp2_with fail
        go_quiet (fail)
        go_wp2_with fail
        exact ⟨⟨k + 1, by omega, by push_cast; rfl, hid' (fun j hj => by
          by_cases e : j = k
          · subst e
            refine ⟨by rw [HX.out]; exact HX0.out.1, by rw [HX.out]; exact HX0.out.2, fun _ => by rw [HX.out, HZ.out]; have := HZB.out; omega⟩
          · exact HK.out j (by omega)), bl_trans HB.out (bl_drewN _ _)⟩, by simp only [intOf]; omega⟩
      · have hkb : decide ((0 : Int) < (k : Int)) = false := by simp; omega
        clear HSW
        go_wp2_with fail
        go_quiet (fail)
        go_wp2_with fail
        exact ⟨⟨k + 1, by omega, by push_cast; rfl, hid' (fun j hj => by
          by_cases e : j = k
          · subst e
            refine ⟨by rw [HX.out]; exact HX0.out.1, by rw [HX.out]; exact HX0.out.2, fun h => absurd h hk0⟩
          · exact HK.out j (by omega)), bl_trans HB.out (bl_drewN _ _)⟩, by simp only [intOf]; omega⟩
    · obtain rfl : m = k := by omega
      have HE : Hid (RisP set n) := hid' (fun j hj => HK.out j (by rw [HMM.out]; exact hj))
      go_wp2_with fail
      go_ret
      exact ⟨true, rfl, ⟨fun _ => HE.out, fun _ => rfl⟩, HB.out⟩

theorem any_takeD {f : Int → Bool} {l : List Int} {k : Nat} (h : k < l.length) : (l.take (k + 1)).any f = ((l.take k).any f || f (l.getD k 0)) := by
  rw [List.take_add_one, List.any_append]; simp [List.getD, h]
set_option maxHeartbeats 16000000 in
theorem rOthers_any (w : World) (n : Nat) (sv : Value) (set : List Int) (hs : SI w sv set) (hn : n ≤ 256) :
    Calls Tryz.prog 77 #[sv, .int .i64 (n : Int)] w (RetO w (othersL set n)) := by
  have HS := Lib.hid hs
  obtain ⟨SA, sc, rfl, _⟩ := hs
  obtain ⟨m, hmm⟩ : ∃ m, m = set.length := ⟨_, rfl⟩
  have HTA : Hid (∀ c : Int, ((set.take m).any fun x => x == c) = (set.any fun x => x == c)) := hid' fun c => by rw [hmm, List.take_length]
  have HTS : Hid (∀ (c : Int) j, j < m → ((set.take (j + 1)).any fun x => x == c) = (((set.take j).any fun x => x == c) || (set.getD j 0 == c))) := hid' fun c j hj => any_takeD (by omega)
  have HT0 : Hid (∀ c : Int, ((set.take 0).any fun x => x == c) = false) := hid' fun c => rfl
  rw [← hmm] at HS ⊢
  have HMM := Lib.hid hmm; clear hmm
  have hml : m ≤ 17592186044416 := by rw [HMM.out]; exact HS.out.len'
  have HOF : Hid (otTo set n = othersL set n) := otTo_full set n
  go_enter Tryz.func77, Tryz.ntmps77
  go_wp2_with fail
  go_loopw [5, 6] (fun u i wr => ∃ (k l : Nat) (OA : Option Addr) (oc : Nat), k ≤ n ∧ i = .int .i64 (k : Int) ∧ u = .slice OA l oc ∧ Hid ((otTo set k).length = l) ∧ Hid (OI w.heap.size wr (.slice OA l oc) (otTo set k)) ∧ Hid (Below w.heap.size w wr)) (fun _ i _ => n - (intOf i).toNat)
  case atStart => exact ⟨0, 0, none, 0, Nat.zero_le _, rfl, rfl, rfl, OI.nil _ _, bl_refl _⟩
  case round =>
    obtain ⟨k, l, OA, oc, hk, rfl, rfl, HOL, HO, HB⟩ := hrel
    by_cases hkn : k < n
    · have HSX := Lib.hid (HS.out.below HB.out (Nat.le_refl _))
      go_wp2_with fail
      go_loop [7, 8] (fun b i => ∃ j : Nat, j ≤ m ∧ i = .int .i64 (j : Int) ∧ b = .bool ((set.take j).any fun x => x == (k : Int))) (fun _ i => m - (intOf i).toNat)
      case atStart => exact ⟨0, Nat.zero_le _, rfl, by rw [HT0.out]⟩
      case round =>
        obtain ⟨j, hj, rfl, rfl⟩ := hrel
        by_cases hjm : j < m
        · obtain ⟨ad, y, rfl, hc, _, HY⟩ := HSX.out.elt (k := j) (by rw [← HMM.out]; exact hjm)
          have HTJ := Lib.hid (HTS.out k j hjm)
          rw [HY.out] at HTJ
          cases hb : ((set.take j).any fun x => x == (k : Int))
          · rw [hb] at HTJ
            cases hy : (y == (k : Int))
            · rw [hy] at HTJ
              have HH := Lib.hid hb
              clear hb
              go_wp2_with fail
              go_round
              case rel => exact ⟨j + 1, by omega, by go_num, by rw [HTJ.out]; rfl⟩
              case measure => simp [intOf]; omega
            · rw [hy] at HTJ
              have HH := Lib.hid hb
              clear hb
              go_wp2_with fail
              go_round
              case rel => exact ⟨j + 1, by omega, by go_num, by rw [HTJ.out]; rfl⟩
              case measure => simp [intOf]; omega
          · rw [hb] at HTJ
            have HH := Lib.hid hb
            clear hb
            go_wp2_with fail
            go_round
            case rel => exact ⟨j + 1, by omega, by go_num, by rw [HTJ.out]; rfl⟩
            case measure => simp [intOf]; omega
        · obtain rfl : m = j := by omega
          rw [HTA.out]
          cases hcn : (set.any fun x => x == (k : Int))
          · have HNX : Hid (otTo set (k + 1) = otTo set k ++ [(k : Int)]) := hid' (by show _ = _; rw [otTo, if_neg (by rw [hcn]; decide)])
            have hll := otTo_len set k
            have HPL : Hid ((otTo set k).length + [(k : Int)].length ≤ 17592186044416) := by show _ ≤ _; rw [List.length_singleton]; omega
            have HOI1 := Lib.hid (HO.out.alloc (.cells #[.int .i64 (k : Int)] 3))
            have HSC : Hid (SI (wr.alloc (.cells #[.int .i64 (k : Int)] 3)) (.slice (some ⟨wr.heap.size, 0, none⟩) 1 1) [(k : Int)]) := SI.lit wr [(k : Int)] (by simp) (fun j => by
              rcases j with _ | j
              · exact I64.of_small (by show _ ≤ (k : Int); omega) (by show (k : Int) ≤ _; omega)
              · exact I64.zero)
            have HUP : Hid (w.heap.size ≤ (wr.alloc (.cells #[.int .i64 (k : Int)] 3)).heap.size) := up_alloc HB.out.size _
            have HBA := Lib.hid (HB.out.alloc HB.out.size (.cells #[.int .i64 (k : Int)] 3))
            clear hcn hll
            go_wp2_with (at_builtin; go_must (refine wpList_catI rfl _ _ rfl w.heap.size _ (otTo set k) rfl HOI1.out _ [(k : Int)] rfl HSC.out HPL.out HUP.out ?_); (intro v6 w6 ho hg hv6); have HB6 := Lib.hid (HOI1.out.bgrown HBA.out HUP.out hg); rw [← HNX.out] at ho; obtain ⟨A6, c6, rfl⟩ := ho.form'; have HO6 := Lib.hid ho; clear ho hg hv6)
            exact ⟨⟨k + 1, _, A6, c6, by omega, by push_cast; rfl, rfl, rfl, HO6, HB6⟩, by simp only [intOf]; omega⟩
          · have HNX : Hid (otTo set (k + 1) = otTo set k) := hid' (by show _ = _; rw [otTo, if_pos hcn])
            clear hcn
            go_wp2_with fail
            exact ⟨⟨k + 1, l, OA, oc, by omega, by push_cast; rfl, rfl, by rw [HNX.out]; exact HOL, by rw [HNX.out]; exact HO, HB⟩, by simp only [intOf]; omega⟩
    · obtain rfl : k = n := by omega
      rw [HOF.out] at HO
      go_wp2_with fail
      go_ret
      exact ⟨_, rfl, HO.out, HB.out⟩

theorem unitsL_getD (n : Nat) (l : List Int) {k : Nat} (h : k < l.length) : (unitsL n l).getD k [] = unitL n (l.getD k 0).toNat := by simp [unitsL, List.getD, h]
theorem unitsL_len (n : Nat) (l : List Int) : (unitsL n l).length = l.length := by simp [unitsL]
theorem unitL_len (n p : Nat) : (unitL n p).length = n := by simp [unitL]
theorem unitL_i64 (n p : Nat) : ∀ k, I64 ((unitL n p).getD k 0) := fun k => by
  have : (unitL n p).getD k 0 = 0 ∨ (unitL n p).getD k 0 = 1 := by
    unfold unitL
    rw [List.getD_eq_getElem?_getD, List.getElem?_set]
    split
    · split <;> simp
    · rw [List.getElem?_replicate]; split <;> simp
  rcases this with h | h <;> rw [h]
  · exact I64.zero
  · exact I64.one
set_option maxHeartbeats 16000000 in
theorem rWithin_any (w : World) (P M : Int) (n : Nat) (mv rv sv : Value) (Mod set : List Int) (A : List (List Int)) (hS : SpP P M Mod n A) (hm : SI w mv Mod) (hv : SS w rv A) (hs : SI w sv set) :
    Calls Tryz.prog 53 #[.agg #[.int .i64 P, .int .i64 M, mv], rv, .int .i64 (n : Int), sv] w (RetNu w (withinL (refOps P M Mod) A n set)) := by
  have hO := hS.hO
  have hn := hS.n256; have hr2 := hS.r256
  have hNA := Cn.null hO hS.rref.rows
  have hNl := hNA.le
  have hol : (othersL set n).length ≤ n := by rw [← otTo_full]; exact otTo_len _ _
  have HN1 := Lib.hid (fun (w' : World) (hb : Below w.heap.size w w') => rNull_any w' P M n mv rv Mod A (hm.below hb (Nat.le_refl _)) (hv.below hb (Nat.le_refl _)) hO hS.fld.ord hS.fld.modp hS.rref.rows (by omega) (by omega))
  have HN2 := Lib.hid (fun (w' : World) (u : Value) (hb : Below w.heap.size w w') (h : SS w' u (nullL (refOps P M Mod) A n ++ unitsL n (othersL set n))) => rNull_any w' P M n mv u Mod _ (hm.below hb (Nat.le_refl _)) h hO hS.fld.ord hS.fld.modp (hNA.rows.app (unit_rows hO _)) (by omega) (by rw [List.length_append, unitsL_len]; omega))
  have HWE : Hid (nullL (refOps P M Mod) (nullL (refOps P M Mod) A n ++ unitsL n (othersL set n)) n = withinL (refOps P M Mod) A n set) := rfl
  rw [HWE.out] at HN2
  have HOT := Lib.hid (fun (w' : World) (hb : Below w.heap.size w w') => rOthers_any w' n sv set (hs.below hb (Nat.le_refl _)) hn)
  have HRG := Lib.hid (others_rng set n)
  clear hm hv hs hS hO hNA HWE
  generalize nullL (refOps P M Mod) A n = N at *
  generalize withinL (refOps P M Mod) A n set = WW at *
  generalize othersL set n = oth at *
  have HUN : Hid (∀ k, k < oth.length → N ++ (unitsL n oth).take (k + 1) = (N ++ (unitsL n oth).take k) ++ [unitL n (oth.getD k 0).toNat]) := hid' fun k hk => by rw [take_succD (by rw [unitsL_len]; exact hk), unitsL_getD _ _ hk, List.append_assoc]
  have HUF : Hid (N ++ (unitsL n oth).take oth.length = N ++ unitsL n oth) := hid' (by rw [List.take_of_length_le (by rw [unitsL_len]; exact Nat.le_refl _)])
  have HUL : Hid (∀ k, (N ++ (unitsL n oth).take k).length ≤ 512) := hid' fun k => by rw [List.length_append, List.length_take, unitsL_len]; omega
  have HU0 : Hid (N ++ (unitsL n oth).take 0 = N) := hid' (by simp)
  obtain ⟨m, hmm⟩ : ∃ m, m = oth.length := ⟨_, rfl⟩
  rw [← hmm] at hol HRG HUN HUF
  have HMM := Lib.hid hmm; clear hmm
  have HOI : Hid (∀ k, I64 (oth.getD k 0)) := hid' fun k => by
    by_cases hk : k < m
    · have := HRG.out k hk; exact I64.of_small (by omega) (by omega)
    · rw [getD_len (by rw [← HMM.out]; omega)]; exact I64.zero
  have HB0 := Lib.hid (FBox.mk' w P M mv)
  have hmk := fun (w : World) => run_mkI n (by omega) w
  go_enter Tryz.func53, Tryz.ntmps53
  go_wp2_with fail
  generalize hw0 : w.alloc (.cells #[.int .i64 P, .int .i64 M, mv] 24) = w0 at *
  clear hw0
  have c0 := HB0.out.c0; have c1 := HB0.out.c1; have c2 := HB0.out.c2
  go_wp2_with fail
  refine (HN1.out w0 HB0.out.bel).mono ?_
  rintro e w1 ⟨u1, rfl, hsp1, ho1, hb1⟩
  obtain ⟨A1, k1, rfl, _⟩ := hsp1.out
  have HO1 := Lib.hid ho1
  have HF1 := Lib.hid (HB0.out.on hb1)
  have hz1 := hb1.size
  have HBW1 := Lib.hid hb1
  clear hsp1 ho1 hb1 c0 c1 c2
  obtain ⟨ln, hln⟩ : ∃ ln, ln = N.length := ⟨_, rfl⟩
  rw [← hln] at HO1 ⊢
  have HLN := Lib.hid hln; clear hln
  go_wp2_with fail
  refine (HOT.out w1 HF1.out.bel).mono ?_
  rintro e w2 ⟨u2, rfl, ho2, hb2⟩
  obtain ⟨A2, c2, rfl⟩ := ho2.form'
  rw [← HMM.out] at ho2 ⊢
  have HD2 : Hid (∀ g, (Value.slice A1 ln k1).ownBlock = some g → ∀ g2, (Value.slice A2 m c2).ownBlock = some g2 → g ≠ g2) := hid' fun g hg g2 hg2 => by
    have h1 := HO1.out.lt hg
    have h2 := ho2.lt hg2
    omega
  have HS2 := Lib.hid (show SI w2 (.slice A2 m c2) oth from by have h := ho2.si (by rw [← HMM.out]; omega) HOI.out; exact h)
  have HO2 := Lib.hid (HO1.out.below hb2)
  have HBW2 := Lib.hid (bl_trans HBW1.out hb2)
  clear ho2 hb2
  go_wp2_with fail
  go_loopw [9, 11] (fun u i wr => ∃ (k l : Nat) (OA : Option Addr) (oc : Nat), k ≤ m ∧ i = .int .i64 (k : Int) ∧ u = .slice OA l oc ∧ Hid ((N ++ (unitsL n oth).take k).length = l) ∧ Hid (OS w0.heap.size (fun g => g < w0.heap.size) wr (.slice OA l oc) (N ++ (unitsL n oth).take k)) ∧ Hid (SI wr (.slice A2 m c2) oth) ∧ Hid (∀ g, (Value.slice OA l oc).ownBlock = some g → ∀ g2, (Value.slice A2 m c2).ownBlock = some g2 → g ≠ g2) ∧ Hid (Below w0.heap.size w0 wr)) (fun _ i _ => m - (intOf i).toNat)
  case atStart => exact ⟨0, ln, A1, k1, Nat.zero_le _, rfl, rfl, by show _ = _; rw [HU0.out, ← HLN.out], by rw [HU0.out]; exact HO2, HS2, HD2, HBW2⟩
  case round =>
    clear HO2 HS2 HD2 HBW2
    obtain ⟨k, l, OA, oc, hk, rfl, rfl, HL, HO, HS, HD, HB⟩ := hrel
    by_cases hkm : k < m
    · have HGL : Hid (∀ g2, (Value.slice A2 m c2).ownBlock = some g2 → g2 < wr.heap.size) := hid' fun g2 hg2 => HS.out.lt (by rw [← HMM.out]; omega) hg2
      obtain ⟨zd, z, rfl, hc, _, HZ⟩ := HS.out.elt (k := k) (by rw [← HMM.out]; exact hkm)
      obtain ⟨hz0, hz9⟩ := HRG.out k hkm
      rw [HZ.out] at hz0 hz9
      obtain ⟨pj, rfl⟩ : ∃ pj : Nat, z = (pj : Int) := ⟨z.toNat, by omega⟩
      have hpj : pj < n := by omega
      have HN3 := Lib.hid (HUN.out k hkm)
      rw [HZ.out, Int.toNat_natCast] at HN3
      have HX0 := Lib.hid (RI.made wr n)
      have hba := bl_alloc wr (.cells (madeCells #[.int .i64 0] n) 3)
      have hsz3 := World.size_alloc wr (.cells (madeCells #[.int .i64 0] n) 3)
      have HC3 := Lib.hid (cell_below hba hc)
      have HO3 := Lib.hid ((HO.out.names (Y := fun g => g < w0.heap.size ∨ g = wr.heap.size) (fun g h1 h2 => by omega)).below hba); have HS3 := Lib.hid (HS.out.below hba (Nat.le_refl _))
      have HB3 := Lib.hid (bl_trans HB.out hba)
      have hszB := HB.out.size
      have HOG : Hid (∀ g, (Value.slice OA l oc).ownBlock = some g → g < wr.heap.size) := hid' fun g hg => (HO.out.lt hg).2
      clear hz0 hz9 hba hc
      go_upto_region 7 with fail
      generalize wr.alloc (.cells (madeCells #[.int .i64 0] n) 3) = w3 at *
      generalize hgx : wr.heap.size = gx at *
      clear hgx
      have hx0 : w3.cell? ⟨gx, pj, none⟩ = some (.int .i64 0) := by
        rw [HX0.out.cell pj (by simp; exact hpj)]; simp [List.getD, List.getElem?_replicate, hpj]
      have hxf := HX0.out.frozen pj
      have hc := HC3.out
      have hgr := gr_set1 w3 gx pj (.int .i64 1)
      have HX4 : Hid (RI (w3.setCell ⟨gx, pj, none⟩ (.int .i64 1)) gx (unitL n pj)) := hid' (HX0.out.set pj 1)
      have HO4 := Lib.hid ((HO3.out.grown hgr (fun g e => by
        have e2 := Option.some.inj e
        subst e2
        exact ⟨fun h => by have := HOG.out _ h; omega, .inr rfl⟩)).names (Y := fun g => g < w0.heap.size) (fun g _ h => .inl h))
      have HS4 := Lib.hid (HS3.out.grown hgr (fun _ g hg e => by have := HGL.out g hg; have e2 := Option.some.inj e; omega))
      have HB4 := Lib.hid (HB3.out.setCell (p := ⟨gx, pj, none⟩) (by show w0.heap.size ≤ gx; omega) (.int .i64 1))
      have hs4 := hgr.size
      have HXS : Hid (SI (w3.setCell ⟨gx, pj, none⟩ (.int .i64 1)) (.slice (some ⟨gx, 0, none⟩) n n) (unitL n pj)) := hid' (by
        have h := HX4.out.si (by rw [unitL_len]; omega) (unitL_i64 n pj)
        rwa [unitL_len] at h)
      go_upto_region 8 with fail
      clear hx0 hxf hc hgr
      generalize w3.setCell ⟨gx, pj, none⟩ (.int .i64 1) = w4 at *
      have HBX := Lib.hid (box1 (w := w4) (u := .slice (some ⟨gx, 0, none⟩) n n) (t := 22))
      have hbb := bl_alloc w4 (.cells #[.slice (some ⟨gx, 0, none⟩) n n] 22)
      have HXA := Lib.hid (HXS.out.below hbb (Nat.le_refl _))
      have HOA := Lib.hid (HO4.out.below hbb); have HSA := Lib.hid (HS4.out.below hbb (Nat.le_refl _)); have HBA := Lib.hid (bl_trans HB4.out hbb)
      have HUP := Lib.hid (up_alloc (w := w4) (B := w0.heap.size) HB4.out.size (.cells #[.slice (some ⟨gx, 0, none⟩) n n] 22))
      have HSA2 := Lib.hid hbb.size
      clear hbb
      go_wp2_with (at_builtin; refine wpList_pushS rfl _ _ rfl w0.heap.size (fun g => g < w0.heap.size) _ (N ++ (unitsL n oth).take k) rfl HOA.out w4.heap.size 1 _ (unitL n pj) rfl HBX.out HXA.out (fun _ g hg => (by have hgg : gx = g := (by simpa [Value.ownBlock] using hg); exact ⟨fun e => (by have := HOG.out _ e; omega), (by show ¬ g < w0.heap.size; omega)⟩)) (by have := HUL.out k; omega) HUP.out ?_; (intro v5 w5 ho5 hg5 hv5); go_must (have HB5 := Lib.hid (HOA.out.bgrown HBA.out HUP.out hg5); have HS5 := Lib.hid (HSA.out.grown hg5 (fun _ g2 hg2 e => HD.out _ e _ hg2 rfl)); have HD5 : Hid (∀ g, v5.ownBlock = some g → ∀ g2, (Value.slice (some zd) m c2).ownBlock = some g2 → g ≠ g2) := (hid' fun g hg g2 hg2 => (by rcases hv5 with h | h; exact HD.out g (h.symm.trans hg) g2 hg2; (have h3 := Option.some.inj (h.symm.trans hg); have h4 := HGL.out g2 hg2; have h5 := HSA2.out; omega))); rw [← HN3.out] at ho5; obtain ⟨A5, c5, rfl⟩ := ho5.form; obtain ⟨l5, hl5⟩ : ∃ l5, l5 = (N ++ (unitsL n oth).take (k + 1)).length := ⟨_, rfl⟩; rw [← hl5] at ho5 HD5 ⊢; have HL5 := Lib.hid hl5.symm; have HO5 := Lib.hid ho5; clear ho5 hg5 hv5 hl5))
      exact ⟨⟨k + 1, l5, A5, c5, by omega, by push_cast; rfl, rfl, HL5, HO5, HS5, HD5, HB5⟩, by simp only [intOf]; omega⟩
    · obtain rfl : k = m := by omega
      rw [HUF.out] at HO
      have HFB := Lib.hid (HB0.out.on HB.out)
      have HSS := Lib.hid (HO.out.ss (by have := HUL.out k; rw [HUF.out] at this; omega))
      have hsz := HFB.out.bel.size
      have c0 := HFB.out.c0; have c1 := HFB.out.c1; have c2' := HFB.out.c2
      go_wp2_with fail
      refine (HN2.out wr _ HFB.out.bel HSS.out).mono ?_
      rintro e w5 ⟨u5, rfl, h5, ho5, hb5⟩
      have H5 := Lib.hid (h5.mono hsz)
      have HO5 := Lib.hid ((ho5.names (Y := fun g => g < w.heap.size) (fun g _ h => Nat.lt_of_lt_of_le h hsz)).mono hsz)
      have HB5 := Lib.hid (bl_trans HFB.out.bel hb5)
      clear h5 ho5 hb5 c0 c1 c2'
      go_wp2_with fail
      go_ret
      exact ⟨_, rfl, H5.out, HO5.out, HB5.out⟩

set_option maxHeartbeats 8000000 in
theorem rSupp_no1 (w : World) (P M cols : Int) (mv rv sv : Value) (Mod : List Int) (A : List (List Int)) (hm : SI w mv Mod) (hv : SS w rv A) (hA : spaceE P M Mod cols A ≠ 0) :
    Calls Tryz.prog 20 #[.agg #[.int .i64 P, .int .i64 M, mv], .agg #[.int .i64 cols, rv], sv] w (RetNo w (spaceE P M Mod cols A)) := by
  have HO := Lib.hid (fun (w' : World) (hb : Below w.heap.size w w') => rSCheck_any w' P M cols mv _ Mod A (hm.below hb (Nat.le_refl _)) (hv.below hb (Nat.le_refl _)))
  obtain ⟨RA, rc, rfl, _⟩ := hv
  generalize spaceE P M Mod cols A = er at *
  have hbe : (er != 0) = true := by rw [bne_iff_ne]; exact hA
  clear hm hA
  generalize A.length = r at *
  obtain ⟨w1, e1, hq, hsz⟩ := FMQ.mk' w P M mv cols (.slice RA r rc)
  have HQ := Lib.hid hq; have HE1 := Lib.hid e1; clear hq e1
  go_enter Tryz.func20, Tryz.ntmps20
  go_upto_region 1 with fail
  rw [HE1.out]
  clear HE1
  have c0 := HQ.out.fm.fb.c0; have c1 := HQ.out.fm.fb.c1; have c2 := HQ.out.fm.fb.c2; have d0 := HQ.out.fm.d0; have d1 := HQ.out.fm.d1
  go_wp2_with fail
  refine (HO.out w1 HQ.out.fm.fb.bel).mono ?_
  rintro e w2 ⟨rfl, hb2⟩
  have HQ2 := Lib.hid (HQ.out.on hb2)
  clear hb2 c0 c1 c2 d0 d1
  obtain ⟨y0, y1, f0, f1⟩ := HQ2.out.q.two
  go_wp2_with fail
  obtain ⟨wz, hz, HL⟩ := lay2 (x := .int .i64 0) (y := .slice none 0 0) HQ2.out.q
  rw [hz]
  have q0 := HL.c0; have q1 := HL.c1
  refine bodyPost_ret (v := .tuple #[.agg #[.int .i64 0, .slice none 0 0], .int .i64 er]) (by simp [results, Tryz.results20, go_sem, q0, q1]) rfl ?_
  exact ⟨rfl, HL.below HQ2.out.fm.fb.bel HQ2.out.fm.fb.bel.size (by omega)⟩

set_option maxHeartbeats 8000000 in
theorem rSupp_no2 (w : World) (P M : Int) (n : Nat) (mv rv sv : Value) (Mod set : List Int) (A : List (List Int)) (hm : SI w mv Mod) (hv : SS w rv A) (hs : SI w sv set) (hA : spaceE P M Mod n A = 0) (hset : ¬ RisP set n) :
    Calls Tryz.prog 20 #[.agg #[.int .i64 P, .int .i64 M, mv], .agg #[.int .i64 (n : Int), rv], sv] w (RetNo w 6) := by
  have HO := Lib.hid (fun (w' : World) (hb : Below w.heap.size w w') => rSCheck_any w' P M n mv _ Mod A (hm.below hb (Nat.le_refl _)) (hv.below hb (Nat.le_refl _)))
  have HRI := Lib.hid (fun (w' : World) (hb : Below w.heap.size w w') => rRising_any w' n sv set (hs.below hb (Nat.le_refl _)))
  rw [hA] at HO
  have HSET := Lib.hid hset
  obtain ⟨RA, rc, rfl, _⟩ := hv
  clear hm hA hs hset
  generalize A.length = r at *
  obtain ⟨w1, e1, hq, hsz⟩ := FMQ.mk' w P M mv n (.slice RA r rc)
  have HQ := Lib.hid hq; have HE1 := Lib.hid e1; clear hq e1
  go_enter Tryz.func20, Tryz.ntmps20
  go_upto_region 1 with fail
  rw [HE1.out]
  clear HE1
  have c0 := HQ.out.fm.fb.c0; have c1 := HQ.out.fm.fb.c1; have c2 := HQ.out.fm.fb.c2; have d0 := HQ.out.fm.d0; have d1 := HQ.out.fm.d1
  go_wp2_with fail
  refine (HO.out w1 HQ.out.fm.fb.bel).mono ?_
  rintro e w2 ⟨rfl, hb2⟩
  have HQ2 := Lib.hid (HQ.out.on hb2)
  clear hb2 c0 c1 c2 d0 d1
  have d0 := HQ2.out.fm.d0
  go_wp2_with fail
  refine (HRI.out w2 HQ2.out.fm.fb.bel).mono ?_
  rintro e w3 ⟨b, rfl, hbi, hb3⟩
  have hbf : b = false := by
    cases b
    · rfl
    · exact absurd (hbi.1 rfl) HSET.out
  subst hbf
  have HQ3 := Lib.hid (HQ2.out.on hb3)
  clear hb3 hbi d0
  obtain ⟨y0, y1, f0, f1⟩ := HQ3.out.q.two
  go_wp2_with fail
  obtain ⟨wz, hz, HL⟩ := lay2 (x := .int .i64 0) (y := .slice none 0 0) HQ3.out.q
  rw [hz]
  have q0 := HL.c0; have q1 := HL.c1
  refine bodyPost_ret (v := .tuple #[.agg #[.int .i64 0, .slice none 0 0], .int .i64 6]) (by simp [results, Tryz.results20, go_sem, q0, q1]) rfl ?_
  exact ⟨rfl, HL.below HQ3.out.fm.fb.bel HQ3.out.fm.fb.bel.size (by omega)⟩

set_option maxHeartbeats 8000000 in
theorem rSupp_ok (w : World) (P M : Int) (n : Nat) (mv rv sv : Value) (Mod set : List Int) (A : List (List Int)) (hm : SI w mv Mod) (hv : SS w rv A) (hs : SI w sv set) (hA : spaceE P M Mod n A = 0) (hset : RisP set n) :
    Calls Tryz.prog 20 #[.agg #[.int .i64 P, .int .i64 M, mv], .agg #[.int .i64 (n : Int), rv], sv] w (RetMx w n (withinL (refOps P M Mod) A n set)) := by
  have HO := Lib.hid (fun (w' : World) (hb : Below w.heap.size w w') => rSCheck_any w' P M n mv _ Mod A (hm.below hb (Nat.le_refl _)) (hv.below hb (Nat.le_refl _)))
  have HRI := Lib.hid (fun (w' : World) (hb : Below w.heap.size w w') => rRising_any w' n sv set (hs.below hb (Nat.le_refl _)))
  have hSP := SpP.of hA
  have HN := Lib.hid (fun (w' : World) (hb : Below w.heap.size w w') => rWithin_any w' P M n mv rv sv Mod set A hSP (hm.below hb (Nat.le_refl _)) (hv.below hb (Nat.le_refl _)) (hs.below hb (Nat.le_refl _)))
  rw [hA] at HO
  have HSET := Lib.hid hset
  obtain ⟨RA, rc, rfl, _⟩ := hv
  clear hm hA hs hset hSP
  generalize withinL (refOps P M Mod) A n set = MM at *
  generalize A.length = r at *
  obtain ⟨w1, e1, hq, hsz⟩ := FMQ.mk' w P M mv n (.slice RA r rc)
  have HQ := Lib.hid hq; have HE1 := Lib.hid e1; clear hq e1
  go_enter Tryz.func20, Tryz.ntmps20
  go_upto_region 1 with fail
  rw [HE1.out]
  clear HE1
  have c0 := HQ.out.fm.fb.c0; have c1 := HQ.out.fm.fb.c1; have c2 := HQ.out.fm.fb.c2; have d0 := HQ.out.fm.d0; have d1 := HQ.out.fm.d1
  go_wp2_with fail
  refine (HO.out w1 HQ.out.fm.fb.bel).mono ?_
  rintro e w2 ⟨rfl, hb2⟩
  have HQ2 := Lib.hid (HQ.out.on hb2)
  clear hb2 c0 c1 c2 d0 d1
  have d0 := HQ2.out.fm.d0
  go_wp2_with fail
  refine (HRI.out w2 HQ2.out.fm.fb.bel).mono ?_
  rintro e w3 ⟨b, rfl, hbi, hb3⟩
  have hbf : b = true := hbi.2 HSET.out
  subst hbf
  have HQ3 := Lib.hid (HQ2.out.on hb3)
  clear hb3 hbi d0
  obtain ⟨c0, c1, c2, d0, d1⟩ := show (fun w' => w'.cell? ⟨w.heap.size, 0, none⟩ = some (.int .i64 P) ∧ w'.cell? ⟨w.heap.size, 1, none⟩ = some (.int .i64 M) ∧ w'.cell? ⟨w.heap.size, 2, none⟩ = some mv ∧ w'.cell? ⟨w.heap.size + 1, 0, none⟩ = some (.int .i64 (n : Int)) ∧ w'.cell? ⟨w.heap.size + 1, 1, none⟩ = some (.slice RA r rc)) w3 from ⟨HQ3.out.fm.fb.c0, HQ3.out.fm.fb.c1, HQ3.out.fm.fb.c2, HQ3.out.fm.d0, HQ3.out.fm.d1⟩
  go_upto_region 6 with fail
  refine Kept.start (S := fun w' => w'.cell? ⟨w.heap.size, 0, none⟩ = some (.int .i64 P) ∧ w'.cell? ⟨w.heap.size, 1, none⟩ = some (.int .i64 M) ∧ w'.cell? ⟨w.heap.size, 2, none⟩ = some mv ∧ w'.cell? ⟨w.heap.size + 1, 0, none⟩ = some (.int .i64 (n : Int)) ∧ w'.cell? ⟨w.heap.size + 1, 1, none⟩ = some (.slice RA r rc)) (by kernel_rfl) (⟨c0, c1, c2, d0, d1⟩) (fun hHeld => ?_)
  change Kept _ _ _ _ 12 _ _ _
  refine Kept.take (i := 0) (v := ?_) rfl (by kernel_rfl) (by kernel_rfl) (by kernel_rfl) (fun _ _ _ h => h) (Or.inl ⟨by kernel_rfl, ?_⟩) hHeld ?_
  rotate_left
  · intro w' hSw; (try dsimp only at hSw); first | (go_simp; done) | (go_simp; with_reducible rfl)
  try simp only [List.getElem_toArray, List.getElem_cons_zero, List.getElem_cons_succ, Act.put, List.setIfInBounds_toArray, List.set_cons_zero, List.set_cons_succ]
  refine Kept.take (i := 1) (v := ?_) rfl (by kernel_rfl) (by kernel_rfl) (by kernel_rfl) (fun _ _ _ h => h) (Or.inl ⟨by kernel_rfl, ?_⟩) hHeld ?_
  rotate_left
  · intro w' hSw; (try dsimp only at hSw); first | (go_simp; done) | (go_simp; with_reducible rfl)
  try simp only [List.getElem_toArray, List.getElem_cons_zero, List.getElem_cons_succ, Act.put, List.setIfInBounds_toArray, List.set_cons_zero, List.set_cons_succ]
  refine Kept.take (i := 2) (v := ?_) rfl (by kernel_rfl) (by kernel_rfl) (by kernel_rfl) (fun _ _ _ h => h) (Or.inl ⟨by kernel_rfl, ?_⟩) hHeld ?_
  rotate_left
  · intro w' hSw; (try dsimp only at hSw); first | (go_simp; done) | (go_simp; with_reducible rfl)
  try simp only [List.getElem_toArray, List.getElem_cons_zero, List.getElem_cons_succ, Act.put, List.setIfInBounds_toArray, List.set_cons_zero, List.set_cons_succ]
  refine Kept.take (i := 3) (v := ?_) rfl (by kernel_rfl) (by kernel_rfl) (by kernel_rfl) (fun _ _ _ h => h) (Or.inl ⟨by kernel_rfl, ?_⟩) hHeld ?_
  rotate_left
  · intro w' hSw; (try dsimp only at hSw); first | (go_simp; done) | (go_simp; with_reducible rfl)
  try simp only [List.getElem_toArray, List.getElem_cons_zero, List.getElem_cons_succ, Act.put, List.setIfInBounds_toArray, List.set_cons_zero, List.set_cons_succ]
  refine Kept.take (i := 4) (v := ?_) rfl (by kernel_rfl) (by kernel_rfl) (by kernel_rfl) (fun _ _ _ h => h) (Or.inl ⟨by kernel_rfl, ?_⟩) hHeld ?_
  rotate_left
  · intro w' hSw; (try dsimp only at hSw); first | (go_simp; done) | (go_simp; with_reducible rfl)
  try simp only [List.getElem_toArray, List.getElem_cons_zero, List.getElem_cons_succ, Act.put, List.setIfInBounds_toArray, List.set_cons_zero, List.set_cons_succ]
  refine Kept.take (i := 5) (v := ?_) rfl (by kernel_rfl) (by kernel_rfl) (by kernel_rfl) (fun _ _ _ h => h) (Or.inl ⟨by kernel_rfl, ?_⟩) hHeld ?_
  rotate_left
  · intro w' hSw; (try dsimp only at hSw); first | (go_simp; done) | (go_simp; with_reducible rfl)
  try simp only [List.getElem_toArray, List.getElem_cons_zero, List.getElem_cons_succ, Act.put, List.setIfInBounds_toArray, List.set_cons_zero, List.set_cons_succ]
  refine Kept.take (i := 6) (v := ?_) rfl (by kernel_rfl) (by kernel_rfl) (by kernel_rfl) (fun _ _ _ h => h) (Or.inl ⟨by kernel_rfl, ?_⟩) hHeld ?_
  rotate_left
  · intro w' hSw; (try dsimp only at hSw); first | (go_simp; done) | (go_simp; with_reducible rfl)
  try simp only [List.getElem_toArray, List.getElem_cons_zero, List.getElem_cons_succ, Act.put, List.setIfInBounds_toArray, List.set_cons_zero, List.set_cons_succ]
  refine Kept.take (i := 7) (v := ?_) rfl (by kernel_rfl) (by kernel_rfl) (by kernel_rfl) (fun _ _ _ h => h) (Or.inl ⟨by kernel_rfl, ?_⟩) hHeld ?_
  rotate_left
  · intro w' hSw; (try dsimp only at hSw); first | (go_simp; done) | (go_simp; with_reducible rfl)
  try simp only [List.getElem_toArray, List.getElem_cons_zero, List.getElem_cons_succ, Act.put, List.setIfInBounds_toArray, List.set_cons_zero, List.set_cons_succ]
  refine Kept.only (i := 8) (by kernel_rfl) rfl (fun K hK => ?_)
  go_simp
  refine (HN.out _ (bl_trans HQ3.out.fm.fb.bel (bl_drew w3))).mono ?_; rintro e w8 ⟨u8, rfl, hx8, _, hb8⟩; obtain ⟨A8, k8, rfl, _⟩ := hx8.out; have HX8 : Hid (Sep w3.heap.size w8 fun w4 => SS w4 (.slice A8 MM.length k8) MM) := hid' hx8; have HB8 := Lib.hid (bl_trans (bl_drew w3) hb8); have HQ8 := Lib.hid (HQ3.out.on HB8.out); clear hx8 hb8; generalize MM.length = lm at *
  refine hK.out _ _ (⟨HQ8.out.fm.fb.c0, HQ8.out.fm.fb.c1, HQ8.out.fm.fb.c2, HQ8.out.fm.d0, HQ8.out.fm.d1⟩) (fun hHeld2 => ?_)
  clear hK K
  replace hHeld := hHeld2
  clear hHeld2
  try simp only [List.getElem_toArray, List.getElem_cons_zero, List.getElem_cons_succ, Act.put, List.setIfInBounds_toArray, List.set_cons_zero, List.set_cons_succ]
  refine Kept.take (i := 9) (v := ?_) rfl (by kernel_rfl) (by kernel_rfl) (by kernel_rfl) (fun _ _ _ h => h) (Or.inl ⟨by kernel_rfl, ?_⟩) hHeld ?_
  rotate_left
  · intro w' hSw; (try dsimp only at hSw); first | (go_simp; done) | (go_simp; with_reducible rfl)
  try simp only [List.getElem_toArray, List.getElem_cons_zero, List.getElem_cons_succ, Act.put, List.setIfInBounds_toArray, List.set_cons_zero, List.set_cons_succ]
  refine Kept.only (i := 10) (o := ?op1) (by kernel_rfl) ?ho1 (fun K hK => ?_)
  case ho1 => (conv => lhs; simp only [List.getElem?_toArray, List.getElem?_cons_succ, List.getElem?_cons_zero])
  obtain ⟨y0, y1, f0, f1⟩ := HQ8.out.q.two; go_simp; obtain ⟨w9, hz, HL⟩ := lay2 (x := .int .i64 (n : Int)) (y := .slice A8 lm k8) HQ8.out.q; rw [hz]; have HQ9 := Lib.hid (HQ8.out.s5 HL.gr); have q0 := HL.c0; have q1 := HL.c1; have hql := HQ3.out.q.lt; have HX9 := Lib.hid (HX8.out.grown HL.gr (by rintro b e; cases e; omega)); have hs8 := HB8.out.size; have HBZ := Lib.hid (HL.below HQ8.out.fm.fb.bel HQ8.out.fm.fb.bel.size (by omega)); clear hz y0 y1 f0 f1 HL
  refine hK.out _ _ (HQ9.out) (fun hHeld2 => ?_)
  clear hK K
  replace hHeld := hHeld2
  clear hHeld2
  try simp only [List.getElem_toArray, List.getElem_cons_zero, List.getElem_cons_succ, Act.put, List.setIfInBounds_toArray, List.set_cons_zero, List.set_cons_succ]
  refine Kept.only (i := 11) (by kernel_rfl) rfl (fun K hK => ?_)
  go_simp
  refine hK.out _ _ hHeld (fun hHeld2 => ?_)
  clear hK K
  clear hHeld2
  refine Kept.done (by kernel_rfl) ?_
  try simp only [List.getElem_toArray, List.getElem_cons_zero, List.getElem_cons_succ, Act.put, List.setIfInBounds_toArray, List.set_cons_zero, List.set_cons_succ]
  clear hHeld
  clear c0 c1 c2 d0 d1
  go_wp2_with fail
  refine bodyPost_ret (v := .tuple #[.agg #[.int .i64 (n : Int), .slice A8 lm k8], .int .i64 0]) (by simp [results, Tryz.results20, go_sem, q0, q1]) rfl ?_
  exact ⟨_, rfl, HX9.out.mono HQ3.out.fm.fb.bel.size, HBZ.out⟩
end Go.Proofs.YtmejijekcfhonaaGreat

/- Has, Reduce, Coordinates, Supported: the program's answer and the document's are the same, whatever is given. -/
namespace Go.Proofs.YtmejijekcfhonaaGreat
open Go.RowKit
set_option linter.unusedVariables false
set_option maxRecDepth 100000

/-- a list and an error -/
def RetLA (w : World) (xs : List Int) (er : Int) (e : Ending) (w' : World) : Prop := ∃ u, e = .returned (.tuple #[u, .int .i64 er]) ∧ Sep w.heap.size w' (fun w2 => SI w2 u xs) ∧ Below w.heap.size w w'
theorem RetZE.la {w : World} {er : Int} {e : Ending} {w' : World} (h : RetZE w (.slice none 0 0) er e w') : RetLA w [] er e w' := ⟨_, h.1, SI.nilSep _ _, h.2⟩
theorem RetIs.la {w : World} {xs : List Int} (hl : xs.length ≤ 17592186044416) (hw : ∀ k, I64 (xs.getD k 0)) {e : Ending} {w' : World} (h : RetIs w xs e w') : RetLA w xs 0 e w' := by
  obtain ⟨u, h1, h2, h3⟩ := h
  exact ⟨u, h1, h2.sep hl hw, h3⟩
theorem wordE_zero {P M : Int} {Mod : List Int} {cols : Int} {A : List (List Int)} {x : List Int} (h : wordE P M Mod cols A x = 0) : spaceE P M Mod cols A = 0 ∧ vecE (orderF P M) x cols = 0 := by
  unfold wordE at h
  split at h
  · rename_i h1; exact absurd h h1
  · rename_i h1; exact ⟨Decidable.not_not.1 h1, h⟩
theorem hass_both (w : World) (P M cols : Int) (mv rv xv : Value) (Mod : List Int) (A : List (List Int)) (x : List Int) (hm : SI w mv Mod) (hv : SS w rv A) (hx : SI w xv x) :
    ∃ b er, Hid (∀ w', Below w.heap.size w w' → Calls Tryz.prog 12 #[.agg #[.int .i64 P, .int .i64 M, mv], .agg #[.int .i64 cols, rv], xv] w' (RetZE w' (.bool b) er)) ∧
      Hid (∀ w', Below w.heap.size w w' → Calls Tryz.prog 13 #[.agg #[.int .i64 P, .int .i64 M, mv], .agg #[.int .i64 cols, rv], xv] w' (RetZE w' (.bool b) er)) := by
  by_cases he : wordE P M Mod cols A x = 0
  · obtain ⟨hA, hE⟩ := wordE_zero he
    obtain ⟨_, hc0, _⟩ := matE_zero (spaceE_zero hA).1
    obtain ⟨n, rfl⟩ : ∃ n : Nat, cols = (n : Int) := ⟨cols.toNat, by omega⟩
    exact ⟨inL (refOps P M Mod) A x, 0, hid' fun w' hb => sHas_ok w' P M n mv rv xv Mod A x (hm.below hb (Nat.le_refl _)) (hv.below hb (Nat.le_refl _)) (hx.below hb (Nat.le_refl _)) hA hE,
      hid' fun w' hb => rHas_ok w' P M n mv rv xv Mod A x (hm.below hb (Nat.le_refl _)) (hv.below hb (Nat.le_refl _)) (hx.below hb (Nat.le_refl _)) hA hE⟩
  · exact ⟨false, wordE P M Mod cols A x, hid' fun w' hb => sHas_no w' P M cols mv rv xv Mod A x (hm.below hb (Nat.le_refl _)) (hv.below hb (Nat.le_refl _)) (hx.below hb (Nat.le_refl _)) he,
      hid' fun w' hb => rHas_no w' P M cols mv rv xv Mod A x (hm.below hb (Nat.le_refl _)) (hv.below hb (Nat.le_refl _)) (hx.below hb (Nat.le_refl _)) he⟩
theorem reds_both (w : World) (P M cols : Int) (mv rv xv : Value) (Mod : List Int) (A : List (List Int)) (x : List Int) (hm : SI w mv Mod) (hv : SS w rv A) (hx : SI w xv x) :
    ∃ S er, Hid (∀ w', Below w.heap.size w w' → Calls Tryz.prog 14 #[.agg #[.int .i64 P, .int .i64 M, mv], .agg #[.int .i64 cols, rv], xv] w' (RetLA w' S er)) ∧
      Hid (∀ w', Below w.heap.size w w' → Calls Tryz.prog 15 #[.agg #[.int .i64 P, .int .i64 M, mv], .agg #[.int .i64 cols, rv], xv] w' (RetLA w' S er)) := by
  by_cases he : wordE P M Mod cols A x = 0
  · obtain ⟨hA, hE⟩ := wordE_zero he
    obtain ⟨_, hc0, _⟩ := matE_zero (spaceE_zero hA).1
    obtain ⟨n, rfl⟩ : ∃ n : Nat, cols = (n : Int) := ⟨cols.toNat, by omega⟩
    have hS := SpP.of hA
    have hob := orderF_bounds P M
    have hvx := vecE_zero hE (by have := hS.fld.1; omega)
    have hrl := rest_lt hS.hO hS.rref hvx.2 hvx.1
    have hn := hS.n256
    have h1 : (restL (refOps P M Mod) A x).length ≤ 17592186044416 := by rw [hrl.1]; omega
    have h2 : ∀ k, I64 ((restL (refOps P M Mod) A x).getD k 0) := fun k => by have := hrl.2 k; exact I64.of_small (by omega) (by omega)
    exact ⟨restL (refOps P M Mod) A x, 0, hid' fun w' hb => (sReduce_ok w' P M n mv rv xv Mod A x (hm.below hb (Nat.le_refl _)) (hv.below hb (Nat.le_refl _)) (hx.below hb (Nat.le_refl _)) hA hE).mono fun _ _ => RetIs.la h1 h2,
      hid' fun w' hb => (rReduce_ok w' P M n mv rv xv Mod A x (hm.below hb (Nat.le_refl _)) (hv.below hb (Nat.le_refl _)) (hx.below hb (Nat.le_refl _)) hA hE).mono fun _ _ => RetIs.la h1 h2⟩
  · exact ⟨[], wordE P M Mod cols A x, hid' fun w' hb => (sReduce_no w' P M cols mv rv xv Mod A x (hm.below hb (Nat.le_refl _)) (hv.below hb (Nat.le_refl _)) (hx.below hb (Nat.le_refl _)) he).mono fun _ _ => RetZE.la,
      hid' fun w' hb => (rReduce_no w' P M cols mv rv xv Mod A x (hm.below hb (Nat.le_refl _)) (hv.below hb (Nat.le_refl _)) (hx.below hb (Nat.le_refl _)) he).mono fun _ _ => RetZE.la⟩
theorem crds_both (w : World) (P M cols : Int) (mv rv xv : Value) (Mod : List Int) (A : List (List Int)) (x : List Int) (hm : SI w mv Mod) (hv : SS w rv A) (hx : SI w xv x) :
    ∃ S er, Hid (∀ w', Below w.heap.size w w' → Calls Tryz.prog 17 #[.agg #[.int .i64 P, .int .i64 M, mv], .agg #[.int .i64 cols, rv], xv] w' (RetLA w' S er)) ∧
      Hid (∀ w', Below w.heap.size w w' → Calls Tryz.prog 18 #[.agg #[.int .i64 P, .int .i64 M, mv], .agg #[.int .i64 cols, rv], xv] w' (RetLA w' S er)) := by
  by_cases he : wordE P M Mod cols A x = 0
  · obtain ⟨hA, hE⟩ := wordE_zero he
    obtain ⟨_, hc0, _⟩ := matE_zero (spaceE_zero hA).1
    obtain ⟨n, rfl⟩ : ∃ n : Nat, cols = (n : Int) := ⟨cols.toNat, by omega⟩
    cases hin : inL (refOps P M Mod) A x
    · exact ⟨[], 11, hid' fun w' hb => (sCoord_out w' P M n mv rv xv Mod A x (hm.below hb (Nat.le_refl _)) (hv.below hb (Nat.le_refl _)) (hx.below hb (Nat.le_refl _)) hA hE hin).mono fun _ _ => RetZE.la,
        hid' fun w' hb => (rCoord_out w' P M n mv rv xv Mod A x (hm.below hb (Nat.le_refl _)) (hv.below hb (Nat.le_refl _)) (hx.below hb (Nat.le_refl _)) hA hE hin).mono fun _ _ => RetZE.la⟩
    · have hS := SpP.of hA
      have hr2 := hS.r256
      have h1 : (crdL (refOps P M Mod) A n x).length ≤ 17592186044416 := by unfold crdL; rw [List.length_map, List.length_range]; omega
      have h2 : ∀ k, I64 ((crdL (refOps P M Mod) A n x).getD k 0) := fun k => by
        by_cases hk : k < A.length
        · have : (crdL (refOps P M Mod) A n x).getD k 0 = x.getD (pvt (pivL (refOps P M Mod) A n) k) 0 := by unfold crdL; simp [List.getD, hk]
          rw [this]
          exact hx.wfs _
        · rw [getD_len (by unfold crdL; rw [List.length_map, List.length_range]; omega)]; exact I64.zero
      exact ⟨crdL (refOps P M Mod) A n x, 0, hid' fun w' hb => (sCoord_ok w' P M n mv rv xv Mod A x (hm.below hb (Nat.le_refl _)) (hv.below hb (Nat.le_refl _)) (hx.below hb (Nat.le_refl _)) hA hE hin).mono fun _ _ => RetIs.la h1 h2,
        hid' fun w' hb => (rCoord_ok w' P M n mv rv xv Mod A x (hm.below hb (Nat.le_refl _)) (hv.below hb (Nat.le_refl _)) (hx.below hb (Nat.le_refl _)) hA hE hin).mono fun _ _ => RetIs.la h1 h2⟩
  · exact ⟨[], wordE P M Mod cols A x, hid' fun w' hb => (sCoord_no w' P M cols mv rv xv Mod A x (hm.below hb (Nat.le_refl _)) (hv.below hb (Nat.le_refl _)) (hx.below hb (Nat.le_refl _)) he).mono fun _ _ => RetZE.la,
      hid' fun w' hb => (rCoord_no w' P M cols mv rv xv Mod A x (hm.below hb (Nat.le_refl _)) (hv.below hb (Nat.le_refl _)) (hx.below hb (Nat.le_refl _)) he).mono fun _ _ => RetZE.la⟩
theorem supps_both (w : World) (P M cols : Int) (mv rv sv : Value) (Mod : List Int) (A : List (List Int)) (set : List Int) (hm : SI w mv Mod) (hv : SS w rv A) (hs : SI w sv set) :
    ∃ c S er, Hid (∀ w', Below w.heap.size w w' → Calls Tryz.prog 19 #[.agg #[.int .i64 P, .int .i64 M, mv], .agg #[.int .i64 cols, rv], sv] w' (RetMA w' c S er)) ∧
      Hid (∀ w', Below w.heap.size w w' → Calls Tryz.prog 20 #[.agg #[.int .i64 P, .int .i64 M, mv], .agg #[.int .i64 cols, rv], sv] w' (RetMA w' c S er)) := by
  by_cases hA : spaceE P M Mod cols A = 0
  · obtain ⟨_, hc0, _⟩ := matE_zero (spaceE_zero hA).1
    obtain ⟨n, rfl⟩ : ∃ n : Nat, cols = (n : Int) := ⟨cols.toNat, by omega⟩
    by_cases hset : RisP set n
    · have hS := SpP.of hA
      have he := supp_eq hS.hO hS.rref set
      exact ⟨n, withinL (refOps P M Mod) A n set, 0, hid' fun w' hb => (by
          have h := sSupp_ok w' P M n mv rv sv Mod set A (hm.below hb (Nat.le_refl _)) (hv.below hb (Nat.le_refl _)) (hs.below hb (Nat.le_refl _)) hA hset
          rw [he] at h
          exact h.mono fun _ _ => RetMx.ma),
        hid' fun w' hb => (rSupp_ok w' P M n mv rv sv Mod set A (hm.below hb (Nat.le_refl _)) (hv.below hb (Nat.le_refl _)) (hs.below hb (Nat.le_refl _)) hA hset).mono fun _ _ => RetMx.ma⟩
    · exact ⟨0, [], 6, hid' fun w' hb => (sSupp_no2 w' P M n mv rv sv Mod set A (hm.below hb (Nat.le_refl _)) (hv.below hb (Nat.le_refl _)) (hs.below hb (Nat.le_refl _)) hA hset).mono fun _ _ => RetNo.ma,
        hid' fun w' hb => (rSupp_no2 w' P M n mv rv sv Mod set A (hm.below hb (Nat.le_refl _)) (hv.below hb (Nat.le_refl _)) (hs.below hb (Nat.le_refl _)) hA hset).mono fun _ _ => RetNo.ma⟩
  · exact ⟨0, [], spaceE P M Mod cols A, hid' fun w' hb => (sSupp_no1 w' P M cols mv rv sv Mod A (hm.below hb (Nat.le_refl _)) (hv.below hb (Nat.le_refl _)) hA).mono fun _ _ => RetNo.ma,
      hid' fun w' hb => (rSupp_no1 w' P M cols mv rv sv Mod A (hm.below hb (Nat.le_refl _)) (hv.below hb (Nat.le_refl _)) hA).mono fun _ _ => RetNo.ma⟩
end Go.Proofs.YtmejijekcfhonaaGreat

/- The law SpaceWords returns true for every input. Printed by a program (gen_wrds.py). -/
namespace Go.Proofs.YtmejijekcfhonaaGreat
open Go.RowKit
set_option linter.unusedVariables false
set_option maxRecDepth 100000

theorem sameIT (w : World) (u v : Value) (S : List Int) (h1 : SI w u S) (h2 : SI w v S) : Calls Tryz.prog 16 #[u, v] w (RetB w true) := by
  have h := rSameInts_any w u v S S h1 h2
  rw [show decide (S = S) = true from decide_eq_true rfl] at h
  exact h
set_option maxHeartbeats 64000000 in
theorem lawWords (w : World) {fv v1 v2 : Value} (hf : ∃ P M mv Mod, fv = .agg #[.int .i64 P, .int .i64 M, mv] ∧ SI w mv Mod) (h1 : ∃ cols rv rows, v1 = .agg #[.int .i64 cols, rv] ∧ SS w rv rows) (h2 : ∃ xs, SI w v2 xs) :
    Calls Tryz.prog 4 #[fv, v1, v2] w (RetB w true) := by
  obtain ⟨P, M, mv, Mod, rfl, hm⟩ := hf
  obtain ⟨k1, rv1, R1, rfl, hv1⟩ := h1
  obtain ⟨x, hx⟩ := h2
  have HM := Lib.hid hm; have HV1 := Lib.hid hv1; have HX := Lib.hid hx; clear hm hv1 hx
  obtain ⟨XA, xc, rfl, _⟩ := HX.out
  obtain ⟨l, hl⟩ : ∃ l, l = x.length := ⟨_, rfl⟩
  rw [← hl] at HX ⊢
  clear hl
  obtain ⟨w1, e1, hq⟩ : ∃ w1, (w.alloc (.cells #[.int .i64 P, .int .i64 M, mv] 24)).alloc (.cells #[.int .i64 k1, rv1] 27) = w1 ∧ FMBox w w1 P M mv k1 rv1 := ⟨_, rfl, FMBox.mk' w P M mv k1 rv1⟩
  have HE1 := Lib.hid e1; clear e1
  have T0 := Lib.hid hq.fb.blk; have T1 := Lib.hid hq.mb; have HB := Lib.hid hq.fb.bel; clear hq
  obtain ⟨b1, f1, KH, KI⟩ := hass_both w P M k1 mv rv1 _ Mod R1 x HM.out HV1.out HX.out
  obtain ⟨S2, f2, KR, KS⟩ := reds_both w P M k1 mv rv1 _ Mod R1 x HM.out HV1.out HX.out
  obtain ⟨S3, f3, KC, KD⟩ := crds_both w P M k1 mv rv1 _ Mod R1 x HM.out HV1.out HX.out
  obtain ⟨a4, S4, f4, KU, KV⟩ := supps_both w P M k1 mv rv1 _ Mod R1 x HM.out HV1.out HX.out
  go_enter Tryz.func4, Tryz.ntmps4
  go_wp2_with fail
  rw [HE1.out]
  clear HE1
  go_wp2_with fail
  refine (awake_any _).mono ?_
  rintro e y1 ⟨rfl, hb1⟩
  replace T0 := Lib.hid (T0.out.belowS hb1)
  replace T1 := Lib.hid (T1.out.belowS hb1)
  replace HB := Lib.hid (bl_trans HB.out hb1)
  have cT10 : y1.cell? ⟨w.heap.size + 1, 0, none⟩ = some (.int .i64 k1) := T1.out.cell 0
  have cT11 : y1.cell? ⟨w.heap.size + 1, 1, none⟩ = some (rv1) := T1.out.cell 1
  go_wp2_with fail
  refine (few10_any _ k1 k1 rv1 rv1 R1 R1 (HV1.out.below HB.out (Nat.le_refl _)) (HV1.out.below HB.out (Nat.le_refl _))).mono ?_
  rintro e y2 ⟨rfl, hb2⟩
  clear cT10 cT11
  replace T0 := Lib.hid (T0.out.belowS hb2)
  replace T1 := Lib.hid (T1.out.belowS hb2)
  replace HB := Lib.hid (bl_trans HB.out hb2)
  cases hfw : few10 k1 R1 k1 R1
  · have HFW := Lib.hid hfw; clear hfw
    go_wp2_with fail
    refine (awake_any _).mono ?_
    rintro e y9 ⟨rfl, hb9⟩
    go_wp2_with fail
    go_ret
    exact ⟨rfl, bl_trans HB.out hb9⟩
  clear hfw
  cases b40 : decide ((40 : Int) < (l : Int))
  case true =>
    go_wp2_with fail
    refine (awake_any _).mono ?_
    rintro e y9 ⟨rfl, hb9⟩
    go_wp2_with fail
    go_ret
    exact ⟨rfl, bl_trans HB.out hb9⟩
  have hf1 : (f1 != f1) = false := by simp
  have hf2 : (f2 != f2) = false := by simp
  have hf3 : (f3 != f3) = false := by simp
  have hf4 : (f4 == f4) = true := by simp
  have hbb : (b1 != b1) = false := by simp
  have cT00 : y2.cell? ⟨w.heap.size, 0, none⟩ = some (.int .i64 P) := T0.out.cell 0
  have cT01 : y2.cell? ⟨w.heap.size, 1, none⟩ = some (.int .i64 M) := T0.out.cell 1
  have cT02 : y2.cell? ⟨w.heap.size, 2, none⟩ = some (mv) := T0.out.cell 2
  have cT10 : y2.cell? ⟨w.heap.size + 1, 0, none⟩ = some (.int .i64 k1) := T1.out.cell 0
  have cT11 : y2.cell? ⟨w.heap.size + 1, 1, none⟩ = some (rv1) := T1.out.cell 1
  go_wp2_with fail
  refine (KH.out _ HB.out).mono ?_
  rintro e y3 ⟨rfl, hb3⟩
  clear cT00 cT01 cT02 cT10 cT11
  replace T0 := Lib.hid (T0.out.belowS hb3)
  replace T1 := Lib.hid (T1.out.belowS hb3)
  replace HB := Lib.hid (bl_trans HB.out hb3)
  clear b40
  have cT00 : y3.cell? ⟨w.heap.size, 0, none⟩ = some (.int .i64 P) := T0.out.cell 0
  have cT01 : y3.cell? ⟨w.heap.size, 1, none⟩ = some (.int .i64 M) := T0.out.cell 1
  have cT02 : y3.cell? ⟨w.heap.size, 2, none⟩ = some (mv) := T0.out.cell 2
  have cT10 : y3.cell? ⟨w.heap.size + 1, 0, none⟩ = some (.int .i64 k1) := T1.out.cell 0
  have cT11 : y3.cell? ⟨w.heap.size + 1, 1, none⟩ = some (rv1) := T1.out.cell 1
  go_wp2_with fail
  refine (KI.out _ HB.out).mono ?_
  rintro e y4 ⟨rfl, hb4⟩
  clear cT00 cT01 cT02 cT10 cT11
  replace T0 := Lib.hid (T0.out.belowS hb4)
  replace T1 := Lib.hid (T1.out.belowS hb4)
  replace HB := Lib.hid (bl_trans HB.out hb4)
  have cT00 : y4.cell? ⟨w.heap.size, 0, none⟩ = some (.int .i64 P) := T0.out.cell 0
  have cT01 : y4.cell? ⟨w.heap.size, 1, none⟩ = some (.int .i64 M) := T0.out.cell 1
  have cT02 : y4.cell? ⟨w.heap.size, 2, none⟩ = some (mv) := T0.out.cell 2
  have cT10 : y4.cell? ⟨w.heap.size + 1, 0, none⟩ = some (.int .i64 k1) := T1.out.cell 0
  have cT11 : y4.cell? ⟨w.heap.size + 1, 1, none⟩ = some (rv1) := T1.out.cell 1
  go_wp2_with fail
  refine (KR.out _ HB.out).mono ?_
  rintro e y5 ⟨uA, rfl, hx, hb5⟩
  clear cT00 cT01 cT02 cT10 cT11
  replace T0 := Lib.hid (T0.out.belowS hb5)
  replace T1 := Lib.hid (T1.out.belowS hb5)
  replace HB := Lib.hid (bl_trans HB.out hb5)
  have XA := Lib.hid hx.out; clear hx
  have cT00 : y5.cell? ⟨w.heap.size, 0, none⟩ = some (.int .i64 P) := T0.out.cell 0
  have cT01 : y5.cell? ⟨w.heap.size, 1, none⟩ = some (.int .i64 M) := T0.out.cell 1
  have cT02 : y5.cell? ⟨w.heap.size, 2, none⟩ = some (mv) := T0.out.cell 2
  have cT10 : y5.cell? ⟨w.heap.size + 1, 0, none⟩ = some (.int .i64 k1) := T1.out.cell 0
  have cT11 : y5.cell? ⟨w.heap.size + 1, 1, none⟩ = some (rv1) := T1.out.cell 1
  go_wp2_with fail
  refine (KS.out _ HB.out).mono ?_
  rintro e y6 ⟨uB, rfl, hx, hb6⟩
  clear cT00 cT01 cT02 cT10 cT11
  replace T0 := Lib.hid (T0.out.belowS hb6)
  replace T1 := Lib.hid (T1.out.belowS hb6)
  replace XA := Lib.hid (XA.out.below hb6 (Nat.le_refl _))
  replace HB := Lib.hid (bl_trans HB.out hb6)
  have XB := Lib.hid hx.out; clear hx
  go_wp2_with fail
  refine (sameIT _ _ _ S2 XA.out XB.out).mono ?_
  rintro e y7 ⟨rfl, hb7⟩
  replace T0 := Lib.hid (T0.out.belowS hb7)
  replace T1 := Lib.hid (T1.out.belowS hb7)
  replace XA := Lib.hid (XA.out.below hb7 (Nat.le_refl _))
  replace XB := Lib.hid (XB.out.below hb7 (Nat.le_refl _))
  replace HB := Lib.hid (bl_trans HB.out hb7)
  clear XA XB
  have cT00 : y7.cell? ⟨w.heap.size, 0, none⟩ = some (.int .i64 P) := T0.out.cell 0
  have cT01 : y7.cell? ⟨w.heap.size, 1, none⟩ = some (.int .i64 M) := T0.out.cell 1
  have cT02 : y7.cell? ⟨w.heap.size, 2, none⟩ = some (mv) := T0.out.cell 2
  have cT10 : y7.cell? ⟨w.heap.size + 1, 0, none⟩ = some (.int .i64 k1) := T1.out.cell 0
  have cT11 : y7.cell? ⟨w.heap.size + 1, 1, none⟩ = some (rv1) := T1.out.cell 1
  go_wp2_with fail
  refine (KC.out _ HB.out).mono ?_
  rintro e y8 ⟨uC, rfl, hx, hb8⟩
  clear cT00 cT01 cT02 cT10 cT11
  replace T0 := Lib.hid (T0.out.belowS hb8)
  replace T1 := Lib.hid (T1.out.belowS hb8)
  replace HB := Lib.hid (bl_trans HB.out hb8)
  have XC := Lib.hid hx.out; clear hx
  have cT00 : y8.cell? ⟨w.heap.size, 0, none⟩ = some (.int .i64 P) := T0.out.cell 0
  have cT01 : y8.cell? ⟨w.heap.size, 1, none⟩ = some (.int .i64 M) := T0.out.cell 1
  have cT02 : y8.cell? ⟨w.heap.size, 2, none⟩ = some (mv) := T0.out.cell 2
  have cT10 : y8.cell? ⟨w.heap.size + 1, 0, none⟩ = some (.int .i64 k1) := T1.out.cell 0
  have cT11 : y8.cell? ⟨w.heap.size + 1, 1, none⟩ = some (rv1) := T1.out.cell 1
  go_wp2_with fail
  refine (KD.out _ HB.out).mono ?_
  rintro e y9 ⟨uD, rfl, hx, hb9⟩
  clear cT00 cT01 cT02 cT10 cT11
  replace T0 := Lib.hid (T0.out.belowS hb9)
  replace T1 := Lib.hid (T1.out.belowS hb9)
  replace XC := Lib.hid (XC.out.below hb9 (Nat.le_refl _))
  replace HB := Lib.hid (bl_trans HB.out hb9)
  have XD := Lib.hid hx.out; clear hx
  go_wp2_with fail
  refine (sameIT _ _ _ S3 XC.out XD.out).mono ?_
  rintro e y10 ⟨rfl, hb10⟩
  replace T0 := Lib.hid (T0.out.belowS hb10)
  replace T1 := Lib.hid (T1.out.belowS hb10)
  replace XC := Lib.hid (XC.out.below hb10 (Nat.le_refl _))
  replace XD := Lib.hid (XD.out.below hb10 (Nat.le_refl _))
  replace HB := Lib.hid (bl_trans HB.out hb10)
  clear XC XD
  have cT00 : y10.cell? ⟨w.heap.size, 0, none⟩ = some (.int .i64 P) := T0.out.cell 0
  have cT01 : y10.cell? ⟨w.heap.size, 1, none⟩ = some (.int .i64 M) := T0.out.cell 1
  have cT02 : y10.cell? ⟨w.heap.size, 2, none⟩ = some (mv) := T0.out.cell 2
  have cT10 : y10.cell? ⟨w.heap.size + 1, 0, none⟩ = some (.int .i64 k1) := T1.out.cell 0
  have cT11 : y10.cell? ⟨w.heap.size + 1, 1, none⟩ = some (rv1) := T1.out.cell 1
  go_wp2_with fail
  refine (KU.out _ HB.out).mono ?_
  rintro e y11 ⟨u, rfl, hx, hb11⟩
  clear cT00 cT01 cT02 cT10 cT11
  replace T0 := Lib.hid (T0.out.belowS hb11)
  replace T1 := Lib.hid (T1.out.belowS hb11)
  replace HB := Lib.hid (bl_trans HB.out hb11)
  obtain ⟨UX, cX, rfl, _⟩ := hx.out
  have XX := Lib.hid hx.out; clear hx
  change Hid (SS _ (.slice UX S4.length cX) S4) at XX
  have hltX := T1.out.lt
  go_upto_region 16 with fail
  obtain ⟨z11, gX, e1, e2, hbx, hbz⟩ := mk_box y11 27 [.int .i64 a4, .slice UX S4.length cX]
  rw [e1, e2]
  have hgX : w.heap.size + 1 < gX := by omega
  clear e1 hltX
  replace T0 := Lib.hid (T0.out.belowS hbz)
  replace T1 := Lib.hid (T1.out.belowS hbz)
  replace XX := Lib.hid (XX.out.below hbz (Nat.le_refl _))
  replace HB := Lib.hid (bl_trans HB.out hbz)
  have TX := Lib.hid hbx; clear hbx hbz e2
  have cT00 : z11.cell? ⟨w.heap.size, 0, none⟩ = some (.int .i64 P) := T0.out.cell 0
  have cT01 : z11.cell? ⟨w.heap.size, 1, none⟩ = some (.int .i64 M) := T0.out.cell 1
  have cT02 : z11.cell? ⟨w.heap.size, 2, none⟩ = some (mv) := T0.out.cell 2
  have cT10 : z11.cell? ⟨w.heap.size + 1, 0, none⟩ = some (.int .i64 k1) := T1.out.cell 0
  have cT11 : z11.cell? ⟨w.heap.size + 1, 1, none⟩ = some (rv1) := T1.out.cell 1
  go_wp2_with fail
  refine (KV.out _ HB.out).mono ?_
  rintro e y12 ⟨u, rfl, hx, hb12⟩
  clear cT00 cT01 cT02 cT10 cT11
  replace T0 := Lib.hid (T0.out.belowS hb12)
  replace T1 := Lib.hid (T1.out.belowS hb12)
  replace TX := Lib.hid (TX.out.belowS hb12)
  replace XX := Lib.hid (XX.out.below hb12 (Nat.le_refl _))
  replace HB := Lib.hid (bl_trans HB.out hb12)
  obtain ⟨UY, cY, rfl, _⟩ := hx.out
  have XY := Lib.hid hx.out; clear hx
  change Hid (SS _ (.slice UY S4.length cY) S4) at XY
  have hltY := TX.out.lt
  go_upto_region 17 with fail
  obtain ⟨z12, gY, e1, e2, hbx, hbz⟩ := mk_box y12 27 [.int .i64 a4, .slice UY S4.length cY]
  rw [e1, e2]
  have hgY : gX < gY := by omega
  clear e1 hltY
  replace T0 := Lib.hid (T0.out.belowS hbz)
  replace T1 := Lib.hid (T1.out.belowS hbz)
  replace TX := Lib.hid (TX.out.belowS hbz)
  replace XX := Lib.hid (XX.out.below hbz (Nat.le_refl _))
  replace XY := Lib.hid (XY.out.below hbz (Nat.le_refl _))
  replace HB := Lib.hid (bl_trans HB.out hbz)
  have TY := Lib.hid hbx; clear hbx hbz e2
  have cTX0 : z12.cell? ⟨gX, 0, none⟩ = some (.int .i64 a4) := TX.out.cell 0
  have cTX1 : z12.cell? ⟨gX, 1, none⟩ = some (.slice UX S4.length cX) := TX.out.cell 1
  have cTY0 : z12.cell? ⟨gY, 0, none⟩ = some (.int .i64 a4) := TY.out.cell 0
  have cTY1 : z12.cell? ⟨gY, 1, none⟩ = some (.slice UY S4.length cY) := TY.out.cell 1
  go_wp2_with fail
  refine (sameT _ a4 _ _ S4 XX.out XY.out).mono ?_
  rintro e y13 ⟨rfl, hb13⟩
  clear cTX0 cTX1 cTY0 cTY1
  replace T0 := Lib.hid (T0.out.belowS hb13)
  replace T1 := Lib.hid (T1.out.belowS hb13)
  replace TX := Lib.hid (TX.out.belowS hb13)
  replace TY := Lib.hid (TY.out.belowS hb13)
  replace XX := Lib.hid (XX.out.below hb13 (Nat.le_refl _))
  replace XY := Lib.hid (XY.out.below hb13 (Nat.le_refl _))
  replace HB := Lib.hid (bl_trans HB.out hb13)
  go_wp2_with fail
  go_ret
  exact ⟨rfl, HB.out⟩
end Go.Proofs.YtmejijekcfhonaaGreat

/- SpaceWords: the law returns true for every input; each argument reads behind the call as it read before. The walk is in LWrds. -/
namespace Go.Proofs.YtmejijekcfhonaaGreat.spaceWords
open Go.ChangeShapes Go.WideShapes Go.ChangeAt Go.RowKit
set_option linter.unusedVariables false

set_option maxRecDepth 100000 in
theorem lifted (os : Os) (started : os.Started) (H : Type) (enc : TypeId × Value → H) :
    ReturnsInHanded {} Tryz.checked os 4 .any (Rows.spaceWordsSpec.pre6 enc Tryz.prog Tryz.f4 Rows.spaceWordsRow.domain false) (Rows.spaceWordsSpec.post enc Tryz.prog Tryz.f4 false true false false) := by
  refine returnsInHanded_of_change_sized (C := Tryz.checked) own started (by kernel_rfl) Tryz.func4
    (ChangeSpec.witness6 (enc := enc) (C := Tryz.checked) false ⟨#[], #[.agg #[.int .i64 0, .int .i64 0, .slice none 0 0], .agg #[.int .i64 0, .slice none 0 0], .slice none 0 0], []⟩ 8 (by kernel_rfl) (by kernel_rfl) (by kernel_rfl) (by kernel_rfl)) ?_
  intro W base args ds gs before hval0 hW _ hsz0 _
  have hsz : (DataW.weightsEach Tryz.prog (Tryz.f4.params.toList ++ Rows.spaceWordsSpec.plain.varTypes Tryz.prog) (ds ++ gs)).all (· ≤ reachBytes) = true := hsz0
  have hval : ∀ (j : Nat) t v, Tryz.f4.params[j]? = some t → args[j]? = some v → Value.okWide Tryz.prog W .any base t v := hval0
  have hW' := hW
  obtain ⟨p, q, hA0, hV, rfl, hfz, hnd⟩ := hW
  have hA : DataW.TrodAll enc Tryz.prog W 0 (fun _ => true) true Tryz.f4.params.toList args.toList ds p := hA0
  rw [Tryz.params4] at hA hval hsz
  obtain ⟨v0, vs0, d0, ds0, p0, q0, hargs, rfl, rfl, h0, r0'⟩ := trodAll_cons hA
  obtain ⟨v1, vs1, d1, ds1, p1, q1, rfl, rfl, rfl, h1, r1'⟩ := trodAll_cons r0'
  obtain ⟨v2, vs2, d2, ds2, p2, q2, rfl, rfl, rfl, h2, r2'⟩ := trodAll_cons r1'
  obtain ⟨rfl, rfl, rfl⟩ := trodAll_nil r2'
  obtain rfl : args = #[v0, v1, v2] := by cases args; simp_all
  obtain ⟨rfl, rfl⟩ := trodVars_none hV
  have k0 := h0
  have r0 := open_Field h0 (hval 0 24 v0 rfl rfl) (weigh hsz 0 rfl rfl)
  have k1 := h1
  have r1 := open_Matrix h1 (hval 1 27 v1 rfl rfl) (weigh hsz 1 rfl rfl)
  have k2 := h2
  have r2 := open_SI h2 (hval 2 22 v2 rfl rfl) (weigh hsz 2 rfl rfl)
  clear hA0 hval0
  refine (lawWords W r0 r1 r2).mono fun e W' ⟨he, bel⟩ => ?_
  subst he
  exact ⟨_, rfl, _, _, _, [], _, [], hW', trodAll_mk1 (shut_bool Tryz.underlying4 _), (trodAll_cons_mk (Below.trod laidOut (by kernel_rfl) (of_decide_eq_true (by kernel_rfl)) k0 bel (lt_of_trod k0)) (trodAll_cons_mk (Below.trod laidOut (by kernel_rfl) (of_decide_eq_true (by kernel_rfl)) k1 bel (lt_of_trod k1)) (trodAll_cons_mk (Below.trod laidOut (by kernel_rfl) (of_decide_eq_true (by kernel_rfl)) k2 bel (lt_of_trod k2)) trodAll_mk0))), rfl, bel.frame _, fun h => by cases h⟩

theorem proved : Rows.SpaceWordsSaid :=
  OpenClaim.holds_of_wide 4 Tryz.f4 rfl rfl rfl rfl rfl rfl rfl ⟨rfl, rfl, rfl, rfl, rfl⟩ rfl rfl rfl rfl rfl (by kernel_rfl) Tryz.func4 (by kernel_rfl)
    (of_decide_eq_true (by kernel_rfl)) (by unfold Func.isWrapper; first | (rw [if_pos (by decide +kernel)]; kernel_rfl) | (rw [if_neg (by decide +kernel)]; exact ⟨rfl, rfl⟩))
    (fun os started H enc _ => lifted os started H enc)
#print axioms proved
end Go.Proofs.YtmejijekcfhonaaGreat.spaceWords
