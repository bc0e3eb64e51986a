/- Texts of a claim, merged: words, plain facts and walks that the last of its texts uses. -/
import Derived.Test.YtlofhnmpbpjigaaZA1
import Derived.Test.YtlofhnmpbpjigaaZA2
import Derived.Test.YtlofhnmpbpjigaaZA3
import Derived.Test.YtlofhnmpbpjigaaZA4
import Derived.Test.YtlofhnmpbpjigaaZA6
import Derived.Test.YtlofhnmpbpjigaaZA7
set_option linter.unusedSimpArgs false
set_option linter.unusedVariables false

namespace Go.Proofs.Ytlofhnmpbpjigaa
open Go.RowKit
set_option maxRecDepth 100000
set_option maxHeartbeats 4000000 in
theorem gis_any (w : World) (a : Nat) (P M x : Int) (Mod : List Int) (h : GF w a P M Mod) : Calls Try.prog 63 #[.pointer (some ⟨a, 0, none⟩), .int .i64 x] w (fun e w' => e = .returned (.bool (isB P M x)) ∧ w = w') := by
 obtain ⟨q, mv, ge, ce, gl, cl, E, L, h⟩ := h
 have c3 := h.c3
 have HE : Hid (isB P M x = (decide (0 ≤ x) && decide (x < (q : Int)))) := by show _ = _; unfold isB; rw [h.ord]
 clear h
 by_cases hx : 0 ≤ x
 ·have hx1 : decide (0 ≤ x) = true := by simpa using hx
  rw [hx1, Bool.true_and] at HE
  by_cases hq : x < (q : Int)
  ·have hq1 : decide (x < (q : Int)) = true := by simpa using hq
   rw [hq1] at HE
   go_enter Try.func63, Try.ntmps63
   go_wp2_with fail
   go_ret
   exact ⟨by rw [HE.out]; rfl, rfl⟩
  ·have hq1 : decide (x < (q : Int)) = false := by simpa using hq
   rw [hq1] at HE
   go_enter Try.func63, Try.ntmps63
   go_wp2_with fail
   go_ret
   exact ⟨by rw [HE.out]; rfl, rfl⟩
 ·have hx1 : decide (0 ≤ x) = false := by simpa using hx
  rw [hx1, Bool.false_and] at HE
  go_enter Try.func63, Try.ntmps63
  go_wp2_with fail
  go_ret
  exact ⟨by rw [HE.out]; rfl, rfl⟩
set_option maxHeartbeats 4000000 in
theorem mentries_any (w : World) (a : Nat) (P M : Int) (Mod l : List Int) (v : Value) (h : GF w a P M Mod) (hl : SI w v l) :
  Calls Try.prog 59 #[.pointer (some ⟨a, 0, none⟩), v] w (fun e w' => e = .returned (.int .i64 (entriesF (orderF P M) l)) ∧ w = w') := by
 obtain ⟨A, c, rfl, hl⟩ := hl
 have hn := hl.len
 have HL := Lib.hid hl; clear hl
 have HG := Lib.hid h; clear h
 go_enter Try.func59, Try.ntmps59
 go_wp2_with fail
 go_loop [9] (fun i => ∃ k : Nat, k ≤ l.length ∧ i = .int .i64 (k : Int) ∧ Hid (∀ j, j < k → 0 ≤ l.getD j 0 ∧ l.getD j 0 < orderF P M)) (fun i => l.length - (intOf i).toNat)
 case atStart => exact ⟨0, Nat.zero_le _, rfl, hid' fun j hj => absurd hj (by omega)⟩
 case round =>
  obtain ⟨k, hk, rfl, HK⟩ := hrel
  by_cases hlt : k < l.length
  ·obtain ⟨ad, x, rfl, hc, _, HX⟩ := HL.out.elt hlt
   by_cases hx : 0 ≤ x ∧ x < orderF P M
   ·have HB : Hid (isB P M x = true) := isB_true hx
    have HXX := Lib.hid hx; clear hx
    go_wp2_with fail
    refine (gis_any _ a P M x Mod HG.out).mono ?_
    rintro e w1 ⟨rfl, rfl⟩
    rw [HB.out]
    go_wp2_with fail
    go_round
    case rel => exact ⟨k + 1, by omega, by go_num, hid' fun j hj => by
     by_cases e : j = k
     ·subst e; rw [HX.out]; exact HXX.out
     ·exact HK.out j (by omega)⟩
    case measure => simp [intOf]; omega
   ·have HB : Hid (isB P M x = false) := isB_false hx
    have HE : Hid (entriesF (orderF P M) l = 2) := entriesF_bad hlt (by rw [HX.out]; exact hx)
    clear hx
    go_wp2_with fail
    refine (gis_any _ a P M x Mod HG.out).mono ?_
    rintro e w1 ⟨rfl, rfl⟩
    rw [HB.out]
    go_wp2_with fail
    go_ret
    exact ⟨by rw [HE.out]; rfl, rfl⟩
  ·obtain rfl : l.length = k := by omega
   have HE : Hid (entriesF (orderF P M) l = 0) := entriesF_ok HK.out
   go_wp2_with fail
   go_ret
   exact ⟨by rw [HE.out]; rfl, rfl⟩
def chkE (q cols : Int) (rows : List (List Int)) : Int := if cols < 0 ∨ 256 < cols ∨ 256 < (rows.length : Int) then 3 else if lensOK cols rows = true then (if entsOK q rows = true then 0 else 2) else 3
theorem matE_ok {P M : Int} {Mod : List Int} (hf : FieldP P M Mod) (cols : Int) (rows : List (List Int)) : matE P M Mod cols rows = chkE (orderF P M) cols rows := by
 unfold matE chkE
 rw [if_neg (by rw [checkF_ok hf]; decide)]
theorem matE_no {P M : Int} {Mod : List Int} (hf : ¬ FieldP P M Mod) (cols : Int) (rows : List (List Int)) : matE P M Mod cols rows = 1 := by
 unfold matE
 rw [if_pos (by rw [checkF_bad hf]; decide), checkF_bad hf]
set_option maxHeartbeats 8000000 in
theorem mcheck_any (w : World) (a : Nat) (P M cols : Int) (Mod : List Int) (rv : Value) (rows : List (List Int)) (h : GF w a P M Mod) (hv : SS w rv rows) :
  Calls Try.prog 51 #[.pointer (some ⟨a, 0, none⟩), .agg #[.int .i64 cols, rv]] w (RetI w (chkE (orderF P M) cols rows)) := by
 obtain ⟨A, c, rfl, hv⟩ := hv
 have hrl := hv.len
 have HG := Lib.hid (h.on (bl_alloc w (.cells #[.int .i64 cols, .slice A rows.length c] 24))); clear h
 have HV := Lib.hid ((show SS w (.slice A rows.length c) rows from ⟨A, c, rfl, hv⟩).below (bl_alloc w (.cells #[.int .i64 cols, .slice A rows.length c] 24)) (Nat.le_refl _)); clear hv
 have HB := Lib.hid (bl_alloc w (.cells #[.int .i64 cols, .slice A rows.length c] 24))
 have HBX := Lib.hid (Blk.new w 24 [.int .i64 cols, .slice A rows.length c])
 obtain ⟨n, hn⟩ : ∃ n, n = rows.length := ⟨_, rfl⟩
 rw [← hn] at HV HG HB HBX hrl ⊢
 have HN := Lib.hid hn; clear hn
 have d0 : (w.alloc (.cells #[.int .i64 cols, .slice A n c] 24)).cell? ⟨w.heap.size, 0, none⟩ = some (.int .i64 cols) := HBX.out.cell 0
 have d1 : (w.alloc (.cells #[.int .i64 cols, .slice A n c] 24)).cell? ⟨w.heap.size, 1, none⟩ = some (.slice A n c) := HBX.out.cell 1
 by_cases hcn : cols < 0 ∨ 256 < cols ∨ 256 < (n : Int)
 ·have HE : Hid (chkE (orderF P M) cols rows = 3) := by show _ = _; unfold chkE; rw [← HN.out, if_pos hcn]
  rw [HE.out]
  by_cases h1 : cols < 0
  ·have b1 : decide (cols < 0) = true := by simpa using h1
   clear hcn
   go_enter Try.func51, Try.ntmps51
   go_wp2_with fail
   go_ret
   exact ⟨rfl, HB.out⟩
  have b1 : decide (cols < 0) = false := by simpa using h1
  by_cases h2 : 256 < cols
  ·have b2 : decide (256 < cols) = true := by simpa using h2
   clear hcn
   go_enter Try.func51, Try.ntmps51
   go_wp2_with fail
   go_ret
   exact ⟨rfl, HB.out⟩
  have b2 : decide (256 < cols) = false := by simpa using h2
  have h3 : 256 < (n : Int) := by omega
  have b3 : decide (256 < (n : Int)) = true := by simpa using h3
  clear hcn
  go_enter Try.func51, Try.ntmps51
  go_wp2_with fail
  go_ret
  exact ⟨rfl, HB.out⟩
 have HCN : Hid (¬ (cols < 0 ∨ 256 < cols ∨ 256 < (rows.length : Int))) := by show ¬ _; rw [← HN.out]; exact hcn
 obtain ⟨h1, h2, h3⟩ : ¬ cols < 0 ∧ ¬ 256 < cols ∧ ¬ 256 < (n : Int) := by omega
 have b1 : decide (cols < 0) = false := by simpa using h1
 have b2 : decide (256 < cols) = false := by simpa using h2
 have b3 : decide (256 < (n : Int)) = false := by simpa using h3
 clear hcn
 go_enter Try.func51, Try.ntmps51
 go_wp2_with fail
 clear b1 b2 b3
 generalize hw0 : w.alloc (.cells #[.int .i64 cols, .slice A n c] 24) = w0 at *
 clear hw0
 go_loop [27] (fun i => ∃ k : Nat, k ≤ n ∧ i = .int .i64 (k : Int) ∧ Hid (∀ j, j < k → ((rows.getD j []).length : Int) = cols)) (fun i => (n - (intOf i).toNat))
 case atStart => exact ⟨0, Nat.zero_le _, rfl, hid' fun j hj => absurd hj (by omega)⟩
 case round =>
  obtain ⟨k, hk, rfl, HK⟩ := hrel
  by_cases hlt : k < n
  ·obtain ⟨ad, Ak, ck, x, rfl, hc, HX, HXE⟩ := HV.out.eltA (k := k) (by rw [← HN.out]; exact hlt)
   by_cases hx : (x.length : Int) = cols
   ·have hxb : (((x.length : Nat) : Int) != cols) = false := by rw [bne_eq_false_iff_eq]; exact hx
    have HXX := Lib.hid hx; clear hx
    go_wp2_with fail
    go_round
    case rel => exact ⟨k + 1, by omega, by go_num, hid' fun j hj => by
     by_cases e : j = k
     ·subst e; rw [HXE.out]; exact HXX.out
     ·exact HK.out j (by omega)⟩
    case measure => simp [intOf]; omega
   ·have hxb : (((x.length : Nat) : Int) != cols) = true := by rw [bne_iff_ne]; exact hx
    have HE : Hid (chkE (orderF P M) cols rows = 3) := by
     show _ = _
     unfold chkE
     rw [if_neg HCN.out, if_neg]
     rw [show lensOK cols rows = false from all_not (k := k) (by rw [← HN.out]; exact hlt) (by rw [HXE.out]; simpa using hx)]
     decide
    clear hx
    go_wp2_with fail
    go_ret
    exact ⟨by rw [HE.out]; rfl, HB.out⟩
  ·obtain rfl : n = k := by omega
   have HL : Hid (lensOK cols rows = true) := all_of_getD fun j hj => by
    have := HK.out j (by rw [HN.out]; exact hj)
    simpa using this
   clear hlt hk HK
   go_wp2_with fail
   go_loop [40] (fun i => ∃ k : Nat, k ≤ n ∧ i = .int .i64 (k : Int) ∧ Hid (∀ j, j < k → entriesF (orderF P M) (rows.getD j []) = 0)) (fun i => (n - (intOf i).toNat))
   case atStart => exact ⟨0, Nat.zero_le _, rfl, hid' fun j hj => absurd hj (by omega)⟩
   case round =>
    obtain ⟨k, hk, rfl, HK⟩ := hrel
    by_cases hlt : k < n
    ·obtain ⟨ad, Ak, ck, x, rfl, hc, HX, HXE⟩ := HV.out.eltA (k := k) (by rw [← HN.out]; exact hlt)
     go_wp2_with fail
     refine (mentries_any _ a P M Mod x _ HG.out HX.out.si).mono ?_
     rintro e w2 ⟨rfl, rfl⟩
     by_cases hx : entriesF (orderF P M) x = 0
     ·rw [hx]
      have HXX := Lib.hid hx; clear hx
      go_wp2_with fail
      go_round
      case rel => exact ⟨k + 1, by omega, by go_num, hid' fun j hj => by
       by_cases e : j = k
       ·subst e; rw [HXE.out]; exact HXX.out
       ·exact HK.out j (by omega)⟩
      case measure => simp [intOf]; omega
     ·have hx2 : entriesF (orderF P M) x = 2 := (entriesF_cases _ _).resolve_left hx
      have HE : Hid (chkE (orderF P M) cols rows = 2) := by
       show _ = _
       unfold chkE
       rw [if_neg HCN.out, if_pos HL.out, if_neg]
       rw [show entsOK (orderF P M) rows = false from all_not (k := k) (by rw [← HN.out]; exact hlt) (by rw [HXE.out, hx2]; rfl)]
       decide
      rw [hx2]
      clear hx hx2
      go_wp2_with fail
      go_ret
      exact ⟨by rw [HE.out]; rfl, HB.out⟩
    ·obtain rfl : n = k := by omega
     have HE : Hid (chkE (orderF P M) cols rows = 0) := by
      show _ = _
      unfold chkE
      rw [if_neg HCN.out, if_pos HL.out, if_pos]
      exact all_of_getD fun j hj => by
       have := HK.out j (by rw [HN.out]; exact hj)
       simpa using this
     go_wp2_with fail
     go_ret
     exact ⟨by rw [HE.out]; rfl, HB.out⟩
set_option maxHeartbeats 8000000 in
theorem mopen_fno (w : World) (P M : Int) (mv lv : Value) (Mod : List Int) (hm : SI w mv Mod) (hf : ¬ FieldP P M Mod) :
  Calls Try.prog 44 #[.agg #[.int .i64 P, .int .i64 M, mv], lv] w (RetG0 w) := by
 have HM := Lib.hid hm; clear hm
 have HF := Lib.hid (FBox.mk' w P M mv)
 go_enter Try.func44, Try.ntmps44
 go_wp2_with fail
 generalize hw0 : w.alloc (.cells #[.int .i64 P, .int .i64 M, mv] 44) = w0 at *
 have c0 := HF.out.c0; have c1 := HF.out.c1; have c2 := HF.out.c2
 go_wp2_with fail
 refine (new_no _ P M mv Mod (HM.out.below HF.out.bel (Nat.le_refl _)) hf).mono ?_
 rintro e w1 ⟨rfl, hb1⟩
 have HB1 := Lib.hid (bl_trans HF.out.bel hb1); clear hb1
 go_wp2_with fail
 go_ret2
 exact ⟨rfl, HB1.out⟩
def RetGE (w : World) (P M : Int) (Mod : List Int) (er : Int) (e : Ending) (w' : World) : Prop :=
 (er = 0 → RetG w P M Mod e w') ∧ (er ≠ 0 → e = .returned (.tuple #[.pointer none, .int .i64 er]) ∧ Below w.heap.size w w')
set_option maxHeartbeats 8000000 in
theorem mopen1_any (w : World) (P M cols : Int) (mv rv : Value) (gl : Nat) (Mod : List Int) (rows : List (List Int)) (hm : SI w mv Mod) (hv : SS w rv rows) (hf : FieldP P M Mod)
  (hl0 : w.cell? ⟨gl, 0, none⟩ = some (.int .i64 cols)) (hl1 : w.cell? ⟨gl, 1, none⟩ = some rv) :
  Calls Try.prog 44 #[.agg #[.int .i64 P, .int .i64 M, mv], .slice (some ⟨gl, 0, none⟩) 1 1] w (RetGE w P M Mod (chkE (orderF P M) cols rows)) := by
 have HM := Lib.hid hm; have HV := Lib.hid hv; clear hm hv
 obtain ⟨RA, rc, rfl, _⟩ := HV.out
 have HF := Lib.hid (FBox.mk' w P M mv)
 have HL0 := Lib.hid hl0; have HL1 := Lib.hid hl1; clear hl0 hl1
 go_enter Try.func44, Try.ntmps44
 go_wp2_with fail
 generalize hw0 : w.alloc (.cells #[.int .i64 P, .int .i64 M, mv] 44) = w0 at *
 have c0 := HF.out.c0; have c1 := HF.out.c1; have c2 := HF.out.c2
 go_wp2_with fail
 refine (new_ok _ P M mv Mod (HM.out.below HF.out.bel (Nat.le_refl _)) hf).mono ?_
 rintro e w1 ⟨a, rfl, hg1, hb1⟩
 have HG1 := Lib.hid (hg1.mono HF.out.bel.size)
 have HB1 := Lib.hid (bl_trans HF.out.bel hb1); clear hb1 hg1 c0 c1 c2
 go_wp2_with fail
 go_loopw [20] (fun i wr => (i = .int .i64 0 ∧ Hid (wr = w1)) ∨ (i = .int .i64 1 ∧ Hid (chkE (orderF P M) cols rows = 0) ∧ Hid (Below w1.heap.size w1 wr))) (fun i _ => (1 - intOf i).toNat)
 case atStart => exact .inl ⟨rfl, rfl⟩
 case round =>
  rcases hrel with ⟨rfl, HW⟩ | ⟨rfl, HC, HW⟩
  ·obtain rfl := HW.out
   have d0 := cell_below HB1.out HL0.out
   have d1 := cell_below HB1.out HL1.out
   have HBA := Lib.hid (bl_alloc wr (.cells #[.int .i64 cols, .slice RA rows.length rc] 24))
   go_wp2_with fail
   refine (mcheck_any _ a P M cols Mod _ rows (HG1.out.on HBA.out).out ((HV.out.below HB1.out (Nat.le_refl _)).below HBA.out (Nat.le_refl _))).mono ?_
   rintro e w3 ⟨rfl, hb3⟩
   have HB3 := Lib.hid (bl_trans HBA.out hb3); clear hb3 HBA d0 d1
   by_cases hc : chkE (orderF P M) cols rows = 0
   ·rw [hc]
    have HC := Lib.hid hc; clear hc
    go_wp2_with fail
    exact ⟨.inr ⟨rfl, HC, HB3⟩, by simp only [intOf]; omega⟩
   ·have hb : (chkE (orderF P M) cols rows != 0) = true := by rw [bne_iff_ne]; exact hc
    have HC := Lib.hid hc; clear hc
    go_wp2_with fail
    go_ret2
    exact ⟨fun h => absurd h HC.out, fun _ => ⟨rfl, bl_trans HB1.out HB3.out⟩⟩
  ·go_wp2_with fail
   go_ret2
   refine ⟨fun _ => ⟨a, rfl, (HG1.out.mono (Nat.le_refl _)).on HW.out, bl_trans HB1.out HW.out⟩, fun h => absurd HC.out h⟩
set_option maxHeartbeats 8000000 in
theorem mCheck_any (w : World) (P M cols : Int) (mv rv : Value) (Mod : List Int) (rows : List (List Int)) (hm : SI w mv Mod) (hv : SS w rv rows) :
  Calls Try.prog 32 #[.agg #[.int .i64 P, .int .i64 M, mv], .agg #[.int .i64 cols, rv]] w (RetI w (matE P M Mod cols rows)) := by
 have HM := Lib.hid hm; have HV := Lib.hid hv; clear hm hv
 obtain ⟨RA, rc, rfl, _⟩ := HV.out
 have HF := Lib.hid (FMBox.mk' w P M mv cols (.slice RA rows.length rc))
 generalize hn : rows.length = n at HF HV ⊢
 by_cases hf : FieldP P M Mod
 ·have HE : Hid (matE P M Mod cols rows = chkE (orderF P M) cols rows) := matE_ok hf cols rows
  go_enter Try.func32, Try.ntmps32
  go_wp2_with fail
  generalize hw0 : (w.alloc (.cells #[.int .i64 P, .int .i64 M, mv] 44)).alloc (.cells #[.int .i64 cols, .slice RA n rc] 24) = w0 at *
  have c0 := HF.out.fb.c0; have c1 := HF.out.fb.c1; have c2 := HF.out.fb.c2; have d0 := HF.out.d0; have d1 := HF.out.d1
  have hsz : w0.heap.size = w.heap.size + 1 + 1 := by rw [← hw0, World.size_alloc, World.size_alloc]
  have HBL := Lib.hid (Blk.new w0 24 [.int .i64 cols, .slice RA n rc])
  have B0 : Hid ((w0.alloc (.cells #[.int .i64 cols, .slice RA n rc] 24)).cell? ⟨w.heap.size + 1 + 1, 0, none⟩ = some (.int .i64 cols)) := hid' (by rw [← hsz]; exact HBL.out.cell 0)
  have B1 : Hid ((w0.alloc (.cells #[.int .i64 cols, .slice RA n rc] 24)).cell? ⟨w.heap.size + 1 + 1, 1, none⟩ = some (.slice RA n rc)) := hid' (by rw [← hsz]; exact HBL.out.cell 1)
  have HBA := Lib.hid (bl_alloc w0 (.cells #[.int .i64 cols, .slice RA n rc] 24))
  have HB1 := Lib.hid (bl_trans HF.out.fb.bel HBA.out)
  clear hn hsz hw0
  refine (mopen1_any _ P M cols mv (.slice RA n rc) (w.heap.size + 1 + 1) Mod rows (HM.out.below HB1.out (Nat.le_refl _)) (HV.out.below HB1.out (Nat.le_refl _)) hf B0.out B1.out).mono ?_
  rintro e w1 ⟨h1, h2⟩
  by_cases hc : chkE (orderF P M) cols rows = 0
  ·obtain ⟨a, rfl, _, hb2⟩ := h1 hc
   have HB2 := Lib.hid (bl_trans HB1.out hb2)
   have HC := Lib.hid hc
   clear hc h1 h2 hb2 c0 c1 c2 d0 d1
   go_wp2_with fail
   go_ret
   exact ⟨by rw [HE.out, HC.out]; rfl, HB2.out⟩
  ·obtain ⟨rfl, hb2⟩ := h2 hc
   have HB2 := Lib.hid (bl_trans HB1.out hb2)
   clear hc h1 h2 hb2 c0 c1 c2 d0 d1
   go_wp2_with fail
   go_ret
   exact ⟨by rw [HE.out]; rfl, HB2.out⟩
 ·have HE : Hid (matE P M Mod cols rows = 1) := matE_no hf cols rows
  go_enter Try.func32, Try.ntmps32
  go_wp2_with fail
  generalize hw0 : (w.alloc (.cells #[.int .i64 P, .int .i64 M, mv] 44)).alloc (.cells #[.int .i64 cols, .slice RA n rc] 24) = w0 at *
  have c0 := HF.out.fb.c0; have c1 := HF.out.fb.c1; have c2 := HF.out.fb.c2; have d0 := HF.out.d0; have d1 := HF.out.d1
  have HB1 := Lib.hid (bl_trans HF.out.fb.bel (bl_alloc w0 (.cells #[.int .i64 cols, .slice RA n rc] 24)))
  clear hn hw0
  refine (mopen_fno _ P M mv (.slice (some ⟨w.heap.size + 1 + 1, 0, none⟩) 1 1) Mod (HM.out.below HB1.out (Nat.le_refl _)) hf).mono ?_
  rintro e w1 ⟨rfl, hb2⟩
  have HB2 := Lib.hid (bl_trans HB1.out hb2)
  clear hb2 c0 c1 c2 d0 d1
  go_wp2_with fail
  go_ret
  exact ⟨by rw [HE.out]; rfl, HB2.out⟩
theorem field_two' : FieldP 2 1 [] := ⟨by rw [order21]; decide, ⟨by decide, fun d h1 h2 => by omega⟩, ⟨fun _ => rfl, fun h => absurd rfl h⟩, fun h => absurd rfl h⟩
def RetTwo (w : World) (e : Ending) (w' : World) : Prop := e = .returned (.agg #[.int .i64 2, .int .i64 1, .slice none 0 0]) ∧ Below w.heap.size w w'
set_option maxHeartbeats 2000000 in
theorem mbinary_any (w : World) : Calls Try.prog 33 #[] w (RetTwo w) := by
 go_enter Try.func33, Try.ntmps33
 go_wp2_with fail
 refine bodyPost_ret (v := .agg #[.int .i64 2, .int .i64 1, .slice none 0 0]) (by simp [results, Try.results33, go_sem]) rfl ⟨rfl, bl_alloc _ _⟩
set_option maxHeartbeats 2000000 in
theorem rTwo45_any (w : World) : Calls Try.prog 18 #[] w (RetTwo w) := by
 go_enter Try.func18, Try.ntmps18
 go_wp2_with fail
 refine bodyPost_ret (v := .agg #[.int .i64 2, .int .i64 1, .slice none 0 0]) (by simp [results, Try.results18, go_sem]) rfl ⟨rfl, bl_alloc _ _⟩
theorem AE_sep {w : World} {gA : Nat} {ess : List (List (Int × Int))} (h : AE (gA + 2) w gA ess) : Sep gA w fun w2 => EEat w2 gA ess := fun w2 h2 p hp => by
 obtain ⟨us, hl, hb, he, ha⟩ := h
 obtain ⟨u, hu, ho⟩ := he p hp
 exact ⟨u, (h2 ⟨gA, p, none⟩ (Nat.le_refl _) hb.lt).trans ((hb.cell p).trans hu), ho.sep w2 fun p hp hl => h2 p (by omega) hl⟩
noncomputable def bitE (cols : Int) (rows : List (List Int)) : Int := matE 2 1 [] cols rows
theorem bitE_ok {cols : Int} {rows : List (List Int)} (h : bitE cols rows = 0) : 0 ≤ cols ∧ cols ≤ 256 ∧ rows.length ≤ 256 ∧ ∀ j, j < rows.length → ((rows.getD j []).length : Int) = cols ∧ ∀ k, (rows.getD j []).getD k 0 = 0 ∨ (rows.getD j []).getD k 0 = 1 := by
 unfold bitE at h
 rw [matE_ok field_two', order21] at h
 unfold chkE at h
 by_cases h1 : cols < 0 ∨ 256 < cols ∨ 256 < (rows.length : Int)
 ·rw [if_pos h1] at h; cases h
 rw [if_neg h1] at h
 by_cases h2 : lensOK cols rows = true
 ·rw [if_pos h2] at h
  by_cases h3 : entsOK 2 rows = true
  ·refine ⟨by omega, by omega, by omega, fun j hj => ?_⟩
   have hm : rows.getD j [] ∈ rows := by simp [List.getD, hj]
   have a := List.all_eq_true.1 h2 _ hm
   have b := List.all_eq_true.1 h3 _ hm
   refine ⟨by simpa using a, fun k => ?_⟩
   have b' : entriesF 2 (rows.getD j []) = 0 := by simpa using b
   unfold entriesF at b'
   by_cases h4 : ∀ k, k < (rows.getD j []).length → 0 ≤ (rows.getD j []).getD k 0 ∧ (rows.getD j []).getD k 0 < 2
   ·by_cases hk : k < (rows.getD j []).length
    ·have := h4 k hk; omega
    ·rw [getD_len (by omega)]; omega
   ·rw [if_neg h4] at b'; cases b'
  ·rw [if_neg h3] at h; cases h
 ·rw [if_neg h2] at h; cases h
structure MBox (w w0 : World) (cols : Int) (rv : Value) : Prop where
 blk : Blk w0 w.heap.size 24 [.int .i64 cols, rv]
 bel : Below w.heap.size w w0
theorem MBox.mk' (w : World) (cols : Int) (rv : Value) : MBox w (w.alloc (.cells #[.int .i64 cols, rv] 24)) cols rv := ⟨Blk.new w 24 [.int .i64 cols, rv], bl_alloc w _⟩
theorem MBox.on {w w0 w1 : World} {cols : Int} {rv : Value} (h : MBox w w0 cols rv) (hb : Below w0.heap.size w0 w1) : MBox w w1 cols rv := ⟨h.blk.belowS hb, bl_trans h.bel hb⟩
theorem MBox.d0 {w w0 : World} {cols : Int} {rv : Value} (h : MBox w w0 cols rv) : w0.cell? ⟨w.heap.size, 0, none⟩ = some (.int .i64 cols) := h.blk.cell 0
theorem MBox.d1 {w w0 : World} {cols : Int} {rv : Value} (h : MBox w w0 cols rv) : w0.cell? ⟨w.heap.size, 1, none⟩ = some rv := h.blk.cell 1
theorem MBox.grown {w w0 w1 : World} {cols : Int} {rv : Value} {row : Option Nat} (h : MBox w w0 cols rv) (hg : w0.grownBy w1 row) (hr : ∀ g, row = some g → w.heap.size < g) : MBox w w1 cols rv :=
 ⟨h.blk.grown hg fun e => by have := hr _ e.symm; omega, h.bel.grown hg h.bel.size fun k e => Nat.le_of_lt (hr k e)⟩
def RetGR (w : World) (n : Nat) (rows : List (List Int)) (e : Ending) (w' : World) : Prop := ∃ g, e = .returned (.tuple #[.pointer (some ⟨g, 0, none⟩), .int .i64 0]) ∧ Sep w.heap.size w' (fun w2 => GR w2 g (cksTo rows n rows.length) (atTo rows n rows.length 0)) ∧ Below w.heap.size w w'
set_option maxHeartbeats 16000000 in
theorem build_ok (w : World) (cols : Int) (rv : Value) (rows : List (List Int)) (hv : SS w rv rows) (he : bitE cols rows = 0) :
  Calls Try.prog 19 #[.agg #[.int .i64 cols, rv]] w (RetGR w cols.toNat rows) := by
 have HV := Lib.hid hv; clear hv
 obtain ⟨RA, rc, rfl, _⟩ := HV.out
 have HF := Lib.hid (MBox.mk' w cols (.slice RA rows.length rc))
 obtain ⟨h1, h2, h3, h4⟩ := bitE_ok he
 obtain ⟨n, rfl⟩ : ∃ n : Nat, cols = (n : Int) := ⟨cols.toNat, by omega⟩
 rw [Int.toNat_natCast]
 have HROW := Lib.hid h4; clear h4
 have HE : Hid (matE 2 1 [] n rows = 0) := he
 generalize hr : rows.length = r at *
 have HRL := Lib.hid hr
 have hn256 : n ≤ 256 := by omega
 have hmk := fun (w : World) => run_mkE n (by omega) w
 clear he hr h1 h2
 go_enter Try.func19, Try.ntmps19
 go_wp2_with fail
 generalize hw0 : w.alloc (.cells #[.int .i64 (n : Int), .slice RA r rc] 24) = w0 at *
 clear hw0
 have d0 := HF.out.d0; have d1 := HF.out.d1
 go_wp2_with fail
 refine Kept.start (S := fun w' => w'.cell? ⟨w.heap.size, 0, none⟩ = some (.int .i64 (n : Int)) ∧ w'.cell? ⟨w.heap.size, 1, none⟩ = some (.slice RA r rc)) (by kernel_rfl) (⟨d0, d1⟩) (fun hHeld => ?_)
 change Kept _ _ _ _ 4 _ _ _
 refine Kept.tk 1 (v := ?_) rfl ?_ hHeld ?_
 rotate_left
 ·intro w' h; (try dsimp only at h); go_simp <;> with_reducible rfl
 try simp only [tda, tdb, tdc, Act.put, tdd, tde, tdf]
 refine Kept.only (i := 0) (by kernel_rfl) rfl (fun K hK => ?_)
 go_simp
 refine (mbinary_any _).mono ?_; rintro e w1 ⟨rfl, hb1⟩; have HF1 := Lib.hid ((HF.out.on (bl_drew _)).on hb1); clear hb1; have e0 := HF1.out.d0; have e1 := HF1.out.d1
 refine hK.out _ _ (⟨e0, e1⟩) (fun hHeld2 => ?_)
 clear hK K
 replace hHeld := hHeld2
 clear hHeld2
 try simp only [tda, tdb, tdc, Act.put, tdd, tde, tdf]
 refine Kept.only (i := 2) (by kernel_rfl) rfl (fun K hK => ?_)
 go_simp
 refine (mCheck_any _ 2 1 n (.slice none 0 0) (.slice RA r rc) [] rows (SI.none_ _) (HV.out.below HF1.out.bel (Nat.le_refl _))).mono ?_; rintro e w2 ⟨rfl, hb2⟩; rw [HE.out]; have HF2 := Lib.hid (HF1.out.on hb2); clear hb2
 refine hK.out _ _ (⟨HF2.out.d0, HF2.out.d1⟩) (fun hHeld2 => ?_)
 clear hK K
 replace hHeld := hHeld2
 clear hHeld2
 try simp only [tda, tdb, tdc, Act.put, tdd, tde, tdf]
 refine Kept.only (i := 3) (by kernel_rfl) rfl (fun K hK => ?_)
 go_simp
 refine hK.out _ _ hHeld (fun hHeld2 => ?_)
 clear hK K
 clear hHeld2
 refine Kept.done (by kernel_rfl) ?_
 try simp only [tda, tdb, tdc, Act.put, tdd, tde, tdf]
 clear hHeld
 clear d0 d1 e0 e1 HF1 HF
 have d0 := HF2.out.d0; have d1 := HF2.out.d1
 have HA0 := Lib.hid (AE.made (B := w2.heap.size + 2) w2 n)
 have hbW : Below w2.heap.size w2 ((w2.alloc (.cells (madeCells #[.slice none 0 0] n) 60)).alloc (.cells #[.slice none 0 0, .slice (some ⟨w2.heap.size, 0, none⟩) n n] 59)) := bl_trans (bl_alloc _ _) (bl_alloc _ _)
 have HF3 := Lib.hid (HF2.out.on hbW)
 have HA1 := Lib.hid (HA0.out.alloc (.cells #[.slice none 0 0, .slice (some ⟨w2.heap.size, 0, none⟩) n n] 59))
 have HG1 : Hid (Blk ((w2.alloc (.cells (madeCells #[.slice none 0 0] n) 60)).alloc (.cells #[.slice none 0 0, .slice (some ⟨w2.heap.size, 0, none⟩) n n] 59)) (w2.heap.size + 1) 59 [.slice none 0 0, .slice (some ⟨w2.heap.size, 0, none⟩) n n]) := hid' (by
  have := Blk.new (w2.alloc (.cells (madeCells #[.slice none 0 0] n) 60)) 59 [.slice none 0 0, .slice (some ⟨w2.heap.size, 0, none⟩) n n]
  rw [World.size_alloc] at this
  exact this)
 have q0 := HF3.out.d0; have q1 := HF3.out.d1
 have HSZ : Hid (((w2.alloc (.cells (madeCells #[.slice none 0 0] n) 60)).alloc (.cells #[.slice none 0 0, .slice (some ⟨w2.heap.size, 0, none⟩) n n] 59)).heap.size = w2.heap.size + 2) := hid' (by show _ = _; rw [World.size_alloc, World.size_alloc])
 have hgw := HF2.out.blk.lt
 clear hbW HA0
 go_wp2_with fail
 clear hmk d0 d1
 generalize hwg : (w2.alloc (.cells (madeCells #[.slice none 0 0] n) 60)).alloc (.cells #[.slice none 0 0, .slice (some ⟨w2.heap.size, 0, none⟩) n n] 59) = wg at *
 clear hwg
 obtain ⟨gA, hgA⟩ : ∃ gA, gA = w2.heap.size := ⟨_, rfl⟩
 rw [← hgA] at HA1 HG1 HSZ hgw ⊢
 have HV1 := Lib.hid (HV.out.below HF3.out.bel (Nat.le_refl _))
 have HV0 : Hid (∀ wr, Below w.heap.size w wr → SS wr (.slice RA r rc) rows) := hid' fun wr hb => HV.out.below hb (Nat.le_refl _)
 clear hgA HF2 HV1 HV0
 rw [← atTo_start rows] at HA1
 go_loopw [25] (fun i wr => ∃ (k : Nat) (cv : Value), k ≤ r ∧ i = .int .i64 (k : Int) ∧ Hid (MBox w wr n (.slice RA r rc)) ∧ Hid (Blk wr (gA + 1) 59 [cv, .slice (some ⟨gA, 0, none⟩) n n]) ∧ Hid (CK (gA + 2) wr cv (.slice none 0 0) (cksTo rows n k)) ∧ Hid (AE (gA + 2) wr gA (atTo rows n k 0)) ∧ Hid (gA + 2 ≤ wr.heap.size)) (fun i _ => (r - intOf i).toNat)
 case atStart => exact ⟨0, _, Nat.zero_le _, rfl, HF3, HG1, CK.nil _ _ _, HA1, hid' (by have := HSZ.out; omega)⟩
 case round =>
  clear HA1 HG1 HF3 HSZ q0 q1
  obtain ⟨k, cv, hk, rfl, HM, HG, HC, HA, HZ⟩ := hrel
  have q0 := HM.out.d0; have q1 := HM.out.d1
  by_cases hlt : k < r
  ·obtain ⟨ad, Ak, ck, x, rfl, hc0, HX, HXE⟩ := HV.out.eltA (k := k) (by rw [HRL.out]; exact hlt)
   have hc := cell_below HM.out.bel hc0
   have HXR := HROW.out k hlt
   rw [HXE.out] at HXR
   obtain ⟨hxl, hxr⟩ := HXR
   have HXB := Lib.hid hxr; clear hxr hc0
   have HXL : Hid (x.length = n) := hid' (by show x.length = n; omega)
   rw [HXL.out] at hc
   have HXS : Hid (SI w (.slice Ak n ck) x) := hid' (by have := HX.out.si; rw [HXL.out] at this; exact this)
   clear hxl
   have hgh := HG.out.lt
   have hbel := HM.out.bel.size
   go_wp2_with fail
   go_loopw [8, 32] (fun l p wr => ∃ (j : Nat) (A : Option Addr) (c ln : Nat), j ≤ n ∧ l = .slice A ln c ∧ p = .int .i64 (j : Int) ∧ Hid (ln = (onesTo x j).length) ∧ Hid (MBox w wr n (.slice (some ad) r rc)) ∧ Hid (Blk wr (gA + 1) 59 [cv, .slice (some ⟨gA, 0, none⟩) n n]) ∧ Hid (CK (gA + 2) wr cv l (cksTo rows n k)) ∧ Hid (OI (gA + 2) wr l (onesTo x j)) ∧ Hid (AE (gA + 2) wr gA (atTo rows n k j)) ∧ Hid (gA + 2 ≤ wr.heap.size)) (fun _ p _ => (n - intOf p).toNat)
   case atStart => exact ⟨0, none, 0, 0, Nat.zero_le _, rfl, rfl, rfl, HM, HG, HC, OI.nil _ _, HA, HZ⟩
   case round =>
    clear HM HG HC HA HZ q0 q1 hc hgh hbel
    obtain ⟨j, A, c, ln, hj, rfl, rfl, HLN, HM, HG, HC, HO, HA, HZ⟩ := hrel
    by_cases hjn : j < n
    ·obtain ⟨bd, y, rfl, hy0, _, HY⟩ := HXS.out.elt (k := j) (by rw [HXL.out]; exact hjn)
     have hy := cell_below HM.out.bel hy0
     clear hy0
     have g1 : wr.cell? ⟨gA + 1, 1, none⟩ = some (.slice (some ⟨gA, 0, none⟩) n n) := HG.out.cell 1
     by_cases h1 : y = 1
     ·have hb : (y == 1) = true := by rw [beq_iff_eq]; exact h1
      have HY1 : Hid ((rows.getD k []).getD j 0 = 1) := hid' (by rw [HXE.out, HY.out, h1])
      obtain ⟨UA, un, uc, hun, u1, uf, _, _⟩ := HA.out.elt (p := j) (by rw [atTo_len]; exact hjn) ((k : Int), (ln : Int))
      rw [atTo_getD hjn, if_neg (by omega)] at hun
      have hul := edgesTo_len rows j k
      have HUN := Lib.hid hun
      clear h1 hun
      have hzz := HZ.out
      go_wp2_with fail
      refine Drawn.start (S := fun w' => w'.cell? ⟨gA + 1, 1, none⟩ = some (.slice (some ⟨gA, 0, none⟩) n n) ∧ w'.cell? ⟨gA, j, none⟩ = some (.slice UA un uc)) (by kernel_rfl) (⟨g1, u1⟩) (fun hHeld => ?_)
      change Drawn _ _ _ _ 20 _ _ _
      refine Drawn.tk 0 (v := ?_) rfl ?_ hHeld ?_
      rotate_left
      ·intro w' h; (try dsimp only at h); go_simp <;> with_reducible rfl
      try simp only [tda, tdb, tdc, Act.put, tdd, tde, tdf]
      refine Drawn.tk 1 (v := ?_) rfl ?_ hHeld ?_
      rotate_left
      ·intro w' h; (try dsimp only at h); go_simp <;> with_reducible rfl
      try simp only [tda, tdb, tdc, Act.put, tdd, tde, tdf]
      refine Drawn.tk 2 (v := ?_) rfl ?_ hHeld ?_
      rotate_left
      ·intro w' h; (try dsimp only at h); go_simp <;> with_reducible rfl
      try simp only [tda, tdb, tdc, Act.put, tdd, tde, tdf]
      refine Drawn.tk 3 (v := ?_) rfl ?_ hHeld ?_
      rotate_left
      ·intro w' h; (try dsimp only at h); go_simp <;> with_reducible rfl
      try simp only [tda, tdb, tdc, Act.put, tdd, tde, tdf]
      refine Drawn.tk 4 (v := ?_) rfl ?_ hHeld ?_
      rotate_left
      ·intro w' h; (try dsimp only at h); go_simp <;> with_reducible rfl
      try simp only [tda, tdb, tdc, Act.put, tdd, tde, tdf]
      refine Drawn.tk 5 (v := ?_) rfl ?_ hHeld ?_
      rotate_left
      ·intro w' h; (try dsimp only at h); go_simp <;> with_reducible rfl
      try simp only [tda, tdb, tdc, Act.put, tdd, tde, tdf]
      refine Drawn.tk 6 (v := ?_) rfl ?_ hHeld ?_
      rotate_left
      ·intro w' h; (try dsimp only at h); go_simp <;> with_reducible rfl
      try simp only [tda, tdb, tdc, Act.put, tdd, tde, tdf]
      refine Drawn.tk 7 (v := ?_) rfl ?_ hHeld ?_
      rotate_left
      ·intro w' h; (try dsimp only at h); go_simp <;> with_reducible rfl
      try simp only [tda, tdb, tdc, Act.put, tdd, tde, tdf]
      refine Drawn.tk 8 (v := ?_) rfl ?_ hHeld ?_
      rotate_left
      ·intro w' h; (try dsimp only at h); go_simp <;> with_reducible rfl
      try simp only [tda, tdb, tdc, Act.put, tdd, tde, tdf]
      refine Drawn.tk 9 (v := ?_) rfl ?_ hHeld ?_
      rotate_left
      ·intro w' h; (try dsimp only at h); go_simp <;> with_reducible rfl
      try simp only [tda, tdb, tdc, Act.put, tdd, tde, tdf]
      refine Drawn.tk 10 (v := ?_) rfl ?_ hHeld ?_
      rotate_left
      ·intro w' h; (try dsimp only at h); go_simp <;> with_reducible rfl
      try simp only [tda, tdb, tdc, Act.put, tdd, tde, tdf]
      refine Drawn.tk 11 (v := ?_) rfl ?_ hHeld ?_
      rotate_left
      ·intro w' h; (try dsimp only at h); go_simp <;> with_reducible rfl
      try simp only [tda, tdb, tdc, Act.put, tdd, tde, tdf]
      refine Drawn.tk 12 (v := ?_) rfl ?_ hHeld ?_
      rotate_left
      ·intro w' h; (try dsimp only at h); go_simp <;> with_reducible rfl
      try simp only [tda, tdb, tdc, Act.put, tdd, tde, tdf]
      refine Drawn.tk 13 (v := ?_) rfl ?_ hHeld ?_
      rotate_left
      ·intro w' h; (try dsimp only at h); go_simp <;> with_reducible rfl
      try simp only [tda, tdb, tdc, Act.put, tdd, tde, tdf]
      refine Drawn.tk 14 (v := ?_) rfl ?_ hHeld ?_
      rotate_left
      ·intro w' h; (try dsimp only at h); go_simp <;> with_reducible rfl
      try simp only [tda, tdb, tdc, Act.put, tdd, tde, tdf]
      refine Drawn.tk 15 (v := ?_) rfl ?_ hHeld ?_
      rotate_left
      ·intro w' h; (try dsimp only at h); go_simp <;> with_reducible rfl
      try simp only [tda, tdb, tdc, Act.put, tdd, tde, tdf]
      refine Drawn.only (i := 16) (o := ?op1) (by kernel_rfl) ?ho1 (fun K hK => ?_)
      case ho1 => (conv => lhs; simp only [tdg, tdh, tdi])
      go_simp; obtain ⟨w3, gE, e1, e2, hX, hb3⟩ := mk_boxD wr 62 [.int .i64 (k : Int), .int .i64 (ln : Int)]; rw [e1, e2]; have HX3 := Lib.hid hX; have HB3 := Lib.hid hb3; have HGE : Hid (gE = wr.heap.size) := hid' e2.symm; clear e1 e2 hX hb3; have v1 := cell_below HB3.out g1; have v2 := cell_below HB3.out u1
      refine hK.out _ _ (fun _ => ⟨v1, v2⟩) (fun hHeld2 => ?_)
      clear hK K
      replace hHeld := hHeld2 (by decide)
      clear hHeld2
      try simp only [tda, tdb, tdc, Act.put, tdd, tde, tdf]
      refine Drawn.only (i := 17) (o := ?op2) (by kernel_rfl) ?ho2 (fun K hK => ?_)
      case ho2 => (conv => lhs; simp only [tdg, tdh, tdi])
      obtain ⟨UA', un', uc', hun', u1', uf', HEO, HST⟩ := (HA.out.on HB3.out).elt (p := j) (by rw [atTo_len]; exact hjn) ((k : Int), (ln : Int)); rw [v2] at u1'; injection u1' with u1'; injection u1' with ue1 ue2 ue3; subst ue1 ue2 ue3; refine step_pushE rfl _ _ rfl (gA + 2) _ _ rfl HEO.out gE 1 ((k : Int), (ln : Int)) rfl (HX3.out.cell 0) (HX3.out.cell 1) (by rw [← hun', HUN.out]; omega) (by have := HB3.out.size; omega) ?_; intro v' w4 ho4 hg4 hv4; obtain ⟨A4, c4, hve⟩ := ho4.form'; rw [List.length_append, ← hun', show ([((k : Int), (ln : Int))] : List (Int × Int)).length = 1 from rfl] at hve; subst hve; have HST4 := Lib.hid (HST.out _ _ ho4 hg4 hv4).1; have HR4 : Hid (∀ g, (Value.slice UA un uc).ownBlock = some g → gA + 2 ≤ g ∧ ∃ cs, w3.heap[g]? = some (.cells cs 62 (0, 0))) := hid' (fun g hg => ⟨(HEO.out.lt hg).1, HEO.out.typ hg⟩); have HG4 := Lib.hid hg4; have HG4B := Lib.hid ((HG.out.belowS HB3.out).grown hg4 (fun e => by have := (HR4.out _ e.symm).1; omega)); have x1 : w4.cell? ⟨gA + 1, 1, none⟩ = some (.slice (some ⟨gA, 0, none⟩) n n) := HG4B.out.cell 1; have hga4 := hg4.block gA (by have := (HA.out.on HB3.out).lt; omega) (fun e => by have := (HR4.out _ e.symm).1; omega); have x2 : w4.cell? ⟨gA, j, none⟩ = some (.slice UA un uc) := (World.cell?_of_block (w := w3) (a := ⟨gA, j, none⟩) hga4).trans v2; have xf : w4.frozen? ⟨gA, j, none⟩ = false := (World.frozen?_of_block (w := w3) (a := ⟨gA, j, none⟩) hga4).trans uf'; clear ho4 hg4 hv4 HST HEO uf' hun' hga4
      refine hK.out _ _ (fun _ => ⟨x1, x2⟩) (fun hHeld2 => ?_)
      clear hK K
      replace hHeld := hHeld2 (by decide)
      clear hHeld2
      try simp only [tda, tdb, tdc, Act.put, tdd, tde, tdf]
      refine Drawn.tk 18 (v := ?_) rfl ?_ hHeld ?_
      rotate_left
      ·intro w' h; (try dsimp only at h); go_simp <;> with_reducible rfl
      try simp only [tda, tdb, tdc, Act.put, tdd, tde, tdf]
      refine Drawn.only (i := 19) (by kernel_rfl) rfl (fun K hK => ?_)
      go_simp
      refine hK.out _ _ (fun h => absurd rfl h) (fun hHeld2 => ?_)
      clear hK K
      clear hHeld2
      refine Drawn.done (by kernel_rfl) ?_
      try simp only [tda, tdb, tdc, Act.put, tdd, tde, tdf]
      clear hHeld
      obtain ⟨wz, hwz⟩ : ∃ wz, wz = w4.setCell ⟨gA, j, none⟩ (.slice A4 (un + 1) c4) := ⟨_, rfl⟩
      have HMz : Hid (MBox w wz n (.slice (some ad) r rc)) := hid' (by
       rw [hwz]
       exact ((HM.out.on HB3.out).grown HG4.out (fun g e => by have := (HR4.out g e).1; omega)).grown (gr_set1 w4 gA j _) (fun g e => by have := Option.some.inj e; omega))
      have HGz : Hid (Blk wz (gA + 1) 59 [cv, .slice (some ⟨gA, 0, none⟩) n n]) := hid' (by
       rw [hwz]
       exact HG4B.out.grown (gr_set1 w4 gA j _) (fun e => by have := Option.some.inj e; omega))
      have HC3 := Lib.hid (HC.out.on HB3.out)
      have HO3 := Lib.hid (HO.out.below HB3.out (Nat.le_refl _))
      have HO4 := Lib.hid (HO3.out.grown HG4.out (fun g e e2 => by obtain ⟨_, cs, h⟩ := HR4.out g e2; exact not_int h (by decide) (HO3.out.intB e)))
      have HC4 := Lib.hid (HC3.out.grown HG4.out (fun g e => by obtain ⟨_, cs, h⟩ := HR4.out g e; exact ⟨fun e2 => by obtain ⟨cs', h'⟩ := OS.typ HC3.out e2; rw [h] at h'; injection h' with h'; injection h' with _ h' _; exact absurd h' (by decide), not_int h (by decide)⟩))
      have HAB : Hid (∃ cs, w4.heap[gA]? = some (.cells cs 60 (0, 0))) := hid' (by
       obtain ⟨us, _, hb, _⟩ := HA.out.on HB3.out
       exact ⟨_, hb.grown HG4.out (fun e => by have := (HR4.out _ e.symm).1; omega)⟩)
      have HOz : Hid (OI (gA + 2) wz (.slice A ln c) (onesTo x j)) := hid' (by
       rw [hwz]
       exact HO4.out.grown (gr_set1 w4 gA j _) (fun g e e2 => by have h1 := Option.some.inj e2; have h2 := (HO4.out.lt e).1; omega))
      have HCz : Hid (CK (gA + 2) wz cv (.slice A ln c) (cksTo rows n k)) := hid' (by
       rw [hwz]
       exact HC4.out.grown (gr_set1 w4 gA j _) (fun g e => by
        obtain rfl := Option.some.inj e
        obtain ⟨cs, h⟩ := HAB.out
        exact ⟨fun e2 => by have h2 := (OS.lt HC4.out e2).1; omega, not_int h (by decide)⟩))
      have HAz : Hid (AE (gA + 2) wz gA (atTo rows n k (j + 1))) := hid' (by
       rw [hwz, ← atTo_yes hjn HY1.out, HXE.out, ← HLN.out]
       exact HST4.out)
      have HZz : Hid (gA + 2 ≤ wz.heap.size) := hid' (by
       rw [hwz, World.size_setCell]
       have := HB3.out.size
       have := HG4.out.size
       omega)
      rw [← hwz]
      clear hwz HST4 HA HC HO HG HM HX3 HB3 HG4 HG4B HR4 HO3 HC3 HO4 HC4 HAB x1 x2 xf v1 v2 g1 u1 uf hy hzz HUN HGE HZ
      have HPB : Hid (SI (wz.alloc (.cells #[.int .i64 (j : Int)] 3)) (.slice (some ⟨wz.heap.size, 0, none⟩) 1 1) [(j : Int)]) := hid' (SI.lit wz [(j : Int)] (by simp) (fun k => by match k with | 0 => exact I64.of_small (by simp <;> omega) (by simp <;> omega) | k + 1 => exact I64.zero))
      have HOA := Lib.hid (HOz.out.alloc (.cells #[.int .i64 (j : Int)] 3))
      have hol := onesTo_len x j
      have HOY : Hid (onesTo x (j + 1) = onesTo x j ++ [(j : Int)]) := hid' (onesTo_yes (by have := HY1.out; rw [HXE.out] at this; exact this))
      have HUP : Hid (gA + 2 ≤ (wz.alloc (.cells #[.int .i64 (j : Int)] 3)).heap.size) := hid' (by have := HZz.out; rw [World.size_alloc]; omega)
      have HLB : Hid ((onesTo x j).length + [(j : Int)].length ≤ 17592186044416) := hid' (by show _ ≤ _; simp; omega)
      have HBW := Lib.hid (bl_alloc wz (.cells #[.int .i64 (j : Int)] 3))
      go_wp2_with (at_builtin; refine wpList_catI rfl _ _ rfl (gA + 2) _ (onesTo x j) rfl HOA.out _ [(j : Int)] rfl HPB.out HLB.out HUP.out ?_; (intro v1 w5 ho hg hv1); (rw [← HOY.out] at ho; have HO5 := Lib.hid ho; have HC5 := Lib.hid ((HCz.out.on HBW.out).push HOA.out hg hv1); have HA5 := Lib.hid ((HAz.out.on HBW.out).grown hg (fun g e => by obtain ⟨cs, s, h⟩ := HOA.out.intB e; exact ⟨cs, _, s, h, by decide, by decide⟩)); have HM5 := Lib.hid ((HMz.out.on HBW.out).grown hg (fun g e => by have := (HOA.out.lt e).1; omega)); have HG5 := Lib.hid ((HGz.out.belowS HBW.out).grown hg (fun e => by have := (HOA.out.lt e.symm).1; omega)); have HZ5 : Hid (gA + 2 ≤ w5.heap.size) := hid' (Nat.le_trans HUP.out hg.size); clear ho hg hv1))
      obtain ⟨A5, c5, rfl⟩ := HO5.out.form'
      exact ⟨⟨j + 1, A5, c5, _, by omega, rfl, by push_cast; rfl, rfl, HM5, HG5, HC5, HO5, HA5, HZ5⟩, by simp only [intOf]; omega⟩
     ·have hb : (y == 1) = false := by rw [beq_eq_false_iff_ne]; exact h1
      have HY1 : Hid ((rows.getD k []).getD j 0 ≠ 1) := hid' (by show _ ≠ _; rw [HXE.out, HY.out]; exact h1)
      have HOY : Hid (onesTo x (j + 1) = onesTo x j) := hid' (onesTo_no (by have := HY1.out; rw [HXE.out] at this; exact this))
      have HAY : Hid (atTo rows n k (j + 1) = atTo rows n k j) := hid' (atTo_no HY1.out)
      clear h1
      go_wp2_with fail
      exact ⟨⟨j + 1, A, c, ln, by omega, rfl, by push_cast; rfl, by rw [HOY.out]; exact HLN, HM, HG, HC, by rw [HOY.out]; exact HO, by rw [HAY.out]; exact HA, HZ⟩, by simp only [intOf]; omega⟩
    ·obtain rfl : n = j := by omega
     have g0 : wr.cell? ⟨gA + 1, 0, none⟩ = some cv := HG.out.cell 0
     have HBW := Lib.hid (bl_alloc wr (.cells #[.slice A ln c] 25))
     have HCa := Lib.hid (HC.out.on HBW.out)
     have HOa := Lib.hid (HO.out.alloc (.cells #[.slice A ln c] 25))
     have HOS := Lib.hid HCa.out.out
     have HUX := Lib.hid (HCa.out.apart HOa.out)
     have hol := onesTo_len x n
     have HSa : Hid (SI (wr.alloc (.cells #[.slice A ln c] 25)) (.slice A ln c) (onesTo x n)) := hid' (HOa.out.si (by omega) (fun i => by have := onesTo_bd x n i; exact I64.of_small (by omega) (by omega)))
     have HBX : Hid ((wr.alloc (.cells #[.slice A ln c] 25)).cell? ⟨wr.heap.size, 0, none⟩ = some (.slice A ln c)) := hid' ((Blk.new wr 25 [.slice A ln c]).cell 0)
     have HUP : Hid (gA + 2 ≤ (wr.alloc (.cells #[.slice A ln c] 25)).heap.size) := hid' (by have := HZ.out; rw [World.size_alloc]; omega)
     have HLN2 : Hid ((cksTo rows n k).length + 1 ≤ 4398046511104) := hid' (by rw [cksTo_len]; omega)
     have HGa := Lib.hid (HG.out.belowS HBW.out)
     have hlt3 := HG.out.lt
     have HAa := Lib.hid (HA.out.on HBW.out)
     have HMa := Lib.hid (HM.out.on HBW.out)
     go_wp2_with (at_builtin; refine wpList_pushS rfl _ _ rfl (gA + 2) _ _ (cksTo rows n k) rfl HOS.out wr.heap.size 1 _ (onesTo x n) rfl HBX.out HSa.out HUX.out HLN2.out HUP.out ?_; (intro v5 w5 ho hg hv5); (rw [show cksTo rows n k ++ [onesTo x n] = cksTo rows n (k + 1) by rw [cksTo_succ, HXE.out]] at ho; obtain ⟨A5, c5, hve⟩ := OS.form ho; rw [cksTo_len] at hve; subst hve; have HC5 := Lib.hid (CK.laid ho HCa.out rfl hg); have HG5 := Lib.hid (HGa.out.grown hg (fun e => by have := (OS.lt HOS.out e.symm).1; omega)); have HA5 := Lib.hid (HAa.out.grown hg (fun g e => by obtain ⟨cs, h⟩ := OS.typ HOS.out e; exact ⟨cs, _, _, h, by decide, by decide⟩)); have HM5 := Lib.hid (HMa.out.grown hg (fun g e => by have := (OS.lt HOS.out e).1; omega)); have HZ5 : Hid (gA + 2 ≤ w5.heap.size) := hid' (Nat.le_trans HUP.out hg.size); have g5 : w5.cell? ⟨gA + 1, 0, none⟩ = some cv := HG5.out.cell 0; have f5 := HG5.out.frozen 0; clear ho hg hv5))
     have HGB : Hid (∃ cs, w5.heap[gA + 1]? = some (.cells cs 59 (0, 0))) := hid' ⟨_, HG5.out⟩
     have HG6 : Hid (Blk (w5.setCell ⟨gA + 1, 0, none⟩ (.slice A5 (k + 1) c5)) (gA + 1) 59 [.slice A5 (k + 1) c5, .slice (some ⟨gA, 0, none⟩) n n]) := hid' (HG5.out.set_ 0 _)
     have HC6 : Hid (CK (gA + 2) (w5.setCell ⟨gA + 1, 0, none⟩ (.slice A5 (k + 1) c5)) (.slice A5 (k + 1) c5) (.slice none 0 0) (cksTo rows n (k + 1))) := hid' (HC5.out.grown (gr_set1 w5 (gA + 1) 0 _) (fun g e => by
      obtain rfl := Option.some.inj e
      obtain ⟨cs, h⟩ := HGB.out
      exact ⟨fun e2 => by have h2 := (OS.lt HC5.out e2).1; omega, not_int h (by decide)⟩))
     have HA6 : Hid (AE (gA + 2) (w5.setCell ⟨gA + 1, 0, none⟩ (.slice A5 (k + 1) c5)) gA (atTo rows n (k + 1) 0)) := hid' (by
      rw [← atTo_end]
      exact HA5.out.grown (gr_set1 w5 (gA + 1) 0 _) (fun g e => by
       obtain rfl := Option.some.inj e
       obtain ⟨cs, h⟩ := HGB.out
       exact ⟨cs, _, _, h, by decide, by decide⟩))
     have HM6 := Lib.hid (HM5.out.grown (gr_set1 w5 (gA + 1) 0 (.slice A5 (k + 1) c5)) (fun g e => by have := Option.some.inj e; omega))
     exact ⟨⟨k + 1, _, by omega, by push_cast; rfl, HM6, HG6, HC6, HA6, hid' (by rw [World.size_setCell]; exact HZ5.out)⟩, by simp only [intOf]; omega⟩
  ·obtain rfl : r = k := by omega
   have g0 : wr.cell? ⟨gA + 1, 0, none⟩ = some cv := HG.out.cell 0
   have hgl := HG.out.lt
   go_wp2_with fail
   go_ret2
   refine ⟨gA + 1, rfl, fun w2 h2 => ?_, HM.out.bel⟩
   rw [HRL.out]
   refine ⟨cv, gA, ?_, ?_, (HC.out.sep (by rw [cksTo_len]; omega)) w2 (fun p hp hl => h2 p (by omega) hl), AE_sep HA.out w2 (fun p hp hl => h2 p (by omega) hl)⟩
   ·rw [h2 ⟨gA + 1, 0, none⟩ (by show _ ≤ gA + 1; omega) hgl]; exact HG.out.cell 0
   ·rw [h2 ⟨gA + 1, 1, none⟩ (by show _ ≤ gA + 1; omega) hgl, atTo_len]; exact HG.out.cell 1
theorem take_len (xs : List Int) : xs.take xs.length = xs := List.take_of_length_le (Nat.le_refl _)
set_option maxHeartbeats 4000000 in
theorem modd_any (w : World) (lv wv : Value) (row word : List Int) (n : Nat) (hl : SI w lv (onesTo row n)) (hw : SI w wv word) (hn : word.length = n) (hrl : row.length = n) (hr : Bit row) (hb : Bit word) (hn2 : n ≤ 256) :
  Calls Try.prog 35 #[lv, wv] w (fun e w' => e = .returned (.bool (oddF row word)) ∧ w = w') := by
 have HLB := Lib.hid (fun j => onesTo_bd row n j)
 have HMM := Lib.hid (fun x => @onesTo_mem row n x)
 have HE : Hid (oddF row word = decide (selW word (onesTo row n) % 2 = 1)) := by show _ = _; unfold oddF; rw [hrl, ← selW_ones hr]
 have hll := onesTo_len row n
 generalize hL : onesTo row n = l at *
 clear hL
 obtain ⟨A, c, rfl, hl⟩ := hl
 obtain ⟨B, d, rfl, hw⟩ := hw
 have HL := Lib.hid hl; have HW := Lib.hid hw; clear hl hw
 have HB := Lib.hid hb
 have HN := Lib.hid hn; clear hn hrl hr hb
 have HSN : Hid (∀ k, k < l.length → selW word (l.take (k + 1)) = selW word (l.take k) + word.getD (l.getD k 0).toNat 0) := hid' fun k hk => by rw [take_snoc l k hk, selW_snoc]
 go_enter Try.func35, Try.ntmps35
 go_wp2_with fail
 go_loop [5, 10] (fun s i => ∃ k : Nat, k ≤ l.length ∧ i = .int .i64 (k : Int) ∧ s = .int .i64 (selW word (l.take k))) (fun _ i => l.length - (intOf i).toNat)
 case atStart => exact ⟨0, Nat.zero_le _, rfl, rfl⟩
 case round =>
  obtain ⟨k, hk, rfl, rfl⟩ := hrel
  have hsb := selW_bd HB.out (l.take k)
  have htl : (l.take k).length ≤ k := List.length_take_le _ _
  by_cases hlt : k < l.length
  ·obtain ⟨ad, x, rfl, hc, _, HX⟩ := HL.out.elt hlt
   have hxb := HLB.out k
   rw [HX.out] at hxb
   have hxm : x ∈ l := by rw [← HX.out, List.getD_eq_getElem?_getD, List.getElem?_eq_getElem hlt]; exact List.getElem_mem hlt
   obtain ⟨p, hp, hpn, _⟩ := HMM.out x |>.1 hxm
   subst hp
   clear hxm hxb
   obtain ⟨bd, y, rfl, hd, _, HY⟩ := HW.out.elt (k := p) (by rw [HN.out]; exact hpn)
   have hyb := HB.out p
   rw [HY.out] at hyb
   have HS : Hid (selW word (l.take (k + 1)) = selW word (l.take k) + y) := hid' (by show _ = _; rw [HSN.out k hlt, HX.out, Int.toNat_natCast, HY.out])
   have hpw : p < word.length := by rw [HN.out]; exact hpn
   have hy0 : 0 ≤ y ∧ y ≤ 1 := by omega
   clear hyb
   generalize selW word (l.take k) = s at *
   obtain ⟨hs0, hs1⟩ := hsb
   obtain ⟨hy1, hy2⟩ := hy0
   go_wp2_with fail
   go_round
   case rel => exact ⟨k + 1, by omega, by go_num, by rw [HS.out]⟩
   case measure => simp [intOf]; omega
  ·obtain rfl : l.length = k := by omega
   have HT : Hid (selW word (l.take l.length) = selW word l) := hid' (by show _ = _; rw [take_len])
   rw [HT.out] at hsb ⊢
   generalize selW word l = s at *
   obtain ⟨hs0, hs1⟩ := hsb
   by_cases ho : s % 2 = 1
   ·have hb : (s % 2 == 1) = true := by rw [beq_iff_eq]; exact ho
    have HE2 : Hid (oddF row word = true) := hid' (by rw [HE.out]; simpa using ho)
    clear ho
    go_wp2_with fail
    go_ret
    exact ⟨by rw [HE2.out]; rfl, rfl⟩
   ·have hb : (s % 2 == 1) = false := by rw [beq_eq_false_iff_ne]; exact ho
    have HE2 : Hid (oddF row word = false) := hid' (by rw [HE.out]; simpa using ho)
    clear ho
    go_wp2_with fail
    go_ret
    exact ⟨by rw [HE2.out]; rfl, rfl⟩
set_option maxHeartbeats 8000000 in
theorem muns_any (w : World) (g n : Nat) (rows : List (List Int)) (wv : Value) (word : List Int) (h : GR w g (cksTo rows n rows.length) (atTo rows n rows.length 0)) (hR : BitRows n rows) (hw : SI w wv word) (hn : word.length = n) (hb : Bit word) (hn2 : n ≤ 256) (hr2 : rows.length ≤ 256) :
  Calls Try.prog 26 #[.pointer (some ⟨g, 0, none⟩), wv] w (RetO w (unsTo rows word rows.length)) := by
 obtain ⟨cv, gA, h0, h1, hs, he⟩ := h
 obtain ⟨CA, cc, rfl, hs⟩ := hs
 have HSS := Lib.hid (show SS w (.slice CA (cksTo rows n rows.length).length cc) (cksTo rows n rows.length) from ⟨CA, cc, rfl, hs⟩); clear hs
 rw [cksTo_len] at h0 HSS
 have HW := Lib.hid hw; have HBW := Lib.hid hb; have HR := Lib.hid hR; have HN := Lib.hid hn
 generalize hrr : rows.length = r at *
 have HRR := Lib.hid hrr
 clear he h1 hw hb hR hn hrr
 have HO0 : Hid (OI w.heap.size w (.slice none 0 0) (unsTo rows word 0)) := OI.nil _ _
 go_enter Try.func26, Try.ntmps26
 go_wp2_with fail
 go_loopw [5, 13] (fun u i wr => ∃ (k : Nat) (A : Option Addr) (m c : Nat), k ≤ r ∧ i = .int .i64 (k : Int) ∧ u = .slice A m c ∧ Hid (m = (unsTo rows word k).length) ∧ Hid (OI w.heap.size wr u (unsTo rows word k)) ∧ Hid (Below w.heap.size w wr)) (fun _ i _ => r - (intOf i).toNat)
 case atStart => exact ⟨0, none, 0, 0, Nat.zero_le _, rfl, rfl, rfl, HO0, bl_refl _⟩
 case round =>
  clear HO0
  obtain ⟨k, A, m, c, hk, rfl, rfl, HML, HO, HB⟩ := hrel
  by_cases hlt : k < r
  ·obtain ⟨ad, Ak, ck, x, rfl, hc0, HX, HXE⟩ := HSS.out.eltA (k := k) (by rw [cksTo_len]; exact hlt)
   have hc := cell_below HB.out hc0
   rw [cksTo_getD hlt] at HXE
   obtain rfl := HXE.out
   clear hc0 HXE
   obtain ⟨hx1, hx2⟩ := HR.out k (by rw [HRR.out]; exact hlt)
   have HXL := Lib.hid hx1; have HXB := Lib.hid hx2; clear hx1 hx2
   have HOD : ∀ b, oddF (rows.getD k []) word = b → Hid (oddF (rows.getD k []) word = b) := fun b h => h
   have HXS := Lib.hid (HX.out.si.below HB.out (Nat.le_refl _))
   have HWS := Lib.hid (HW.out.below HB.out (Nat.le_refl _))
   generalize (onesTo (rows.getD k []) n).length = xl at *
   go_wp2_with fail
   refine (modd_any _ _ wv (rows.getD k []) word n HXS.out HWS.out HN.out HXL.out HXB.out HBW.out hn2).mono ?_
   rintro e w3 ⟨rfl, rfl⟩
   cases ho : oddF (rows.getD k []) word
   ·have HU : Hid (unsTo rows word (k + 1) = unsTo rows word k) := unsTo_no ho
    clear ho HOD
    go_wp2_with fail
    exact ⟨⟨k + 1, A, m, c, by omega, by push_cast; rfl, rfl, by rw [HU.out]; exact HML, by rw [HU.out]; exact HO, HB⟩, by simp only [intOf]; omega⟩
   ·have HU : Hid (unsTo rows word (k + 1) = unsTo rows word k ++ [(k : Int)]) := unsTo_yes ho
    clear ho HOD
    have hul := unsTo_len rows word k
    have HP := Lib.hid (PushI.mk' (w0 := w) HO.out HB.out HB.out.size (k : Int))
    go_wp2_with (at_builtin; refine wpList_pushI rfl _ _ rfl w.heap.size _ (unsTo rows word k) rfl HP.out.own wr.heap.size 1 (k : Int) rfl HP.out.box (by omega) HP.out.up ?_; (intro v1 w5 ho hg); (rw [← HU.out] at ho; have HO5 := Lib.hid ho; have HB5 := Lib.hid (HP.out.below (Nat.le_refl _) hg); clear ho hg))
    obtain ⟨A5, c5, rfl⟩ := HO5.out.form'
    exact ⟨⟨k + 1, A5, _, c5, by omega, by push_cast; rfl, rfl, rfl, HO5, HB5⟩, by simp only [intOf]; omega⟩
  ·obtain rfl : r = k := by omega
   go_wp2_with fail
   go_ret
   exact ⟨_, rfl, HO.out, HB.out⟩
noncomputable def wordE (n : Int) (word : List Int) : Int := if (word.length : Int) = n then entriesF 2 word else 4
end Go.Proofs.Ytlofhnmpbpjigaa
