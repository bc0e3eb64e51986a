/- Texts of a claim, merged: words, plain facts and walks that the last of its texts uses. -/
import Derived.Test.YtlcgihjdafglmaaZA2
import Derived.Test.YtlcgihjdafglmaaZA6
import Derived.Test.YtlcgihjdafglmaaZA8
import Derived.Test.YtlcgihjdafglmaaZA9
import Derived.Test.YtlcgihjdafglmaaZA10
set_option linter.unusedSimpArgs false
set_option linter.unusedVariables false

/- matrix.canon. -/
namespace Go.Proofs.Ytlcgihjdafglmaa
open Go.RowKit
set_option linter.unusedVariables false
set_option maxRecDepth 100000

theorem elimTo_nil (O : FOps) : ∀ c, elimTo O [] c = ([], [])
  | 0 => rfl
  | c + 1 => by rw [elimTo, elimTo_nil O c]; rfl
theorem melim_any (w0 w : World) (A : Nat) (P M : Int) (cols L : Nat) (Mod : List Int) (v : Value) (rows : List (List Int)) (hG : GF w0 A P M Mod) (hOM : OM w0.heap.size (fun g => g < w0.heap.size) w v rows)
    (hb : Below w0.heap.size w0 w) (hR : Rows (orderF P M) L rows) (hcL : cols ≤ L) (hL : L ≤ 100000) (hn2 : rows.length ≤ 100000) :
    Calls Try.prog 133 #[.pointer (some ⟨A, 0, none⟩), v, .int .i64 (cols : Int), .slice none 0 0] w
      (RetEI w0 v (elimTo (refOps P M Mod) rows cols).1 (elimTo (refOps P M Mod) rows cols).2) := by
  rcases Nat.eq_zero_or_pos rows.length with h0 | h0
  · obtain rfl := List.eq_nil_of_length_eq_zero h0
    obtain ⟨AA, c, rfl⟩ := hOM.form
    rw [elimTo_nil]
    exact melim_nil w0 w A P M Mod cols AA c hOM hb
  · obtain ⟨g, c, rfl, _, _⟩ := hOM.formP h0
    exact melim_cons w0 w A P M cols L rows.length g c Mod rows hG hOM rfl h0 hb hR hcL hL hn2
theorem SS.takeC {w : World} {A : Option Addr} {n c : Nat} {xss : List (List Int)} (h : SS w (.slice A n c) xss) {k : Nat} (hk : k ≤ xss.length) : SS w (.slice A k k) (xss.take k) := by
  obtain ⟨A', c', e, h⟩ := h
  injection e with e1 e2 e3
  subst e1
  have hl : (xss.take k).length = k := by rw [List.length_take]; omega
  refine ⟨A, k, by rw [hl], by have := h.len; omega, by omega, fun j hj => ?_⟩
  rw [hl] at hj
  obtain ⟨ad, u, e, hc, hs⟩ := h.cell j (by omega)
  refine ⟨ad, u, e, hc, ?_⟩
  rwa [show (xss.take k).getD j [] = xss.getD j [] by simp [List.getD, List.getElem?_take, hj]]
theorem SS.capLe {w : World} {A : Option Addr} {n c : Nat} {xss : List (List Int)} (h : SS w (.slice A n c) xss) : n = xss.length ∧ xss.length ≤ c := by
  obtain ⟨A', c', e, h⟩ := h
  injection e with e1 e2 e3
  exact ⟨e2, by have := h.cap; omega⟩
/-- canonical rows and their pivots come back; the rows' slice has no room behind -/
def RetCan (w : World) (xss : List (List Int)) (ys : List Int) (e : Ending) (w' : World) : Prop :=
  ∃ AA U c, e = .returned (.tuple #[.slice AA xss.length xss.length, .slice U ys.length c]) ∧ Sep w.heap.size w' (fun w2 => SS w2 (.slice AA xss.length xss.length) xss ∧ SI w2 (.slice U ys.length c) ys) ∧ SSb (fun g => w.heap.size ≤ g) w' (.slice AA xss.length xss.length) xss ∧ Below w.heap.size w w'

set_option maxHeartbeats 8000000 in
theorem mcanon_any (w : World) (A : Nat) (P M : Int) (n : Nat) (Mod : List Int) (v : Value) (rows : List (List Int)) (hG : GF w A P M Mod) (hv : SS w v rows) (hR : Rows (orderF P M) n rows) (hL : n ≤ 100000) (hn : rows.length ≤ 100000) :
    Calls Try.prog 107 #[.pointer (some ⟨A, 0, none⟩), v, .int .i64 (n : Int)] w (RetCan w (canonL (refOps P M Mod) rows n) (pivL (refOps P M Mod) rows n)) := by
  have HG := Lib.hid hG; have HV := Lib.hid hv; have HR := Lib.hid hR
  have hf := hG.fld
  have HLT := Lib.hid (refOps_lt hf.1 Mod)
  have hob := orderF_bounds P M
  have HRR := Lib.hid (canon_rref (ref_fld hf) hR).1
  have HER := Lib.hid (Rows.elim HLT.out hR n)
  have hel := elimTo_len (refOps P M Mod) rows n
  have hep := (elimTo_piv (refOps P M Mod) rows n)
  have HCN : Hid (canonL (refOps P M Mod) rows n = (elimTo (refOps P M Mod) rows n).1.take (elimTo (refOps P M Mod) rows n).2.length) := rfl
  have HPV : Hid (pivL (refOps P M Mod) rows n = (elimTo (refOps P M Mod) rows n).2) := rfl
  clear hG hv hR
  go_enter Try.func107, Try.ntmps107
  go_wp2_with fail
  refine (mclone_any _ v rows HV.out hn).mono ?_
  rintro e w1 ⟨u, rfl, ho, hb⟩
  have HO := Lib.hid ho; have HB := Lib.hid hb; clear ho hb
  go_wp2_with fail
  refine (melim_any w w1 A P M n n Mod u rows HG.out HO.out HB.out HR.out (Nat.le_refl _) hL hn).mono ?_
  rintro e w2 ⟨U, d, rfl, ho, hi, hb⟩
  generalize (elimTo (refOps P M Mod) rows n).1 = l at *
  generalize (elimTo (refOps P M Mod) rows n).2 = p at *
  obtain ⟨AA, c, rfl⟩ := ho.form
  have hos := ho.os (fun j hj => by
    have h := HER.out j hj
    exact ⟨by rw [h.1]; omega, fun k => by have := h.2 k; exact I64.of_small (by omega) (by omega)⟩)
  have hsep := hos.sep (fun g hg => .inl hg) (by omega)
  have hssb := hos.ssb (by omega) (fun g hg => .inl hg)
  obtain ⟨_, hcap⟩ := hsep.out.capLe
  obtain ⟨UA, uc, rfl⟩ := hi.form'
  have hpl : p.length ≤ l.length := by omega
  have HS := Lib.hid (hsep.imp fun _ h => h.takeC hpl)
  have HSB := Lib.hid (hssb.takeC hpl)
  have HP : Hid (Sep w.heap.size w2 fun w2 => SI w2 (.slice UA p.length uc) p) := hid' (hi.sep (by omega) (fun k => by
    by_cases hk : k < p.length
    · have hA : (canonL (refOps P M Mod) rows n).length = p.length := by rw [HCN.out, List.length_take]; omega
      have h1 := HRR.out.nn k (by omega)
      have h2 := HRR.out.lt k (by omega)
      rw [HPV.out] at h1 h2
      rw [h1]
      exact I64.of_small (by omega) (by omega)
    · rw [getD_len (by omega)]; exact I64.zero))
  have HB2 := Lib.hid hb
  have HTL : Hid ((l.take p.length).length = p.length) := by show _ = _; rw [List.length_take]; omega
  clear ho hi hb hos hsep hssb
  clear HRR
  go_wp2_with fail
  go_ret2
  rw [HCN.out, HPV.out]
  refine ⟨AA, UA, uc, ?_, ?_, ?_, HB2.out⟩
  · rw [HTL.out]; rfl
  · rw [HTL.out]; exact HS.out.and HP.out
  · rw [HTL.out]; exact HSB.out
end Go.Proofs.Ytlcgihjdafglmaa

/- matrix.open of one matrix; matrix.Check. -/
namespace Go.Proofs.Ytlcgihjdafglmaa
open Go.RowKit
set_option linter.unusedVariables false
set_option maxRecDepth 100000

set_option maxHeartbeats 8000000 in
theorem mopen_fno (w : World) (P M : Int) (mv lv : Value) (Mod : List Int) (hm : SI w mv Mod) (hf : ¬ FieldP P M Mod) :
    Calls Try.prog 86 #[.agg #[.int .i64 P, .int .i64 M, mv], lv] w (RetG0 w) := by
  have HM := Lib.hid hm; clear hm
  have HF := Lib.hid (FBox.mk' w P M mv)
  go_enter Try.func86, Try.ntmps86
  go_wp2_with fail
  generalize hw0 : w.alloc (.cells #[.int .i64 P, .int .i64 M, mv] 24) = w0 at *
  have c0 := HF.out.c0; have c1 := HF.out.c1; have c2 := HF.out.c2
  go_wp2_with fail
  refine (new_no _ P M mv Mod (HM.out.below HF.out.bel (Nat.le_refl _)) hf).mono ?_
  rintro e w1 ⟨rfl, hb1⟩
  have HB1 := Lib.hid (bl_trans HF.out.bel hb1); clear hb1
  go_wp2_with fail
  go_ret2
  exact ⟨rfl, HB1.out⟩

/-- open's results where the field is right -/
def RetGE (w : World) (P M : Int) (Mod : List Int) (er : Int) (e : Ending) (w' : World) : Prop :=
  (er = 0 → RetG w P M Mod e w') ∧ (er ≠ 0 → e = .returned (.tuple #[.pointer none, .int .i64 er]) ∧ Below w.heap.size w w')
set_option maxHeartbeats 8000000 in
theorem mopen1_any (w : World) (P M cols : Int) (mv rv : Value) (gl : Nat) (Mod : List Int) (rows : List (List Int)) (hm : SI w mv Mod) (hv : SS w rv rows) (hf : FieldP P M Mod)
    (hl0 : w.cell? ⟨gl, 0, none⟩ = some (.int .i64 cols)) (hl1 : w.cell? ⟨gl, 1, none⟩ = some rv) :
    Calls Try.prog 86 #[.agg #[.int .i64 P, .int .i64 M, mv], .slice (some ⟨gl, 0, none⟩) 1 1] w (RetGE w P M Mod (chkE (orderF P M) cols rows)) := by
  have HM := Lib.hid hm; have HV := Lib.hid hv; clear hm hv
  obtain ⟨RA, rc, rfl, _⟩ := HV.out
  have HF := Lib.hid (FBox.mk' w P M mv)
  have HL0 := Lib.hid hl0; have HL1 := Lib.hid hl1; clear hl0 hl1
  go_enter Try.func86, Try.ntmps86
  go_wp2_with fail
  generalize hw0 : w.alloc (.cells #[.int .i64 P, .int .i64 M, mv] 24) = w0 at *
  have c0 := HF.out.c0; have c1 := HF.out.c1; have c2 := HF.out.c2
  go_wp2_with fail
  refine (new_ok _ P M mv Mod (HM.out.below HF.out.bel (Nat.le_refl _)) hf).mono ?_
  rintro e w1 ⟨a, rfl, hg1, hb1⟩
  have HG1 := Lib.hid (hg1.mono HF.out.bel.size)
  have HB1 := Lib.hid (bl_trans HF.out.bel hb1); clear hb1 hg1 c0 c1 c2
  go_wp2_with fail
  go_loopw [20] (fun i wr => (i = .int .i64 0 ∧ Hid (wr = w1)) ∨ (i = .int .i64 1 ∧ Hid (chkE (orderF P M) cols rows = 0) ∧ Hid (Below w1.heap.size w1 wr))) (fun i _ => (1 - intOf i).toNat)
  case atStart => exact .inl ⟨rfl, rfl⟩
  case round =>
    rcases hrel with ⟨rfl, HW⟩ | ⟨rfl, HC, HW⟩
    · obtain rfl := HW.out
      have d0 := cell_below HB1.out HL0.out
      have d1 := cell_below HB1.out HL1.out
      have HBA := Lib.hid (bl_alloc wr (.cells #[.int .i64 cols, .slice RA rows.length rc] 69))
      go_wp2_with fail
      refine (mcheck_any _ a P M cols Mod _ rows (HG1.out.on HBA.out).out ((HV.out.below HB1.out (Nat.le_refl _)).below HBA.out (Nat.le_refl _))).mono ?_
      rintro e w3 ⟨rfl, hb3⟩
      have HB3 := Lib.hid (bl_trans HBA.out hb3); clear hb3 HBA d0 d1
      by_cases hc : chkE (orderF P M) cols rows = 0
      · rw [hc]
        have HC := Lib.hid hc; clear hc
        go_wp2_with fail
        exact ⟨.inr ⟨rfl, HC, HB3⟩, by simp only [intOf]; omega⟩
      · have hb : (chkE (orderF P M) cols rows != 0) = true := by rw [bne_iff_ne]; exact hc
        have HC := Lib.hid hc; clear hc
        go_wp2_with fail
        go_ret2
        exact ⟨fun h => absurd h HC.out, fun _ => ⟨rfl, bl_trans HB1.out HB3.out⟩⟩
    · go_wp2_with fail
      go_ret2
      refine ⟨fun _ => ⟨a, rfl, (HG1.out.mono (Nat.le_refl _)).on HW.out, bl_trans HB1.out HW.out⟩, fun h => absurd HC.out h⟩

end Go.Proofs.Ytlcgihjdafglmaa

/- ref10.Pivots: the place of the first entry of each row that is not 0. -/
namespace Go.Proofs.Ytlcgihjdafglmaa
open Go.RowKit
set_option linter.unusedVariables false
set_option maxRecDepth 100000

/-- the place of the first entry that is not 0, the length if there is none -/
def fstNz (x : List Int) : Nat := x.findIdx (· != 0)
theorem fstNz_eq {x : List Int} {k : Nat} (hk : k ≤ x.length) (h0 : ∀ j, j < k → x.getD j 0 = 0) (h1 : k < x.length → x.getD k 0 ≠ 0) : fstNz x = k := by
  by_cases hl : k < x.length
  · have h1 := h1 hl
    unfold fstNz
    rw [List.findIdx_eq hl]
    constructor
    · simp [List.getD, hl] at h1
      simp [h1]
    · intro j hj
      have := h0 j hj
      have hjl : j < x.length := by omega
      simp [List.getD, hjl] at this
      simp [this]
  · obtain rfl : k = x.length := by omega
    unfold fstNz
    rw [List.findIdx_eq_length]
    intro y hy
    obtain ⟨i, hi, rfl⟩ := List.mem_iff_getElem.1 hy
    have := h0 i hi
    simp [List.getD, hi] at this
    simp [this]
def pivots (rows : List (List Int)) : List Int := rows.map fun r => (fstNz r : Int)
end Go.Proofs.Ytlcgihjdafglmaa

/- ref10.Rest, In, Check. -/
namespace Go.Proofs.Ytlcgihjdafglmaa
open Go.RowKit
set_option linter.unusedVariables false
set_option maxRecDepth 100000

/-- what is left of x behind the first i rows: each taken from it so often as x has at the row's first place -/
def restTo (O : FOps) (rows : List (List Int)) (x : List Int) : Nat → List Int
  | 0 => x
  | i + 1 => addToL O (restTo O rows x i) (O.neg (x.getD (fstNz (rows.getD i [])) 0)) (rows.getD i [])
def restL (O : FOps) (rows : List (List Int)) (x : List Int) : List Int := restTo O rows x rows.length
theorem restTo_len (O : FOps) (rows : List (List Int)) (x : List Int) : ∀ i, (restTo O rows x i).length = x.length
  | 0 => rfl
  | i + 1 => by rw [restTo, addToL_len, restTo_len O rows x i]
theorem restTo_rng {O : FOps} {q : Int} (hO : O.Lt q) (rows : List (List Int)) {x : List Int} (hx : Rng q x) : ∀ i, Rng q (restTo O rows x i)
  | 0 => hx
  | i + 1 => by
    rw [restTo]
    exact (Rows.addTo hO (restTo_rng hO rows hx i) _ _).2
end Go.Proofs.Ytlcgihjdafglmaa
