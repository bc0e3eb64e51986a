/- Texts of a claim, merged: words, plain facts and walks that the last of its texts uses. -/
import Derived.Test.YtlofhnmpbpjigaaGreatZB1
import Derived.Test.YtlofhnmpbpjigaaGreatZB2
import Derived.Test.YtlofhnmpbpjigaaGreatZB4
import Derived.Test.YtlofhnmpbpjigaaGreatZB5
import Derived.Test.YtlofhnmpbpjigaaGreatZB8
import Derived.Test.YtlofhnmpbpjigaaGreatZB9
import Derived.Test.YtlofhnmpbpjigaaGreatZB11
set_option linter.unusedSimpArgs false
set_option linter.unusedVariables false

namespace Go.Proofs.YtlofhnmpbpjigaaGreat
open Go.RowKit
set_option maxRecDepth 100000
theorem elimTo_nil (O : FOps) : ∀ c, elimTo O [] c = ([], [])
 | 0 => rfl
 | c + 1 => by rw [elimTo, elimTo_nil O c]; rfl
theorem melim_any (w0 w : World) (A : Nat) (P M : Int) (cols L : Nat) (Mod : List Int) (v : Value) (rows : List (List Int)) (hG : GF w0 A P M Mod) (hOM : OM w0.heap.size (fun g => g < w0.heap.size) w v rows)
   (hb : Below w0.heap.size w0 w) (hR : Rows (orderF P M) L rows) (hcL : cols ≤ L) (hL : L ≤ 100000) (hn2 : rows.length ≤ 100000) :
   Calls Tryz.prog 118 #[.pointer (some ⟨A, 0, none⟩), v, .int .i64 (cols : Int), .slice none 0 0] w
     (RetEI w0 v (elimTo (refOps P M Mod) rows cols).1 (elimTo (refOps P M Mod) rows cols).2) := by
 rcases Nat.eq_zero_or_pos rows.length with h0 | h0
 · obtain rfl := List.eq_nil_of_length_eq_zero h0
   obtain ⟨AA, c, rfl⟩ := hOM.form
   rw [elimTo_nil]
   exact melim_nil w0 w A P M Mod cols AA c hOM hb
 · obtain ⟨g, c, rfl, _, _⟩ := hOM.formP h0
   exact melim_cons w0 w A P M cols L rows.length g c Mod rows hG hOM rfl h0 hb hR hcL hL hn2
theorem SS.takeC {w : World} {A : Option Addr} {n c : Nat} {xss : List (List Int)} (h : SS w (.slice A n c) xss) {k : Nat} (hk : k ≤ xss.length) : SS w (.slice A k k) (xss.take k) := by
 obtain ⟨A', c', e, h⟩ := h
 injection e with e1 e2 e3
 subst e1
 have hl : (xss.take k).length = k := by rw [List.length_take]; omega
 refine ⟨A, k, by rw [hl], by have := h.len; omega, by omega, fun j hj => ?_⟩
 rw [hl] at hj
 obtain ⟨ad, u, e, hc, hs⟩ := h.cell j (by omega)
 refine ⟨ad, u, e, hc, ?_⟩
 rwa [show (xss.take k).getD j [] = xss.getD j [] by simp [List.getD, List.getElem?_take, hj]]
theorem SS.capLe {w : World} {A : Option Addr} {n c : Nat} {xss : List (List Int)} (h : SS w (.slice A n c) xss) : n = xss.length ∧ xss.length ≤ c := by
 obtain ⟨A', c', e, h⟩ := h
 injection e with e1 e2 e3
 exact ⟨e2, by have := h.cap; omega⟩
def RetCan (w : World) (xss : List (List Int)) (ys : List Int) (e : Ending) (w' : World) : Prop :=
 ∃ AA U c, e = .returned (.tuple #[.slice AA xss.length xss.length, .slice U ys.length c]) ∧ Sep w.heap.size w' (fun w2 => SS w2 (.slice AA xss.length xss.length) xss ∧ SI w2 (.slice U ys.length c) ys) ∧ SSb (fun g => w.heap.size ≤ g) w' (.slice AA xss.length xss.length) xss ∧ Below w.heap.size w w'
set_option maxHeartbeats 8000000 in
theorem mcanon_any (w : World) (A : Nat) (P M : Int) (n : Nat) (Mod : List Int) (v : Value) (rows : List (List Int)) (hG : GF w A P M Mod) (hv : SS w v rows) (hR : Rows (orderF P M) n rows) (hL : n ≤ 100000) (hn : rows.length ≤ 100000) :
  Calls Tryz.prog 84 #[.pointer (some ⟨A, 0, none⟩), v, .int .i64 (n : Int)] w (RetCan w (canonL (refOps P M Mod) rows n) (pivL (refOps P M Mod) rows n)) := by
 have HG := Lib.hid hG; have HV := Lib.hid hv; have HR := Lib.hid hR
 have hf := hG.fld
 have HLT := Lib.hid (refOps_lt hf.1 Mod)
 have hob := orderF_bounds P M
 have HRR := Lib.hid (canon_rref (ref_fld hf) hR).1
 have HER := Lib.hid (Rows.elim HLT.out hR n)
 have hel := elimTo_len (refOps P M Mod) rows n
 have hep := (elimTo_piv (refOps P M Mod) rows n)
 have HCN : Hid (canonL (refOps P M Mod) rows n = (elimTo (refOps P M Mod) rows n).1.take (elimTo (refOps P M Mod) rows n).2.length) := rfl
 have HPV : Hid (pivL (refOps P M Mod) rows n = (elimTo (refOps P M Mod) rows n).2) := rfl
 clear hG hv hR
 go_enter Tryz.func84, Tryz.ntmps84
 go_wp2_with fail
 refine (mclone_any _ v rows HV.out hn).mono ?_
 rintro e w1 ⟨u, rfl, ho, hb⟩
 have HO := Lib.hid ho; have HB := Lib.hid hb; clear ho hb
 go_wp2_with fail
 refine (melim_any w w1 A P M n n Mod u rows HG.out HO.out HB.out HR.out (Nat.le_refl _) hL hn).mono ?_
 rintro e w2 ⟨U, d, rfl, ho, hi, hb⟩
 generalize (elimTo (refOps P M Mod) rows n).1 = l at *
 generalize (elimTo (refOps P M Mod) rows n).2 = p at *
 obtain ⟨AA, c, rfl⟩ := ho.form
 have hos := ho.os (fun j hj => by
  have h := HER.out j hj
  exact ⟨by rw [h.1]; omega, fun k => by have := h.2 k; exact I64.of_small (by omega) (by omega)⟩)
 have hsep := hos.sep (fun g hg => .inl hg) (by omega)
 have hssb := hos.ssb (by omega) (fun g hg => .inl hg)
 obtain ⟨_, hcap⟩ := hsep.out.capLe
 obtain ⟨UA, uc, rfl⟩ := hi.form'
 have hpl : p.length ≤ l.length := by omega
 have HS := Lib.hid (hsep.imp fun _ h => h.takeC hpl)
 have HSB := Lib.hid (hssb.takeC hpl)
 have HP : Hid (Sep w.heap.size w2 fun w2 => SI w2 (.slice UA p.length uc) p) := hid' (hi.sep (by omega) (fun k => by
  by_cases hk : k < p.length
  ·have hA : (canonL (refOps P M Mod) rows n).length = p.length := by rw [HCN.out, List.length_take]; omega
   have h1 := HRR.out.nn k (by omega)
   have h2 := HRR.out.lt k (by omega)
   rw [HPV.out] at h1 h2
   rw [h1]
   exact I64.of_small (by omega) (by omega)
  ·rw [getD_len (by omega)]; exact I64.zero))
 have HB2 := Lib.hid hb
 have HTL : Hid ((l.take p.length).length = p.length) := by show _ = _; rw [List.length_take]; omega
 clear ho hi hb hos hsep hssb
 clear HRR
 go_wp2_with fail
 go_ret2
 rw [HCN.out, HPV.out]
 refine ⟨AA, UA, uc, ?_, ?_, ?_, HB2.out⟩
 ·rw [HTL.out]; rfl
 ·rw [HTL.out]; exact HS.out.and HP.out
 ·rw [HTL.out]; exact HSB.out
def RetCM (w : World) (n : Nat) (xss : List (List Int)) (ys : List Int) (e : Ending) (w' : World) : Prop :=
 ∃ AA U c, e = .returned (.tuple #[.agg #[.int .i64 (n : Int), .slice AA xss.length xss.length], .slice U ys.length c, .int .i64 0]) ∧ Sep w.heap.size w' (fun w2 => SS w2 (.slice AA xss.length xss.length) xss ∧ SI w2 (.slice U ys.length c) ys) ∧ SSb (fun g => w.heap.size ≤ g) w' (.slice AA xss.length xss.length) xss ∧ Below w.heap.size w w'
theorem mopen_ok (w w1 : World) (P M : Int) (n gl : Nat) (mv rv : Value) (Mod : List Int) (rows : List (List Int)) (hF : Below w.heap.size w w1) (hsz : w1.heap.size = gl) (hm : SI w mv Mod) (hv : SS w rv rows) (he : matE P M Mod n rows = 0) :
  Calls Tryz.prog 83 #[.agg #[.int .i64 P, .int .i64 M, mv], .slice (some ⟨gl, 0, none⟩) 1 1] (w1.alloc (.cells #[.int .i64 (n : Int), rv] 40))
   (fun e w2 => ∃ a, e = .returned (.tuple #[.pointer (some ⟨a, 0, none⟩), .int .i64 0]) ∧ GF w2 a P M Mod ∧ Below w1.heap.size w1 w2) := by
 have hf := (matE_zero he).1
 have hb := bl_trans hF (bl_alloc w1 (.cells #[.int .i64 (n : Int), rv] 40))
 have hQ := Blk.new w1 40 [.int .i64 (n : Int), rv]
 rw [hsz] at hQ
 refine (mopen1_any _ P M n mv rv gl Mod rows (hm.below hb (Nat.le_refl _)) (hv.below hb (Nat.le_refl _)) hf (hQ.cell 0) (hQ.cell 1)).mono ?_
 rintro e w2 ⟨h1, _⟩
 obtain ⟨a, rfl, hg, hb2⟩ := h1 (by rw [← matE_ok hf]; exact he)
 exact ⟨a, rfl, hg.out, bl_trans (bl_alloc w1 _) hb2⟩
theorem mopen_no (w w1 : World) (P M : Int) (cols : Int) (gl : Nat) (mv rv : Value) (Mod : List Int) (rows : List (List Int)) (hF : Below w.heap.size w w1) (hsz : w1.heap.size = gl) (hm : SI w mv Mod) (hv : SS w rv rows) (he : matE P M Mod cols rows ≠ 0) :
  Calls Tryz.prog 83 #[.agg #[.int .i64 P, .int .i64 M, mv], .slice (some ⟨gl, 0, none⟩) 1 1] (w1.alloc (.cells #[.int .i64 cols, rv] 40))
   (fun e w2 => e = .returned (.tuple #[.pointer none, .int .i64 (matE P M Mod cols rows)]) ∧ Below w1.heap.size w1 w2) := by
 have hb := bl_trans hF (bl_alloc w1 (.cells #[.int .i64 cols, rv] 40))
 have hQ := Blk.new w1 40 [.int .i64 cols, rv]
 rw [hsz] at hQ
 by_cases hf : FieldP P M Mod
 ·refine (mopen1_any _ P M cols mv rv gl Mod rows (hm.below hb (Nat.le_refl _)) (hv.below hb (Nat.le_refl _)) hf (hQ.cell 0) (hQ.cell 1)).mono ?_
  rintro e w2 ⟨_, h2⟩
  rw [matE_ok hf] at he ⊢
  obtain ⟨rfl, hb2⟩ := h2 he
  exact ⟨rfl, bl_trans (bl_alloc w1 _) hb2⟩
 ·refine (mopen_fno _ P M mv _ Mod (hm.below hb (Nat.le_refl _)) hf).mono ?_
  rintro e w2 ⟨rfl, hb2⟩
  rw [matE_no hf]
  exact ⟨rfl, bl_trans (bl_alloc w1 _) hb2⟩
structure FMQ (w w1 : World) (P M : Int) (mv : Value) (cols : Int) (rv : Value) : Prop where
 fm : FMBox w w1 P M mv cols rv
 q : Blk w1 (w.heap.size + 1 + 1) 40 [.int .i64 0, .slice none 0 0]
theorem FMQ.on {w w1 w2 : World} {P M : Int} {mv : Value} {cols : Int} {rv : Value} (h : FMQ w w1 P M mv cols rv) (hb : Below w1.heap.size w1 w2) : FMQ w w2 P M mv cols rv := ⟨h.fm.on hb, h.q.belowS hb⟩
theorem FMQ.mk' (w : World) (P M : Int) (mv : Value) (cols : Int) (rv : Value) : ∃ w1, ((w.alloc (.cells #[.int .i64 P, .int .i64 M, mv] 24)).alloc (.cells #[.int .i64 cols, rv] 40)).alloc (.cells #[.int .i64 0, .slice none 0 0] 40) = w1 ∧
  FMQ w w1 P M mv cols rv ∧ w1.heap.size = w.heap.size + 1 + 1 + 1 := by
 refine ⟨_, rfl, ⟨(FMBox.mk' w P M mv cols rv).on (bl_alloc _ _), ?_⟩, ?_⟩
 ·have := Blk.new ((w.alloc (.cells #[.int .i64 P, .int .i64 M, mv] 24)).alloc (.cells #[.int .i64 cols, rv] 40)) 40 [.int .i64 0, .slice none 0 0]
  rw [World.size_alloc, World.size_alloc] at this
  exact this
 ·rw [World.size_alloc, World.size_alloc, World.size_alloc]
set_option maxHeartbeats 8000000 in
theorem mCanonical_ok (w : World) (P M : Int) (n : Nat) (mv rv : Value) (Mod : List Int) (rows : List (List Int)) (hm : SI w mv Mod) (hv : SS w rv rows) (he : matE P M Mod n rows = 0) :
  Calls Tryz.prog 48 #[.agg #[.int .i64 P, .int .i64 M, mv], .agg #[.int .i64 (n : Int), rv]] w (RetCM w n (canonL (refOps P M Mod) rows n) (pivL (refOps P M Mod) rows n)) := by
 have HM := Lib.hid hm; have HV := Lib.hid hv; clear hm hv
 obtain ⟨hf, _, hn, hr, hR⟩ := matE_zero he
 rw [Int.toNat_natCast] at hR
 have HR := Lib.hid hR
 have HE := Lib.hid he
 clear he hR hf
 obtain ⟨RA, rc, rfl, _⟩ := HV.out
 obtain ⟨r, hrr⟩ : ∃ r, r = rows.length := ⟨_, rfl⟩
 rw [← hrr] at HV hr ⊢
 have HRR := Lib.hid hrr; clear hrr
 obtain ⟨w1, e1, hq, hsz⟩ := FMQ.mk' w P M mv n (.slice RA r rc)
 have HQ := Lib.hid hq; have HE1 := Lib.hid e1; clear hq e1
 go_enter Tryz.func48, Tryz.ntmps48
 go_wp2_with fail
 rw [HE1.out]
 clear HE1
 have c0 := HQ.out.fm.fb.c0; have c1 := HQ.out.fm.fb.c1; have c2 := HQ.out.fm.fb.c2; have d0 := HQ.out.fm.d0; have d1 := HQ.out.fm.d1
 go_wp2_with fail
 refine (mopen_ok w w1 P M n _ mv _ Mod rows HQ.out.fm.fb.bel hsz HM.out HV.out HE.out).mono ?_
 rintro e w2 ⟨a, rfl, hg, hb2⟩
 have HG := Lib.hid hg
 have HQ2 := Lib.hid (HQ.out.on hb2)
 clear hg hb2 c0 c1 c2 d0 d1 HQ
 have d0 := HQ2.out.fm.d0; have d1 := HQ2.out.fm.d1
 go_wp2_with fail
 refine (mcanon_any w2 a P M n Mod _ rows HG.out (HV.out.below HQ2.out.fm.fb.bel (Nat.le_refl _)) HR.out (by omega) (by rw [← HRR.out]; omega)).mono ?_
 rintro e w3 ⟨AA, U, uc, rfl, hs, hsb, hb3⟩
 have hlt := HQ2.out.q.lt
 generalize hkk : (canonL (refOps P M Mod) rows n).length = k at *
 generalize hpp : (pivL (refOps P M Mod) rows n).length = p at *
 have HK := Lib.hid hkk; have HP := Lib.hid hpp; clear hkk hpp
 have HS := Lib.hid hs; have HSB := Lib.hid hsb
 have HQ3 := Lib.hid (HQ2.out.on hb3)
 clear hs hsb hb3 d0 d1
 have d0 := HQ3.out.fm.d0
 obtain ⟨r0, r1, f0, f1⟩ := HQ3.out.q.two
 go_wp2_with fail
 obtain ⟨w4, h4, HL⟩ := lay2 (x := .int .i64 (n : Int)) (y := .slice AA k k) HQ3.out.q
 rw [h4]
 have q0 := HL.c0; have q1 := HL.c1
 refine bodyPost_ret (v := .tuple #[.agg #[.int .i64 (n : Int), .slice AA k k], .slice U p uc, .int .i64 0]) (by simp [results, Tryz.results48, go_sem, q0, q1]) rfl ?_
 have hq2 := HQ2.out.fm.fb.bel.size
 refine ⟨AA, U, uc, ?_, ?_, ?_, HL.below HQ3.out.fm.fb.bel HQ3.out.fm.fb.bel.size (by omega)⟩
 ·rw [HK.out, HP.out]
 ·rw [HK.out, HP.out]
  exact (HS.out.grown HL.gr (by rintro g e; cases e; omega)).mono hq2
 ·rw [HK.out]
  exact (HSB.out.grown HL.gr (by rintro g e; cases e; show ¬ w2.heap.size ≤ _; omega)).imp fun g hg _ => Nat.le_trans hq2 hg
set_option maxHeartbeats 8000000 in
theorem mCanonical_no (w : World) (P M cols : Int) (mv rv : Value) (Mod : List Int) (rows : List (List Int)) (hm : SI w mv Mod) (hv : SS w rv rows) (he : matE P M Mod cols rows ≠ 0) :
  Calls Tryz.prog 48 #[.agg #[.int .i64 P, .int .i64 M, mv], .agg #[.int .i64 cols, rv]] w (fun e w' => e = .returned (.tuple #[.agg #[.int .i64 0, .slice none 0 0], .slice none 0 0, .int .i64 (matE P M Mod cols rows)]) ∧ Below w.heap.size w w') := by
 have HM := Lib.hid hm; have HV := Lib.hid hv; clear hm hv
 have HE := Lib.hid he
 have hb : (matE P M Mod cols rows != 0) = true := by rw [bne_iff_ne]; exact he
 clear he
 obtain ⟨RA, rc, rfl, _⟩ := HV.out
 generalize rows.length = r at HV ⊢
 obtain ⟨w1, e1, hq, hsz⟩ := FMQ.mk' w P M mv cols (.slice RA r rc)
 have HQ := Lib.hid hq; have HE1 := Lib.hid e1; clear hq e1
 go_enter Tryz.func48, Tryz.ntmps48
 go_wp2_with fail
 rw [HE1.out]
 clear HE1
 have c0 := HQ.out.fm.fb.c0; have c1 := HQ.out.fm.fb.c1; have c2 := HQ.out.fm.fb.c2; have d0 := HQ.out.fm.d0; have d1 := HQ.out.fm.d1
 go_wp2_with fail
 refine (mopen_no w w1 P M cols _ mv _ Mod rows HQ.out.fm.fb.bel hsz HM.out HV.out HE.out).mono ?_
 rintro e w2 ⟨rfl, hb2⟩
 have HQ2 := Lib.hid (HQ.out.on hb2)
 clear hb2 c0 c1 c2 d0 d1 HQ
 obtain ⟨er, her⟩ : ∃ er, er = matE P M Mod cols rows := ⟨_, rfl⟩
 rw [← her] at hb HE ⊢
 have HER := Lib.hid her; clear her
 obtain ⟨r0, r1, f0, f1⟩ := HQ2.out.q.two
 go_wp2_with fail
 obtain ⟨w4, h4, HL⟩ := lay2 (x := .int .i64 0) (y := .slice none 0 0) HQ2.out.q
 rw [h4]
 have q0 := HL.c0; have q1 := HL.c1
 refine bodyPost_ret (v := .tuple #[.agg #[.int .i64 0, .slice none 0 0], .slice none 0 0, .int .i64 er]) (by simp [results, Tryz.results48, go_sem, q0, q1]) rfl ?_
 exact ⟨by rw [← HER.out], HL.below HQ2.out.fm.fb.bel HQ2.out.fm.fb.bel.size (by omega)⟩
set_option maxHeartbeats 4000000 in
theorem index_any (w : World) (v : Value) (xs : List Int) (y : Int) (hv : SI w v xs) : Calls Tryz.prog 124 #[v, .int .i64 y] w (fun e w' => ∃ z, e = .returned (.int .i64 z) ∧ decide (0 ≤ z) = (xs.any fun x => x == y) ∧ w = w') := by
 obtain ⟨A, c, rfl, hv⟩ := hv
 have hn := hv.len
 have HV := Lib.hid hv; clear hv
 go_enter Tryz.func124, Tryz.ntmps124
 go_wp2_with fail
 go_loop [8] (fun i => ∃ k : Nat, k ≤ xs.length ∧ i = .int .i64 (k : Int) ∧ Hid (∀ j, j < k → xs.getD j 0 ≠ y)) (fun i => xs.length - (intOf i).toNat)
 case atStart => exact ⟨0, Nat.zero_le _, rfl, hid' fun j hj => absurd hj (Nat.not_lt_zero _)⟩
 case round =>
   obtain ⟨k, hk, rfl, HK⟩ := hrel
   by_cases hlt : k < xs.length
   · obtain ⟨ad, x, rfl, hc, _, HX⟩ := HV.out.elt hlt
     by_cases hx : y = x
     · have hb : (y == x) = true := by simpa using hx
       have HE : Hid ((xs.any fun x => x == y) = true) := by
         show _ = _
         rw [List.any_eq_true]
         exact ⟨xs.getD k 0, by rw [List.getD_eq_getElem?_getD, List.getElem?_eq_getElem hlt]; exact List.getElem_mem hlt, by rw [beq_iff_eq, HX.out]; exact hx.symm⟩
       clear hx
       go_wp2_with fail
       go_ret
       exact ⟨_, rfl, by rw [HE.out, decide_eq_true_eq]; show (0 : Int) ≤ (k : Int); omega, rfl⟩
     · have hb : (y == x) = false := by simpa using hx
       have HXX := Lib.hid hx; clear hx
       go_wp2_with fail
       go_round
       case rel => exact ⟨k + 1, by omega, by go_num, hid' fun j hj => by
         by_cases e : j = k
         · subst e; rw [HX.out]; exact fun h => HXX.out h.symm
         · exact HK.out j (by omega)⟩
       case measure => simp [intOf]; omega
   · have HE : Hid ((xs.any fun x => x == y) = false) := by
       show _ = _
       rw [List.any_eq_false]
       intro x hx e
       rw [beq_iff_eq] at e
       obtain ⟨j, hj, rfl⟩ := List.mem_iff_getElem.1 hx
       refine HK.out j (by omega) ?_
       rw [List.getD_eq_getElem?_getD, List.getElem?_eq_getElem hj]
       exact e
     go_wp2_with fail
     go_ret
     exact ⟨_, rfl, by rw [HE.out]; rfl, rfl⟩
set_option maxHeartbeats 4000000 in
theorem contains_any (w : World) (v : Value) (xs : List Int) (y : Int) (hv : SI w v xs) : Calls Tryz.prog 101 #[v, .int .i64 y] w (fun e w' => e = .returned (.bool (xs.any fun x => x == y)) ∧ w = w') := by
 have HV := Lib.hid hv; clear hv
 go_enter Tryz.func101, Tryz.ntmps101
 go_wp2_with fail
 refine (index_any _ v xs y HV.out).mono ?_
 rintro e w1 ⟨z, rfl, hz, rfl⟩
 have HZ := Lib.hid hz; clear hz
 go_wp2_with fail
 go_ret
 exact ⟨by rw [← HZ.out]; rfl, rfl⟩
def RetMx (w : World) (n : Nat) (xss : List (List Int)) (e : Ending) (w' : World) : Prop :=
 ∃ u, e = .returned (.tuple #[.agg #[.int .i64 (n : Int), u], .int .i64 0]) ∧ Sep w.heap.size w' (fun w2 => SS w2 u xss) ∧ Below w.heap.size w w'
set_option maxHeartbeats 16000000 in
theorem mKernel_ok (w : World) (P M : Int) (n : Nat) (mv rv : Value) (Mod : List Int) (rows : List (List Int)) (hm : SI w mv Mod) (hv : SS w rv rows) (he : matE P M Mod n rows = 0) :
  Calls Tryz.prog 71 #[.agg #[.int .i64 P, .int .i64 M, mv], .agg #[.int .i64 (n : Int), rv]] w (RetMx w n (nullL (refOps P M Mod) rows n)) := by
 have HM := Lib.hid hm; have HV := Lib.hid hv; clear hm hv
 obtain ⟨hf, _, hn, hr, hR⟩ := matE_zero he
 rw [Int.toNat_natCast] at hR
 have hO := ref_fld hf
 obtain ⟨hA, _⟩ := canon_rref hO hR
 have HR := Lib.hid hR
 have HE := Lib.hid he
 have HF := Lib.hid hO
 have HFD := Lib.hid hf
 have HNE : Hid (nullL (refOps P M Mod) rows n = canonL (refOps P M Mod) (nullTo (refOps P M Mod) (canonL (refOps P M Mod) rows n) (pivL (refOps P M Mod) rows n) n n) n) := rfl
 have HNR := Lib.hid (nullTo_Rows hO hA)
 have hAl : (canonL (refOps P M Mod) rows n).length ≤ n := by
  have h1 := (elimTo_piv (refOps P M Mod) rows n).2
  have h2 : (canonL (refOps P M Mod) rows n).length = (pivL (refOps P M Mod) rows n).length := hA.len.symm
  rw [h2]; exact h1
 have hob := orderF_bounds P M
 have HOB := Lib.hid hob
 clear he hR hf hO hob
 obtain ⟨RA, rc, rfl, _⟩ := HV.out
 obtain ⟨r0, hrr⟩ : ∃ r0, r0 = rows.length := ⟨_, rfl⟩
 rw [← hrr] at HV hr ⊢
 have HRR := Lib.hid hrr; clear hrr
 obtain ⟨w1, e1, hq, hsz⟩ := FMQ.mk' w P M mv n (.slice RA r0 rc)
 have HQ := Lib.hid hq; have HE1 := Lib.hid e1; clear hq e1
 have hmk := fun (w : World) => run_mkI n (by omega) w
 have HRA := Lib.hid hA; clear hA
 go_enter Tryz.func71, Tryz.ntmps71
 go_wp2_with fail
 rw [HE1.out]
 clear HE1
 have c0 := HQ.out.fm.fb.c0; have c1 := HQ.out.fm.fb.c1; have c2 := HQ.out.fm.fb.c2; have d0 := HQ.out.fm.d0; have d1 := HQ.out.fm.d1
 go_wp2_with fail
 refine (mopen_ok w w1 P M n _ mv _ Mod rows HQ.out.fm.fb.bel hsz HM.out HV.out HE.out).mono ?_
 rintro e w2 ⟨a, rfl, hg, hb2⟩
 have HG := Lib.hid hg
 have HQ2 := Lib.hid (HQ.out.on hb2)
 clear hg hb2 c0 c1 c2 d0 d1 HQ
 have d0 := HQ2.out.fm.d0; have d1 := HQ2.out.fm.d1
 go_wp2_with fail
 refine (mcanon_any w2 a P M n Mod _ rows HG.out (HV.out.below HQ2.out.fm.fb.bel (Nat.le_refl _)) HR.out (by omega) (by rw [← HRR.out]; omega)).mono ?_
 rintro e w3 ⟨AA, U, uc, rfl, hs, _, hb3⟩
 have hlt2 := HQ2.out.q.lt
 have HQ3 := Lib.hid (HQ2.out.on hb3)
 have HG3 := Lib.hid (HG.out.on hb3)
 have hpl := HRA.out.len
 generalize canonL (refOps P M Mod) rows n = Am at *
 generalize pivL (refOps P M Mod) rows n = p at *
 obtain ⟨r, hrr⟩ : ∃ r, r = Am.length := ⟨_, rfl⟩
 rw [hpl] at hs ⊢
 rw [← hrr] at hAl hpl hs ⊢
 have HAR := Lib.hid hrr; have HPL := Lib.hid hpl
 clear hrr hpl
 have HA := Lib.hid hs.out.1; have HP := Lib.hid hs.out.2
 have hlt : ∀ i, i < r → pvt p i < n := fun i hi => HRA.out.lt i (by rw [← HAR.out]; exact hi)
 clear hs hb3 d0 d1
 have d0 := HQ3.out.fm.d0
 go_wp2_with fail
 clear d0
 go_loopw [10, 37] (fun u i wr => ∃ (c l : Nat) (OA : Option Addr) (oc : Nat), c ≤ n ∧ i = .int .i64 (c : Int) ∧ u = .slice OA l oc ∧ Hid ((nullTo (refOps P M Mod) Am p n c).length = l) ∧ Hid (OS w3.heap.size (fun _ => False) wr (.slice OA l oc) (nullTo (refOps P M Mod) Am p n c)) ∧ Hid (Below w3.heap.size w3 wr)) (fun _ i _ => n - (intOf i).toNat)
 case atStart => exact ⟨0, 0, none, 0, Nat.zero_le _, rfl, rfl, rfl, OS.nil _ _ _, bl_refl _⟩
 case round =>
  obtain ⟨c, l, OA, oc, hc, rfl, rfl, HNL, HOS, HB⟩ := hrel
  have d0 := (HQ3.out.on HB.out).fm.d0
  by_cases hck : c < n
  ·cases hpv : isPv p c
   ·have HPV : Hid ((p.any fun x => x == (c : Int)) = false) := hpv
    have HNX : Hid (nullTo (refOps P M Mod) Am p n (c + 1) = nullTo (refOps P M Mod) Am p n c ++ [freeTo (refOps P M Mod) Am p n c r]) := hid' (by show _ = _; rw [nullTo, if_neg (by rw [hpv]; decide), HPL.out])
    clear hpv
    have HX0 := Lib.hid (RI.made wr n)
    have hx0 : (wr.alloc (.cells (madeCells #[.int .i64 0] n) 3)).cell? ⟨wr.heap.size, c, none⟩ = some (.int .i64 0) := by
     have := HX0.out.cell c (by simp; exact hck)
     rw [this]; simp [List.getD, List.getElem?_replicate, hck]
    have hxf := HX0.out.frozen c
    have HX1 : Hid (RI ((wr.alloc (.cells (madeCells #[.int .i64 0] n) 3)).setCell ⟨wr.heap.size, c, none⟩ (.int .i64 1)) wr.heap.size (freeTo (refOps P M Mod) Am p n c 0)) := hid' (HX0.out.set c 1)
    have hgr := gr_set1 (wr.alloc (.cells (madeCells #[.int .i64 0] n) 3)) wr.heap.size c (.int .i64 1)
    have HNEW : Hid (∀ g, (Value.slice OA l oc).ownBlock = some g → g ≠ wr.heap.size) := hid' fun g hg => by have := HOS.out.lt hg; omega
    have HO1 := Lib.hid (((HOS.out.names (Y := fun g => g = wr.heap.size) (fun g h1 h2 => by omega)).alloc (.cells (madeCells #[.int .i64 0] n) 3)).grown hgr (fun g e => by
     have e2 := Option.some.inj e
     subst e2
     exact ⟨fun h => HNEW.out _ h rfl, rfl⟩))
    have hsz3 := HB.out.size
    have HBc := Lib.hid ((HB.out.alloc hsz3 (.cells (madeCells #[.int .i64 0] n) 3)).setCell (p := ⟨wr.heap.size, c, none⟩) hsz3 (.int .i64 1))
    clear HX0 hgr HOS
    have hsc := World.setCell_alloc_at (w := wr) (madeCells #[.int .i64 0] n) 3 wr.heap.size c (.int .i64 1) rfl
    rw [hsc] at HX1 HO1 HBc
    clear hsc
    go_wp2_with fail
    refine (contains_any _ _ p (c : Int) (HP.out.below HB.out (Nat.le_refl _))).mono ?_
    rintro e w4 ⟨rfl, rfl⟩
    rw [HPV.out]
    go_wp2_with fail
    clear hx0 hxf HB d0
    generalize wr.alloc (.cells ((madeCells #[.int .i64 0] n).setIfInBounds c (.int .i64 1)) 3) = w5 at *
    generalize hgx : wr.heap.size = gx at *
    clear hgx
    go_loopw [51] (fun i wr => ∃ b : Nat, b ≤ r ∧ i = .int .i64 (b : Int) ∧ Hid (RI wr gx (freeTo (refOps P M Mod) Am p n c b)) ∧ Hid (OS w3.heap.size (fun g => g = gx) wr (.slice OA l oc) (nullTo (refOps P M Mod) Am p n c)) ∧ Hid (Below w3.heap.size w3 wr)) (fun i _ => r - (intOf i).toNat)
    case atStart => exact ⟨0, Nat.zero_le _, rfl, HX1, HO1, HBc⟩
    case round =>
     clear HX1 HO1 HBc
     obtain ⟨b, hb, rfl, HX, HOS, HB⟩ := hrel
     by_cases hbj : b < r
     ·obtain ⟨pd, z2, rfl, hpc, _, HZ⟩ := (HP.out.below HB.out (Nat.le_refl _)).elt (k := b) (by rw [HPL.out]; exact hbj)
      have hz2 := HZ.out
      rw [HRA.out.nn b (by rw [← HAR.out]; exact hbj)] at hz2
      subst hz2
      have hpj := hlt b hbj
      obtain ⟨ra, Ak, ck, row, rfl, hd, HRW, HRE⟩ := (HA.out.below HB.out (Nat.le_refl _)).eltA (k := b) (by rw [← HAR.out]; exact hbj)
      have hrl : row.length = n := by rw [← HRE.out]; exact (HRA.out.rows b (by rw [← HAR.out]; exact hbj)).1
      obtain ⟨rd, y, rfl, hy, _, HY⟩ := HRW.out.elt (k := c) (by rw [hrl]; exact hck)
      have HFN : Hid ((freeTo (refOps P M Mod) Am p n c b).set (pvt p b) (negF P M y) = freeTo (refOps P M Mod) Am p n c (b + 1)) := hid' (by
       show _ = _
       rw [freeTo, show ent Am b c = y by unfold ent; rw [HRE.out, HY.out]]; rfl)
      have hkr : c < row.length := by omega
      have HPJ : Hid (pvt p b < (freeTo (refOps P M Mod) Am p n c b).length) := hid' (by rw [freeTo_len]; exact hpj)
      clear HRE HRW HZ
      generalize pvt p b = pj at *
      go_wp2_with fail
      refine (gneg_any _ a P M y Mod (HG3.out.on HB.out)).mono ?_
      rintro e w6 ⟨rfl, hb6⟩
      have HX6 := Lib.hid (HX.out.belowS hb6)
      have HO6 := Lib.hid (HOS.out.below hb6)
      have HB6 := Lib.hid (bl_trans HB.out hb6)
      have u0 := HX6.out.cell pj HPJ.out
      have uf := HX6.out.frozen pj
      clear hb6
      go_wp2_with fail
      have HX7 := Lib.hid (HX6.out.set pj (negF P M y))
      rw [HFN.out] at HX7
      have HO7 := Lib.hid (HO6.out.grown (gr_set1 w6 gx pj (.int .i64 (negF P M y))) (fun g e => by
       have e2 := Option.some.inj e
       subst e2
       exact ⟨fun h => HNEW.out _ h rfl, rfl⟩))
      have HB7 := Lib.hid (HB6.out.setCell (p := ⟨gx, pj, none⟩) hsz3 (.int .i64 (negF P M y)))
      exact ⟨⟨b + 1, by omega, by push_cast; rfl, HX7, HO7, HB7⟩, by simp only [intOf]; omega⟩
     ·obtain rfl : b = r := by omega
      have hgl := HX.out.lt
      have hob := HOB.out
      have HXS : Hid (SI wr (.slice (some ⟨gx, 0, none⟩) n n) (freeTo (refOps P M Mod) Am p n c b)) := hid' (by
       have h := HX.out.si (by rw [freeTo_len]; omega) (fun i => by
        have h1 := freeTo_rng HF.out HRA.out c i
        rw [← HAR.out] at h1
        exact I64.of_small (by omega) (by omega))
       rwa [freeTo_len] at h)
      have HBX := Lib.hid (box1 (w := wr) (u := .slice (some ⟨gx, 0, none⟩) n n) (t := 22))
      have hba := bl_alloc wr (.cells #[.slice (some ⟨gx, 0, none⟩) n n] 22)
      have HXA := Lib.hid (HXS.out.below hba (Nat.le_refl _))
      have hsz4 := HB.out.size
      have HUP := Lib.hid (up_alloc (w := wr) (B := w3.heap.size) hsz4 (.cells #[.slice (some ⟨gx, 0, none⟩) n n] 22))
      have HOA := Lib.hid ((HOS.out.names (Y := fun _ => False) (fun g _ h => h.elim)).alloc (.cells #[.slice (some ⟨gx, 0, none⟩) n n] 22))
      have HBA := Lib.hid (HB.out.alloc hsz4 (.cells #[.slice (some ⟨gx, 0, none⟩) n n] 22))
      have HNN := Lib.hid (nullTo_len (refOps P M Mod) Am p n c)
      clear hba hgl hbj hsz4 hob
      go_wp2_with (at_builtin; refine wpList_pushS rfl _ _ rfl w3.heap.size (fun _ => False) _ (nullTo (refOps P M Mod) Am p n c) rfl HOA.out wr.heap.size 1 _ (freeTo (refOps P M Mod) Am p n c b) rfl HBX.out HXA.out (fun _ g hg => ⟨fun e => HNEW.out _ e (by simp [Value.ownBlock] at hg; exact hg.symm), fun h => h⟩) (by have := HNN.out; omega) HUP.out ?_; (intro v5 w5 ho5 hg5 hv5); go_must (have HB5 := Lib.hid (HOA.out.bgrown HBA.out HUP.out hg5); rw [← HNX.out] at ho5; obtain ⟨A5, c5, rfl⟩ := ho5.form; have HO5 := Lib.hid ho5); clear ho5 hg5 hv5)
      exact ⟨⟨c + 1, _, A5, c5, by omega, by push_cast; rfl, rfl, rfl, HO5, HB5⟩, by simp only [intOf]; omega⟩
   ·have HPV : Hid ((p.any fun x => x == (c : Int)) = true) := hpv
    have HNX : Hid (nullTo (refOps P M Mod) Am p n (c + 1) = nullTo (refOps P M Mod) Am p n c) := hid' (by show _ = _; rw [nullTo, if_pos hpv])
    clear hpv
    go_wp2_with fail
    refine (contains_any _ _ p (c : Int) (HP.out.below HB.out (Nat.le_refl _))).mono ?_
    rintro e w4 ⟨rfl, rfl⟩
    rw [HPV.out]
    go_wp2_with fail
    exact ⟨⟨c + 1, l, OA, oc, by omega, by push_cast; rfl, rfl, by rw [HNX.out]; exact HNL, by rw [HNX.out]; exact HOS, HB⟩, by simp only [intOf]; omega⟩
  ·obtain rfl : c = n := by omega
   have hnl := nullTo_len (refOps P M Mod) Am p c c
   have HSS := Lib.hid (HOS.out.ss (by omega))
   have HQ4 := Lib.hid (HQ3.out.on HB.out)
   have HG4 := Lib.hid (HG3.out.on HB.out)
   go_wp2_with fail
   refine (mcanon_any wr a P M c Mod _ _ HG4.out HSS.out HNR.out (by omega) (by omega)).mono ?_
   rintro e w5 ⟨AA5, U5, uc5, rfl, hs5, _, hb5⟩
   rw [← HNE.out] at hs5 ⊢
   generalize hkk : (nullL (refOps P M Mod) rows c).length = k at *
   have HK := Lib.hid hkk; clear hkk
   have HS5 := Lib.hid (hs5.imp fun _ h => h.1)
   have hlt4 := HQ4.out.q.lt
   have HQ5 := Lib.hid (HQ4.out.on hb5)
   clear hs5 hb5 d0
   have d0 := HQ5.out.fm.d0
   obtain ⟨r0', r1', f0, f1⟩ := HQ5.out.q.two
   go_wp2_with fail
   obtain ⟨w6, h6, HL⟩ := lay2 (x := .int .i64 (c : Int)) (y := .slice AA5 k k) HQ5.out.q
   rw [h6]
   have q0 := HL.c0; have q1 := HL.c1
   refine bodyPost_ret (v := .tuple #[.agg #[.int .i64 (c : Int), .slice AA5 k k], .int .i64 0]) (by simp [results, Tryz.results71, go_sem, q0, q1]) rfl ?_
   exact ⟨_, rfl, (HS5.out.grown HL.gr (by rintro g e; cases e; omega)).mono HQ4.out.fm.fb.bel.size, HL.below HQ5.out.fm.fb.bel HQ5.out.fm.fb.bel.size (by omega)⟩
set_option maxHeartbeats 4000000 in
theorem eqI_any (w : World) (v u : Value) (xs ys : List Int) (hv : SI w v xs) (hu : SI w u ys) : Calls Tryz.prog 128 #[v, u] w (RetB w (decide (xs = ys))) := by
 obtain ⟨A, c, rfl, hv⟩ := hv
 obtain ⟨B, d, rfl, hu⟩ := hu
 have hn := hv.len; have hm := hu.len
 have HV := Lib.hid hv; have HU := Lib.hid hu; clear hv hu
 by_cases hl : xs.length = ys.length
 ·have hb : ((xs.length : Int) != (ys.length : Int)) = false := by rw [bne_eq_false_iff_eq]; omega
  have HL := Lib.hid hl
  obtain ⟨n, hnn⟩ : ∃ n, n = xs.length := ⟨_, rfl⟩
  rw [← hnn] at hb hn ⊢
  have HN := Lib.hid hnn; clear hnn
  obtain ⟨m, hmm⟩ : ∃ m, m = ys.length := ⟨_, rfl⟩
  rw [← hmm] at hb hm ⊢
  have HMM := Lib.hid hmm; clear hmm
  have hnm : m = n := by rw [HMM.out, HN.out, HL.out]
  subst hnm
  clear hl
  go_enter Tryz.func128, Tryz.ntmps128
  go_wp2_with fail
  go_loopw [13] (fun i wr => ∃ k : Nat, k ≤ m ∧ i = .int .i64 (k : Int) ∧ Hid (∀ j, j < k → xs.getD j 0 = ys.getD j 0) ∧ Hid (Below w.heap.size w wr)) (fun i _ => m - (intOf i).toNat)
  case atStart => exact ⟨0, Nat.zero_le _, rfl, hid' fun j hj => absurd hj (Nat.not_lt_zero _), bl_refl _⟩
  case round =>
   obtain ⟨k, hk, rfl, HK, HB⟩ := hrel
   by_cases hlt : k < m
   ·obtain ⟨ad, x, rfl, hc, _, HX⟩ := (HV.out.below HB.out (Nat.le_refl _)).elt (k := k) (by rw [← HN.out]; exact hlt)
    obtain ⟨bd, y, rfl, hd, _, HY⟩ := (HU.out.below HB.out (Nat.le_refl _)).elt (k := k) (by rw [← HMM.out]; exact hlt)
    by_cases hx : x = y
    ·have hbn : (x != y) = false := by rw [bne_eq_false_iff_eq]; exact hx
     have HXY := Lib.hid hx; clear hx
     go_wp2_with fail
     go_quiet (fail)
     go_wp2_with fail
     exact ⟨⟨k + 1, by omega, by push_cast; rfl, hid' (fun j hj => by
      by_cases e : j = k
      ·subst e; rw [HX.out, HY.out, HXY.out]
      ·exact HK.out j (by omega)), bl_trans HB.out (bl_drewN _ _)⟩, by simp only [intOf]; omega⟩
    ·have hbn : (x != y) = true := by rw [bne_iff_ne]; exact hx
     have HE : Hid (decide (xs = ys) = false) := by
      show _ = _
      rw [decide_eq_false_iff_not]
      intro e
      rw [e, HY.out] at HX
      exact hx HX.out.symm
     clear hx
     go_wp2_with fail
     go_quiet (fail)
     go_wp2_with fail
     go_ret
     exact ⟨by rw [HE.out]; rfl, bl_trans HB.out (bl_drewN _ _)⟩
   ·obtain rfl : m = k := by omega
    have HE : Hid (decide (xs = ys) = true) := by
     show _ = _
     rw [decide_eq_true_eq]
     exact ext_getD HL.out fun j hj => HK.out j (by rw [HN.out]; exact hj)
    go_wp2_with fail
    go_ret
    exact ⟨by rw [HE.out]; rfl, HB.out⟩
 ·have hb : ((xs.length : Int) != (ys.length : Int)) = true := by rw [bne_iff_ne]; omega
  have HE : Hid (decide (xs = ys) = false) := by
   show _ = _
   rw [decide_eq_false_iff_not]
   intro e
   exact hl (by rw [e])
  clear hl
  go_enter Tryz.func128, Tryz.ntmps128
  go_wp2_with fail
  go_ret
  exact ⟨by rw [HE.out]; rfl, bl_refl _⟩
set_option maxHeartbeats 4000000 in
theorem eqF_any (w : World) (v u : Value) (xs ys : List (List Int)) (hv : SS w v xs) (hu : SS w u ys) :
  Calls Tryz.prog 127 #[v, u, .func (.func 128) #[] #[]] w (RetB w (decide (xs = ys))) := by
 obtain ⟨A, c, rfl, hv⟩ := hv
 obtain ⟨B, d, rfl, hu⟩ := hu
 have hn := hv.len; have hm := hu.len
 have HV := Lib.hid (show SS w (.slice A xs.length c) xs from ⟨A, c, rfl, hv⟩); have HU := Lib.hid (show SS w (.slice B ys.length d) ys from ⟨B, d, rfl, hu⟩); clear hv hu
 by_cases hl : xs.length = ys.length
 ·have hb : ((xs.length : Int) != (ys.length : Int)) = false := by rw [bne_eq_false_iff_eq]; omega
  have HL := Lib.hid hl
  obtain ⟨n, hnn⟩ : ∃ n, n = xs.length := ⟨_, rfl⟩
  rw [← hnn] at hb hn HV ⊢
  have HN := Lib.hid hnn; clear hnn
  obtain ⟨m, hmm⟩ : ∃ m, m = ys.length := ⟨_, rfl⟩
  rw [← hmm] at hb hm HU ⊢
  have HMM := Lib.hid hmm; clear hmm
  have hnm : m = n := by rw [HMM.out, HN.out, HL.out]
  subst hnm
  clear hl
  go_enter Tryz.func127, Tryz.ntmps127
  go_wp2_with fail
  go_loopw [17] (fun i wr => ∃ k : Nat, k ≤ m ∧ i = .int .i64 (k : Int) ∧ Hid (∀ j, j < k → xs.getD j [] = ys.getD j []) ∧ Hid (Below w.heap.size w wr)) (fun i _ => m - (intOf i).toNat)
  case atStart => exact ⟨0, Nat.zero_le _, rfl, hid' fun j hj => absurd hj (Nat.not_lt_zero _), bl_refl _⟩
  case round =>
   obtain ⟨k, hk, rfl, HK, HB⟩ := hrel
   by_cases hlt : k < m
   ·obtain ⟨ad, Ak, ck, x, rfl, hc, HX, HXE⟩ := (HV.out.below HB.out (Nat.le_refl _)).eltA (k := k) (by rw [← HN.out]; exact hlt)
    obtain ⟨bd, Bk, dk, y, rfl, hd, HY, HYE⟩ := (HU.out.below HB.out (Nat.le_refl _)).eltA (k := k) (by rw [← HMM.out]; exact hlt)
    go_wp2_with fail
    refine (eqI_any _ _ _ x y HX.out.si HY.out.si).mono ?_
    rintro e w1 ⟨rfl, hb1⟩
    have HB1 := Lib.hid (bl_trans HB.out hb1); clear hb1
    by_cases hx : x = y
    ·rw [show decide (x = y) = true from decide_eq_true hx]
     have HXY := Lib.hid hx; clear hx
     go_wp2_with fail
     exact ⟨⟨k + 1, by omega, by push_cast; rfl, hid' (fun j hj => by
      by_cases e : j = k
      ·subst e; rw [HXE.out, HYE.out, HXY.out]
      ·exact HK.out j (by omega)), HB1⟩, by simp only [intOf]; omega⟩
    ·rw [show decide (x = y) = false from decide_eq_false hx]
     have HE : Hid (decide (xs = ys) = false) := by
      show _ = _
      rw [decide_eq_false_iff_not]
      intro e
      rw [e, HYE.out] at HXE
      exact hx HXE.out.symm
     clear hx
     go_wp2_with fail
     go_ret
     exact ⟨by rw [HE.out]; rfl, HB1.out⟩
   ·obtain rfl : m = k := by omega
    have HE : Hid (decide (xs = ys) = true) := by
     show _ = _
     rw [decide_eq_true_eq]
     exact ext_rows HL.out fun j hj => HK.out j (by rw [HN.out]; exact hj)
    go_wp2_with fail
    go_ret
    exact ⟨by rw [HE.out]; rfl, HB.out⟩
 ·have hb : ((xs.length : Int) != (ys.length : Int)) = true := by rw [bne_iff_ne]; omega
  have HE : Hid (decide (xs = ys) = false) := by
   show _ = _
   rw [decide_eq_false_iff_not]
   intro e
   exact hl (by rw [e])
  clear hl
  go_enter Tryz.func127, Tryz.ntmps127
  go_wp2_with fail
  go_ret
  exact ⟨by rw [HE.out]; rfl, bl_refl _⟩
set_option maxHeartbeats 4000000 in
theorem zero1_any (w : World) (x : Int) : Calls Tryz.prog 131 #[.int .i64 x] w (fun e w' => e = .returned (.bool (x != 0)) ∧ w = w') := by
 go_enter Tryz.func131, Tryz.ntmps131
 go_wp2_with fail
 go_ret
 exact ⟨rfl, rfl⟩
set_option maxHeartbeats 4000000 in
theorem indexZ_any (w : World) (v : Value) (xs : List Int) (hv : SI w v xs) : Calls Tryz.prog 122 #[v, .func (.func 131) #[] #[]] w (fun e w' => ∃ z, e = .returned (.int .i64 z) ∧ decide (0 ≤ z) = (xs.any fun x => x != 0) ∧ w = w') := by
 obtain ⟨A, c, rfl, hv⟩ := hv
 have hn := hv.len
 have HV := Lib.hid hv; clear hv
 go_enter Tryz.func122, Tryz.ntmps122
 go_wp2_with fail
 go_loop [8] (fun i => ∃ k : Nat, k ≤ xs.length ∧ i = .int .i64 (k : Int) ∧ Hid (∀ j, j < k → xs.getD j 0 = 0)) (fun i => xs.length - (intOf i).toNat)
 case atStart => exact ⟨0, Nat.zero_le _, rfl, hid' fun j hj => absurd hj (Nat.not_lt_zero _)⟩
 case round =>
   obtain ⟨k, hk, rfl, HK⟩ := hrel
   by_cases hlt : k < xs.length
   · obtain ⟨ad, x, rfl, hc, _, HX⟩ := HV.out.elt hlt
     go_wp2_with fail
     refine (zero1_any _ x).mono ?_
     rintro e w1 ⟨rfl, rfl⟩
     by_cases hx : x = 0
     · rw [show (x != 0) = false by rw [bne_eq_false_iff_eq]; exact hx]
       have HXX := Lib.hid hx; clear hx
       go_wp2_with fail
       go_round
       case rel => exact ⟨k + 1, by omega, by go_num, hid' fun j hj => by
         by_cases e : j = k
         · subst e; rw [HX.out, HXX.out]
         · exact HK.out j (by omega)⟩
       case measure => simp [intOf]; omega
     · rw [show (x != 0) = true by rw [bne_iff_ne]; exact hx]
       have HE : Hid ((xs.any fun x => x != 0) = true) := by
         show _ = _
         rw [List.any_eq_true]
         exact ⟨xs.getD k 0, by rw [List.getD_eq_getElem?_getD, List.getElem?_eq_getElem hlt]; exact List.getElem_mem hlt, by rw [bne_iff_ne, HX.out]; exact hx⟩
       clear hx
       go_wp2_with fail
       go_ret
       exact ⟨_, rfl, by rw [HE.out, decide_eq_true_eq]; show (0 : Int) ≤ (k : Int); omega, rfl⟩
   · have HE : Hid ((xs.any fun x => x != 0) = false) := by
       show _ = _
       rw [List.any_eq_false]
       intro x hx e
       rw [bne_iff_ne] at e
       obtain ⟨j, hj, rfl⟩ := List.mem_iff_getElem.1 hx
       refine e ?_
       have := HK.out j (by omega)
       rw [List.getD_eq_getElem?_getD, List.getElem?_eq_getElem hj] at this
       exact this
     go_wp2_with fail
     go_ret
     exact ⟨_, rfl, by rw [HE.out]; rfl, rfl⟩
theorem all_any (xs : List Int) : (xs.all (· == 0)) = !(xs.any fun x => x != 0) := by
 induction xs with
 | nil => rfl
 | cons x xs ih => simp [ih]; cases h : (x == 0) <;> simp_all
set_option maxHeartbeats 4000000 in
theorem szero_any (w : World) (v : Value) (xs : List Int) (hv : SI w v xs) : Calls Tryz.prog 109 #[v] w (fun e w' => e = .returned (.bool (xs.all (· == 0))) ∧ w = w') := by
 have HC : ∀ w', SI w' v xs → Calls Tryz.prog 92 #[v, .func (.func 131) #[] #[]] w' (fun e w'' => e = .returned (.bool (xs.any fun x => x != 0)) ∧ w' = w'') := fun w' h => by
  have HV := Lib.hid h; clear h
  go_enter Tryz.func92, Tryz.ntmps92
  go_wp2_with fail
  refine (indexZ_any _ v xs HV.out).mono ?_
  rintro e w1 ⟨z, rfl, hz, rfl⟩
  have HZ := Lib.hid hz; clear hz
  go_wp2_with fail
  go_ret
  exact ⟨by rw [← HZ.out]; rfl, rfl⟩
 have HCC := Lib.hid HC; clear HC
 have HV := Lib.hid hv; clear hv
 go_enter Tryz.func109, Tryz.ntmps109
 go_wp2_with fail
 refine (HCC.out _ HV.out).mono ?_
 rintro e w1 ⟨rfl, rfl⟩
 go_wp2_with fail
 go_ret
 exact ⟨by rw [all_any]; rfl, rfl⟩
end Go.Proofs.YtlofhnmpbpjigaaGreat
