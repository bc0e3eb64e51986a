/- Texts of a claim, merged: words, plain facts and walks that the last of its texts uses. -/
import Derived.Test.YtodgdoglhecolaaGreatZA2
import Derived.Test.YtodgdoglhecolaaGreatZA3
import Derived.Test.YtodgdoglhecolaaGreatZA6
import Derived.Test.YtodgdoglhecolaaGreatZA7
import Derived.Test.YtodgdoglhecolaaGreatZA8
set_option linter.unusedSimpArgs false
set_option linter.unusedVariables false

namespace Go.Proofs.YtodgdoglhecolaaGreat
open Go.RowKit
set_option maxRecDepth 100000
def RetLI (w : World) (xss : List (List Int)) (ys : List Int) (e : Ending) (w' : World) : Prop := ∃ u1 u2, e = .returned (.tuple #[u1, u2]) ∧ Sep w.heap.size w' (fun w2 => SS w2 u1 xss) ∧ OS w.heap.size (fun g => g < w.heap.size) w' u1 xss ∧ OI w.heap.size w' u2 ys ∧ Below w.heap.size w w'
theorem OS.takeN {B : Nat} {X : Nat → Prop} {w : World} {A : Option Addr} {n c : Nat} {l : List (List Int)} (h : OS B X w (.slice A n c) l) {k : Nat} (hk : k ≤ l.length) : OS B X w (.slice A k c) (l.take k) := by
 obtain ⟨us, ho, hi⟩ := h
 have hul : us.length = l.length := by have := ho.1; omega
 have hl : (l.take k).length = k := by rw [List.length_take]; omega
 have hob : ∀ g, (Value.slice A k c).ownBlock = some g → (Value.slice A n c).ownBlock = some g := fun g hg => by
  cases A with
  | none => simp [Value.ownBlock] at hg
  | some ad => simpa [Value.ownBlock] using hg
 refine ⟨us.take k, ⟨by rw [hl, List.length_take]; omega, ?_⟩, fun i hi' => ?_⟩
 ·rcases ho.2 with ⟨e, h0⟩ | ⟨g, cap, cur, e, hg, hc, hn, hm, hs, ht⟩
  ·injection e with e1 e2 e3
   subst e1 e3
   refine .inl ⟨?_, by rw [hl]; omega⟩
   rw [show k = 0 by omega]
  ·injection e with e1 e2 e3
   subst e1 e3
   refine .inr ⟨g, c, cur, by rw [hl], hg, hc, by rw [hl]; omega, hm, hs, ?_⟩
   rw [← ht, List.take_take, hl, Nat.min_eq_left (by omega), Nat.mul_one]
 ·rw [hl] at hi'
  obtain ⟨y, hy, hs, hx⟩ := hi i (by omega)
  have hgd : (l.take k).getD i [] = l.getD i [] := by simp [List.getD, List.getElem?_take, hi']
  rw [hgd]
  exact ⟨y, by rw [List.getElem?_take, if_pos hi']; exact hy, hs, fun h0 g' hg' => ⟨fun e => (hx h0 g' hg').1 (hob g' e), (hx h0 g' hg').2⟩⟩
theorem SS.takeN {w : World} {A : Option Addr} {n c : Nat} {xss : List (List Int)} (h : SS w (.slice A n c) xss) {k : Nat} (hk : k ≤ xss.length) : SS w (.slice A k c) (xss.take k) := by
 obtain ⟨A', c', e, h⟩ := h
 injection e with e1 e2 e3
 subst e1 e3
 have hl : (xss.take k).length = k := by rw [List.length_take]; omega
 refine ⟨A, c, by rw [hl], by have := h.len; omega, by have := h.cap; omega, fun j hj => ?_⟩
 rw [hl] at hj
 obtain ⟨ad, u, e, hc, hs⟩ := h.cell j (by omega)
 exact ⟨ad, u, e, hc, by rw [show (xss.take k).getD j [] = xss.getD j [] by simp [List.getD, List.getElem?_take, hj]]; exact hs⟩
set_option maxHeartbeats 4000000 in
theorem rCanon_any (w : World) (P M : Int) (cols L : Nat) (mv v : Value) (Mod : List Int) (rows : List (List Int)) (hm : SI w mv Mod) (hv : SS w v rows) (ho : orderF P M ≠ 0) (hmod : ModP P M Mod)
  (hR : Rows (orderF P M) L rows) (hcL : cols ≤ L) (hL : L ≤ 100000) (hn : rows.length ≤ 100000) :
  Calls Tryz.prog 60 #[.agg #[.int .i64 P, .int .i64 M, mv], v, .int .i64 (cols : Int)] w (RetLI w (canonL (refOps P M Mod) rows cols) (pivL (refOps P M Mod) rows cols)) := by
 have HEL := Lib.hid (fun w' (hb : Below w.heap.size w w') => rElim_any w' P M cols L mv v Mod rows (hm.below hb (Nat.le_refl _)) (hv.below hb (Nat.le_refl _)) ho hmod hR hcL hL hn)
 have hp := elimTo_piv (refOps P M Mod) rows cols
 have hl := elimTo_len (refOps P M Mod) rows cols
 have HCE : Hid (canonL (refOps P M Mod) rows cols = (elimTo (refOps P M Mod) rows cols).1.take (elimTo (refOps P M Mod) rows cols).2.length ∧ pivL (refOps P M Mod) rows cols = (elimTo (refOps P M Mod) rows cols).2) := ⟨rfl, rfl⟩
 obtain ⟨l, hle⟩ : ∃ l, l = (elimTo (refOps P M Mod) rows cols).1 := ⟨_, rfl⟩
 obtain ⟨piv, hpe⟩ : ∃ piv, piv = (elimTo (refOps P M Mod) rows cols).2 := ⟨_, rfl⟩
 rw [← hle] at hl HCE
 rw [← hpe] at hp HCE
 have HLE := Lib.hid hle; have HPE := Lib.hid hpe; clear hle hpe
 obtain ⟨n, hnn⟩ : ∃ n, n = l.length := ⟨_, rfl⟩
 obtain ⟨r, hrr⟩ : ∃ r, r = piv.length := ⟨_, rfl⟩
 have hrn : r ≤ n := by omega
 have hn2 : n ≤ 100000 := by omega
 have HN := Lib.hid hnn; have HR2 := Lib.hid hrr; clear hnn hrr hl hp hm hv ho hmod hR hcL hL hn
 go_enter Tryz.func60, Tryz.ntmps60
 go_wp2_with fail
 refine (HEL.out _ (bl_alloc _ _)).mono ?_
 rintro e w1 ⟨u1, u2, rfl, h1, h2, hb1⟩
 rw [← HLE.out] at h1
 rw [← HPE.out] at h2
 obtain ⟨A1, c1, rfl⟩ := h1.form
 obtain ⟨A2, c2, rfl⟩ := h2.form'
 have hnew : OS w.heap.size (fun g => g < w.heap.size) w1 (.slice A1 l.length c1) l := (h1.names (fun g _ hg => by rw [World.size_alloc]; omega)).mono (by rw [World.size_alloc]; omega)
 have hss := h1.ss (by rw [← HN.out]; omega)
 have hsep := (h1.sep (fun g hg => hg) (by rw [← HN.out]; omega)).mono (B' := w.heap.size) (by rw [World.size_alloc]; omega)
 have hcap : l.length ≤ c1 := by obtain ⟨_, _, e, hs⟩ := hss; injection e with e1 e2 e3; rw [e3]; exact hs.cap
 rw [← HN.out] at hss hsep hnew hcap ⊢
 rw [← HR2.out] at h2 ⊢
 have HSS := Lib.hid hsep; have HNEW := Lib.hid hnew; have H2 := Lib.hid h2
 have HB := Lib.hid (bl_trans (bl_alloc _ _) hb1)
 clear hss hsep hnew h1 h2 hb1
 have hrc : r ≤ c1 := by omega
 go_wp2_with fail
 go_ret2
 have hsz : w.heap.size ≤ (w.alloc (.cells #[.int .i64 P, .int .i64 M, mv] 24)).heap.size := by rw [World.size_alloc]; omega
 rw [HCE.out.2]
 refine ⟨.slice A1 r c1, .slice A2 r c2, rfl, ?_, ?_, H2.out.mono hsz, HB.out⟩
 ·rw [HCE.out.1, ← HR2.out]
  exact HSS.out.imp fun w2 h => h.takeN (by rw [← HN.out]; exact hrn)
 ·rw [HCE.out.1, ← HR2.out]
  exact HNEW.out.takeN (by rw [← HN.out]; exact hrn)
def SSb (P : Nat → Prop) (w : World) (v : Value) (xss : List (List Int)) : Prop :=
 ∃ A c, v = .slice A xss.length c ∧ xss.length ≤ 17592186044416 ∧ xss.length ≤ c ∧ ∀ k, k < xss.length → ∃ ad u, A = some ad ∧ P ad.block ∧ w.cell? (ad.add k) = some u ∧ SI w u (xss.getD k []) ∧ (0 < (xss.getD k []).length → ∀ g, u.ownBlock = some g → P g)
section
variable {P Q : Nat → Prop} {w w' : World} {v : Value} {xss : List (List Int)}
theorem SSb.ss (h : SSb P w v xss) : SS w v xss := by
 obtain ⟨A, c, rfl, h1, h2, h3⟩ := h
 exact ⟨A, c, rfl, h1, h2, fun k hk => by
  obtain ⟨ad, u, e, _, hc, hs, _⟩ := h3 k hk
  exact ⟨ad, u, e, hc, hs⟩⟩
theorem SSb.imp (h : SSb P w v xss) (k : ∀ g, P g → g < w.heap.size → Q g) : SSb Q w v xss := by
 obtain ⟨A, c, rfl, h1, h2, h3⟩ := h
 refine ⟨A, c, rfl, h1, h2, fun j hj => ?_⟩
 obtain ⟨ad, u, e, hp, hc, hs, hu⟩ := h3 j hj
 have hlt := World.block_lt_of_cell? _ _ hc
 rw [block_of_add] at hlt
 exact ⟨ad, u, e, k _ hp hlt, hc, hs, fun h0 g hg => k g (hu h0 g hg) (hs.lt h0 hg)⟩
theorem SSb.nil : SSb P w (.slice none 0 0) [] := ⟨none, 0, rfl, by simp, by simp, fun k hk => absurd hk (by simp)⟩
theorem SS.ssb (h : SS w v xss) : SSb (fun g => g < w.heap.size) w v xss := by
 obtain ⟨A, c, rfl, h⟩ := h
 refine ⟨A, c, rfl, h.len, h.cap, fun j hj => ?_⟩
 obtain ⟨ad, u, e, hc, hs⟩ := h.cell j hj
 have hlt := World.block_lt_of_cell? _ _ hc
 rw [block_of_add] at hlt
 exact ⟨ad, u, e, hlt, hc, hs, fun h0 g hg => hs.lt h0 hg⟩
theorem SSb.grown {row : Option Nat} (h : SSb P w v xss) (hg : w.grownBy w' row) (hn : ∀ g, row = some g → ¬ P g) : SSb P w' v xss := by
 obtain ⟨A, c, rfl, h1, h2, h3⟩ := h
 refine ⟨A, c, rfl, h1, h2, fun j hj => ?_⟩
 obtain ⟨ad, u, e, hp, hc, hs, hu⟩ := h3 j hj
 have hlt := World.block_lt_of_cell? _ _ hc
 refine ⟨ad, u, e, hp, ?_, hs.grown hg (fun h0 g hg' e2 => hn g e2 (hu h0 g hg')), hu⟩
 rw [World.cell?_of_block (w := w) (hg.block _ hlt (fun e2 => hn _ e2.symm (by rw [block_of_add]; exact hp)))]
 exact hc
theorem SSb.below (h : SSb P w v xss) (hb : Below w.heap.size w w') : SSb P w' v xss := h.grown (gr_below hb none) fun g e => by cases e
theorem OS.ssb {B : Nat} {X : Nat → Prop} (h : OS B X w v xss) (hl : xss.length ≤ 17592186044416) (hX : ∀ g, g < B → X g) : SSb (fun g => B ≤ g) w v xss := by
 have hlt := fun g => h.lt (g := g)
 obtain ⟨us, ho, hi⟩ := h
 rcases ho.2 with ⟨rfl, h0⟩ | ⟨g, cap, cur, rfl, hb, hgg, hn, _, _, _⟩
 ·obtain rfl : xss = [] := List.eq_nil_of_length_eq_zero h0
  exact SSb.nil
 ·refine ⟨some ⟨g, 0, none⟩, cap, rfl, hl, hn, fun k hk => ?_⟩
  obtain ⟨u, hu, hs, hx⟩ := hi k hk
  refine ⟨_, u, rfl, hb, World.ownsRow.cells ho (g := g) rfl k u hu, hs, fun h0 g' hg' => ?_⟩
  rcases Nat.lt_or_ge g' B with h1 | h1
  ·exact absurd (hX g' h1) (hx h0 g' hg').2
  ·exact h1
theorem SSb.takeC {A : Option Addr} {n c : Nat} (h : SSb P w (.slice A n c) xss) {k : Nat} (hk : k ≤ xss.length) : SSb P w (.slice A k k) (xss.take k) := by
 obtain ⟨A', c', e, h1, h2, h3⟩ := h
 injection e with e1 e2 e3
 subst e1
 have hl : (xss.take k).length = k := by rw [List.length_take]; omega
 refine ⟨A, k, by rw [hl], by omega, by omega, fun j hj => ?_⟩
 rw [hl] at hj
 have e4 : (xss.take k).getD j [] = xss.getD j [] := by simp [List.getD, List.getElem?_take, hj]
 rw [e4]
 exact h3 j (by omega)
end
theorem elimTo_nil (O : FOps) : ∀ c, elimTo O [] c = ([], [])
 | 0 => rfl
 | c + 1 => by rw [elimTo, elimTo_nil O c]; rfl
theorem melim_any (w0 w : World) (A : Nat) (P M : Int) (cols L : Nat) (Mod : List Int) (v : Value) (rows : List (List Int)) (hG : GF w0 A P M Mod) (hOM : OM w0.heap.size (fun g => g < w0.heap.size) w v rows)
   (hb : Below w0.heap.size w0 w) (hR : Rows (orderF P M) L rows) (hcL : cols ≤ L) (hL : L ≤ 100000) (hn2 : rows.length ≤ 100000) :
   Calls Tryz.prog 143 #[.pointer (some ⟨A, 0, none⟩), v, .int .i64 (cols : Int), .slice none 0 0] w
     (RetEI w0 v (elimTo (refOps P M Mod) rows cols).1 (elimTo (refOps P M Mod) rows cols).2) := by
 rcases Nat.eq_zero_or_pos rows.length with h0 | h0
 · obtain rfl := List.eq_nil_of_length_eq_zero h0
   obtain ⟨AA, c, rfl⟩ := hOM.form
   rw [elimTo_nil]
   exact melim_nil w0 w A P M Mod cols AA c hOM hb
 · obtain ⟨g, c, rfl, _, _⟩ := hOM.formP h0
   exact melim_cons w0 w A P M cols L rows.length g c Mod rows hG hOM rfl h0 hb hR hcL hL hn2
theorem SS.takeC {w : World} {A : Option Addr} {n c : Nat} {xss : List (List Int)} (h : SS w (.slice A n c) xss) {k : Nat} (hk : k ≤ xss.length) : SS w (.slice A k k) (xss.take k) := by
 obtain ⟨A', c', e, h⟩ := h
 injection e with e1 e2 e3
 subst e1
 have hl : (xss.take k).length = k := by rw [List.length_take]; omega
 refine ⟨A, k, by rw [hl], by have := h.len; omega, by omega, fun j hj => ?_⟩
 rw [hl] at hj
 obtain ⟨ad, u, e, hc, hs⟩ := h.cell j (by omega)
 refine ⟨ad, u, e, hc, ?_⟩
 rwa [show (xss.take k).getD j [] = xss.getD j [] by simp [List.getD, List.getElem?_take, hj]]
theorem SS.capLe {w : World} {A : Option Addr} {n c : Nat} {xss : List (List Int)} (h : SS w (.slice A n c) xss) : n = xss.length ∧ xss.length ≤ c := by
 obtain ⟨A', c', e, h⟩ := h
 injection e with e1 e2 e3
 exact ⟨e2, by have := h.cap; omega⟩
def RetCan (w : World) (xss : List (List Int)) (ys : List Int) (e : Ending) (w' : World) : Prop :=
 ∃ AA U c, e = .returned (.tuple #[.slice AA xss.length xss.length, .slice U ys.length c]) ∧ Sep w.heap.size w' (fun w2 => SS w2 (.slice AA xss.length xss.length) xss ∧ SI w2 (.slice U ys.length c) ys) ∧ SSb (fun g => w.heap.size ≤ g) w' (.slice AA xss.length xss.length) xss ∧ Below w.heap.size w w'
set_option maxHeartbeats 8000000 in
theorem mcanon_any (w : World) (A : Nat) (P M : Int) (n : Nat) (Mod : List Int) (v : Value) (rows : List (List Int)) (hG : GF w A P M Mod) (hv : SS w v rows) (hR : Rows (orderF P M) n rows) (hL : n ≤ 100000) (hn : rows.length ≤ 100000) :
  Calls Tryz.prog 110 #[.pointer (some ⟨A, 0, none⟩), v, .int .i64 (n : Int)] w (RetCan w (canonL (refOps P M Mod) rows n) (pivL (refOps P M Mod) rows n)) := by
 have HG := Lib.hid hG; have HV := Lib.hid hv; have HR := Lib.hid hR
 have hf := hG.fld
 have HLT := Lib.hid (refOps_lt hf.1 Mod)
 have hob := orderF_bounds P M
 have HRR := Lib.hid (canon_rref (ref_fld hf) hR).1
 have HER := Lib.hid (Rows.elim HLT.out hR n)
 have hel := elimTo_len (refOps P M Mod) rows n
 have hep := (elimTo_piv (refOps P M Mod) rows n)
 have HCN : Hid (canonL (refOps P M Mod) rows n = (elimTo (refOps P M Mod) rows n).1.take (elimTo (refOps P M Mod) rows n).2.length) := rfl
 have HPV : Hid (pivL (refOps P M Mod) rows n = (elimTo (refOps P M Mod) rows n).2) := rfl
 clear hG hv hR
 go_enter Tryz.func110, Tryz.ntmps110
 go_wp2_with fail
 refine (mclone_any _ v rows HV.out hn).mono ?_
 rintro e w1 ⟨u, rfl, ho, hb⟩
 have HO := Lib.hid ho; have HB := Lib.hid hb; clear ho hb
 go_wp2_with fail
 refine (melim_any w w1 A P M n n Mod u rows HG.out HO.out HB.out HR.out (Nat.le_refl _) hL hn).mono ?_
 rintro e w2 ⟨U, d, rfl, ho, hi, hb⟩
 generalize (elimTo (refOps P M Mod) rows n).1 = l at *
 generalize (elimTo (refOps P M Mod) rows n).2 = p at *
 obtain ⟨AA, c, rfl⟩ := ho.form
 have hos := ho.os (fun j hj => by
  have h := HER.out j hj
  exact ⟨by rw [h.1]; omega, fun k => by have := h.2 k; exact I64.of_small (by omega) (by omega)⟩)
 have hsep := hos.sep (fun g hg => .inl hg) (by omega)
 have hssb := hos.ssb (by omega) (fun g hg => .inl hg)
 obtain ⟨_, hcap⟩ := hsep.out.capLe
 obtain ⟨UA, uc, rfl⟩ := hi.form'
 have hpl : p.length ≤ l.length := by omega
 have HS := Lib.hid (hsep.imp fun _ h => h.takeC hpl)
 have HSB := Lib.hid (hssb.takeC hpl)
 have HP : Hid (Sep w.heap.size w2 fun w2 => SI w2 (.slice UA p.length uc) p) := hid' (hi.sep (by omega) (fun k => by
  by_cases hk : k < p.length
  ·have hA : (canonL (refOps P M Mod) rows n).length = p.length := by rw [HCN.out, List.length_take]; omega
   have h1 := HRR.out.nn k (by omega)
   have h2 := HRR.out.lt k (by omega)
   rw [HPV.out] at h1 h2
   rw [h1]
   exact I64.of_small (by omega) (by omega)
  ·rw [getD_len (by omega)]; exact I64.zero))
 have HB2 := Lib.hid hb
 have HTL : Hid ((l.take p.length).length = p.length) := by show _ = _; rw [List.length_take]; omega
 clear ho hi hb hos hsep hssb
 clear HRR
 go_wp2_with fail
 go_ret2
 rw [HCN.out, HPV.out]
 refine ⟨AA, UA, uc, ?_, ?_, ?_, HB2.out⟩
 ·rw [HTL.out]; rfl
 ·rw [HTL.out]; exact HS.out.and HP.out
 ·rw [HTL.out]; exact HSB.out
set_option maxHeartbeats 8000000 in
theorem mopen_fno (w : World) (P M : Int) (mv lv : Value) (Mod : List Int) (hm : SI w mv Mod) (hf : ¬ FieldP P M Mod) :
  Calls Tryz.prog 109 #[.agg #[.int .i64 P, .int .i64 M, mv], lv] w (RetG0 w) := by
 have HM := Lib.hid hm; clear hm
 have HF := Lib.hid (FBox.mk' w P M mv)
 go_enter Tryz.func109, Tryz.ntmps109
 go_wp2_with fail
 generalize hw0 : w.alloc (.cells #[.int .i64 P, .int .i64 M, mv] 24) = w0 at *
 have c0 := HF.out.c0; have c1 := HF.out.c1; have c2 := HF.out.c2
 go_wp2_with fail
 refine (new_no _ P M mv Mod (HM.out.below HF.out.bel (Nat.le_refl _)) hf).mono ?_
 rintro e w1 ⟨rfl, hb1⟩
 have HB1 := Lib.hid (bl_trans HF.out.bel hb1); clear hb1
 go_wp2_with fail
 go_ret2
 exact ⟨rfl, HB1.out⟩
def RetGE (w : World) (P M : Int) (Mod : List Int) (er : Int) (e : Ending) (w' : World) : Prop :=
 (er = 0 → RetG w P M Mod e w') ∧ (er ≠ 0 → e = .returned (.tuple #[.pointer none, .int .i64 er]) ∧ Below w.heap.size w w')
set_option maxHeartbeats 8000000 in
theorem mopen1_any (w : World) (P M cols : Int) (mv rv : Value) (gl : Nat) (Mod : List Int) (rows : List (List Int)) (hm : SI w mv Mod) (hv : SS w rv rows) (hf : FieldP P M Mod)
  (hl0 : w.cell? ⟨gl, 0, none⟩ = some (.int .i64 cols)) (hl1 : w.cell? ⟨gl, 1, none⟩ = some rv) :
  Calls Tryz.prog 109 #[.agg #[.int .i64 P, .int .i64 M, mv], .slice (some ⟨gl, 0, none⟩) 1 1] w (RetGE w P M Mod (chkE (orderF P M) cols rows)) := by
 have HM := Lib.hid hm; have HV := Lib.hid hv; clear hm hv
 obtain ⟨RA, rc, rfl, _⟩ := HV.out
 have HF := Lib.hid (FBox.mk' w P M mv)
 have HL0 := Lib.hid hl0; have HL1 := Lib.hid hl1; clear hl0 hl1
 go_enter Tryz.func109, Tryz.ntmps109
 go_wp2_with fail
 generalize hw0 : w.alloc (.cells #[.int .i64 P, .int .i64 M, mv] 24) = w0 at *
 have c0 := HF.out.c0; have c1 := HF.out.c1; have c2 := HF.out.c2
 go_wp2_with fail
 refine (new_ok _ P M mv Mod (HM.out.below HF.out.bel (Nat.le_refl _)) hf).mono ?_
 rintro e w1 ⟨a, rfl, hg1, hb1⟩
 have HG1 := Lib.hid (hg1.mono HF.out.bel.size)
 have HB1 := Lib.hid (bl_trans HF.out.bel hb1); clear hb1 hg1 c0 c1 c2
 go_wp2_with fail
 go_loopw [20] (fun i wr => (i = .int .i64 0 ∧ Hid (wr = w1)) ∨ (i = .int .i64 1 ∧ Hid (chkE (orderF P M) cols rows = 0) ∧ Hid (Below w1.heap.size w1 wr))) (fun i _ => (1 - intOf i).toNat)
 case atStart => exact .inl ⟨rfl, rfl⟩
 case round =>
  rcases hrel with ⟨rfl, HW⟩ | ⟨rfl, HC, HW⟩
  ·obtain rfl := HW.out
   have d0 := cell_below HB1.out HL0.out
   have d1 := cell_below HB1.out HL1.out
   have HBA := Lib.hid (bl_alloc wr (.cells #[.int .i64 cols, .slice RA rows.length rc] 27))
   go_wp2_with fail
   refine (mcheck_any _ a P M cols Mod _ rows (HG1.out.on HBA.out).out ((HV.out.below HB1.out (Nat.le_refl _)).below HBA.out (Nat.le_refl _))).mono ?_
   rintro e w3 ⟨rfl, hb3⟩
   have HB3 := Lib.hid (bl_trans HBA.out hb3); clear hb3 HBA d0 d1
   by_cases hc : chkE (orderF P M) cols rows = 0
   ·rw [hc]
    have HC := Lib.hid hc; clear hc
    go_wp2_with fail
    exact ⟨.inr ⟨rfl, HC, HB3⟩, by simp only [intOf]; omega⟩
   ·have hb : (chkE (orderF P M) cols rows != 0) = true := by rw [bne_iff_ne]; exact hc
    have HC := Lib.hid hc; clear hc
    go_wp2_with fail
    go_ret2
    exact ⟨fun h => absurd h HC.out, fun _ => ⟨rfl, bl_trans HB1.out HB3.out⟩⟩
  ·go_wp2_with fail
   go_ret2
   refine ⟨fun _ => ⟨a, rfl, (HG1.out.mono (Nat.le_refl _)).on HW.out, bl_trans HB1.out HW.out⟩, fun h => absurd HC.out h⟩
def fstNz (x : List Int) : Nat := x.findIdx (· != 0)
theorem fstNz_eq {x : List Int} {k : Nat} (hk : k ≤ x.length) (h0 : ∀ j, j < k → x.getD j 0 = 0) (h1 : k < x.length → x.getD k 0 ≠ 0) : fstNz x = k := by
 by_cases hl : k < x.length
 ·have h1 := h1 hl
  unfold fstNz
  rw [List.findIdx_eq hl]
  constructor
  ·simp [List.getD, hl] at h1
   simp [h1]
  ·intro j hj
   have := h0 j hj
   have hjl : j < x.length := by omega
   simp [List.getD, hjl] at this
   simp [this]
 ·obtain rfl : k = x.length := by omega
  unfold fstNz
  rw [List.findIdx_eq_length]
  intro y hy
  obtain ⟨i, hi, rfl⟩ := List.mem_iff_getElem.1 hy
  have := h0 i hi
  simp [List.getD, hi] at this
  simp [this]
def pivTo (rows : List (List Int)) (k : Nat) : List Int := (rows.take k).map fun r => (fstNz r : Int)
def pivots (rows : List (List Int)) : List Int := rows.map fun r => (fstNz r : Int)
theorem pivTo_len (rows : List (List Int)) {k : Nat} (hk : k ≤ rows.length) : (pivTo rows k).length = k := by simp [pivTo]; omega
theorem pivTo_succ (rows : List (List Int)) {k : Nat} (hk : k < rows.length) : pivTo rows (k + 1) = pivTo rows k ++ [((fstNz (rows.getD k []) : Nat) : Int)] := by
 unfold pivTo
 rw [List.take_add_one, List.map_append, List.getElem?_eq_getElem hk]
 congr 1
 show [((fstNz rows[k] : Nat) : Int)] = _
 rw [List.getD_eq_getElem?_getD, List.getElem?_eq_getElem hk]
 rfl
theorem pivTo_all (rows : List (List Int)) : pivTo rows rows.length = pivots rows := by simp [pivTo, pivots]
set_option maxHeartbeats 8000000 in
theorem rPivots_any (w : World) (v : Value) (rows : List (List Int)) (hv : SS w v rows) : Calls Tryz.prog 79 #[v] w (RetO w (pivots rows)) := by
 obtain ⟨A, c, rfl, hv⟩ := hv
 have hrl := hv.len
 have HV := Lib.hid (show SS w (.slice A rows.length c) rows from ⟨A, c, rfl, hv⟩); clear hv
 obtain ⟨n, hn⟩ : ∃ n, n = rows.length := ⟨_, rfl⟩
 rw [← hn] at HV hrl ⊢
 have HN := Lib.hid hn; clear hn
 go_enter Tryz.func79, Tryz.ntmps79
 go_wp2_with fail
 have HO0 : Hid (OI w.heap.size w (.slice none 0 0) (pivTo rows 0)) := OI.nil w.heap.size w
 have HB0 := Lib.hid (bl_refl w)
 go_loopw [3, 4] (fun u i wr => ∃ k : Nat, k ≤ n ∧ i = .int .i64 (k : Int) ∧ Hid (OI w.heap.size wr u (pivTo rows k)) ∧ Hid (Below w.heap.size w wr)) (fun _ i _ => (n - intOf i).toNat)
 case atStart => exact ⟨0, Nat.zero_le _, rfl, HO0, HB0⟩
 case round =>
  clear HO0 HB0
  obtain ⟨k, hk, rfl, HO, HW⟩ := hrel
  by_cases hlt : k < n
  ·obtain ⟨ad, Ak, ck, x, rfl, hc, HX, HXE⟩ := (HV.out.below HW.out (Nat.le_refl _)).eltA (k := k) (by rw [← HN.out]; exact hlt)
   have HPL : Hid ((pivTo rows k).length = k) := pivTo_len rows (by rw [← HN.out]; omega)
   have hxl := HX.out.len
   obtain ⟨m, hm⟩ : ∃ m, m = x.length := ⟨_, rfl⟩
   rw [← hm] at hc hxl
   have HXM := Lib.hid hm; clear hm
   go_wp2_with fail
   go_loop [5] (fun i => ∃ j : Nat, j ≤ m ∧ i = .int .i64 (j : Int) ∧ Hid (∀ t, t < j → x.getD t 0 = 0)) (fun i => (m - intOf i).toNat)
   case atStart => exact ⟨0, Nat.zero_le _, rfl, hid' fun t ht => absurd ht (by omega)⟩
   case round =>
    obtain ⟨j, hj, rfl, HG⟩ := hrel
    by_cases hjm : j < m
    ·obtain ⟨xd, y, rfl, hd, _, HY⟩ := HX.out.elt (k := j) (by rw [← HXM.out]; exact hjm)
     by_cases hy : y = 0
     ·have hyb : (y == 0) = true := by simp [hy]
      have HYY := Lib.hid hy; clear hy
      go_wp2_with fail
      exact ⟨⟨j + 1, by omega, rfl, hid' fun t ht => by
       by_cases e : t = j
       ·subst e; rw [HY.out]; exact HYY.out
       ·exact HG.out t (by omega)⟩, by simp only [intOf]; omega⟩
     ·have hyb : (y == 0) = false := by simp [hy]
      have HE : Hid (pivTo rows (k + 1) = pivTo rows k ++ [(j : Int)]) := by
       show _ = _
       rw [pivTo_succ rows (by rw [← HN.out]; exact hlt), HXE.out, fstNz_eq (k := j) (by rw [← HXM.out]; exact hj) HG.out (fun _ => by rw [HY.out]; exact hy)]
      clear hy
      have HP := Lib.hid (PushI.mk' (w0 := w) HO.out HW.out HW.out.size (j : Int))
      go_wp2_with (at_builtin; refine wpList_pushI rfl _ _ rfl w.heap.size _ (pivTo rows k) rfl HP.out.own wr.heap.size 1 (j : Int) rfl HP.out.box (by have := HPL.out; omega) HP.out.up ?_; intro v1 w1 ho hg)
      exact ⟨⟨k + 1, by omega, rfl, by rw [HE.out]; exact hid' ho, hid' (HP.out.below (Nat.le_refl _) hg)⟩, by simp only [intOf]; omega⟩
    ·obtain rfl : m = j := by omega
     have HE : Hid (pivTo rows (k + 1) = pivTo rows k ++ [(m : Int)]) := by
      show _ = _
      rw [pivTo_succ rows (by rw [← HN.out]; exact hlt), HXE.out, fstNz_eq (k := m) (by rw [← HXM.out]; exact hj) HG.out (fun h => absurd h (by rw [← HXM.out]; omega))]
     have HP := Lib.hid (PushI.mk' (w0 := w) HO.out HW.out HW.out.size (m : Int))
     go_wp2_with (at_builtin; refine wpList_pushI rfl _ _ rfl w.heap.size _ (pivTo rows k) rfl HP.out.own wr.heap.size 1 (m : Int) rfl HP.out.box (by have := HPL.out; omega) HP.out.up ?_; intro v1 w1 ho hg)
     exact ⟨⟨k + 1, by omega, rfl, by rw [HE.out]; exact hid' ho, hid' (HP.out.below (Nat.le_refl _) hg)⟩, by simp only [intOf]; omega⟩
  ·obtain rfl : n = k := by omega
   have HE : Hid (pivots rows = pivTo rows n) := by show _ = _; rw [HN.out, pivTo_all]
   go_wp2_with fail
   go_ret
   exact ⟨_, rfl, by rw [HE.out]; exact HO.out, HW.out⟩
def restTo (O : FOps) (rows : List (List Int)) (x : List Int) : Nat → List Int
 | 0 => x
 | i + 1 => addToL O (restTo O rows x i) (O.neg (x.getD (fstNz (rows.getD i [])) 0)) (rows.getD i [])
def restL (O : FOps) (rows : List (List Int)) (x : List Int) : List Int := restTo O rows x rows.length
theorem restTo_len (O : FOps) (rows : List (List Int)) (x : List Int) : ∀ i, (restTo O rows x i).length = x.length
 | 0 => rfl
 | i + 1 => by rw [restTo, addToL_len, restTo_len O rows x i]
theorem restTo_rng {O : FOps} {q : Int} (hO : O.Lt q) (rows : List (List Int)) {x : List Int} (hx : Rng q x) : ∀ i, Rng q (restTo O rows x i)
 | 0 => hx
 | i + 1 => by
  rw [restTo]
  exact (Rows.addTo hO (restTo_rng hO rows hx i) _ _).2
theorem pivots_getD (rows : List (List Int)) {k : Nat} (hk : k < rows.length) : (pivots rows).getD k 0 = (fstNz (rows.getD k []) : Int) := by
 simp [pivots, List.getD, hk]
theorem pivots_len (rows : List (List Int)) : (pivots rows).length = rows.length := by simp [pivots]
set_option maxHeartbeats 8000000 in
theorem rRest_any (w : World) (P M : Int) (mv v vx : Value) (Mod x : List Int) (rows : List (List Int)) (hm : SI w mv Mod) (hx : SI w vx x) (hv : SS w v rows) (ho : orderF P M ≠ 0) (hmod : ModP P M Mod)
   (hR : ∀ k, k < rows.length → fstNz (rows.getD k []) < x.length ∧ x.length ≤ (rows.getD k []).length) (hn : x.length ≤ 100000) (hxr : Rng (orderF P M) x) :
   Calls Tryz.prog 132 #[.agg #[.int .i64 P, .int .i64 M, mv], v, vx] w (RetO w (restL (refOps P M Mod) rows x)) := by
 obtain ⟨XA, xc, rfl, hx⟩ := hx
 have HX := Lib.hid hx.si; clear hx
 obtain ⟨A, c, rfl, hv⟩ := hv
 have hrl := hv.len
 have HV := Lib.hid (show SS w (.slice A rows.length c) rows from ⟨A, c, rfl, hv⟩); clear hv
 have HM := Lib.hid hm; have HMOD := Lib.hid hmod; have HO := Lib.hid ho; have HR := Lib.hid hR; have HXR := Lib.hid hxr
 have HLT := Lib.hid (refOps_lt ho Mod)
 have HOB := Lib.hid (orderF_bounds P M)
 clear hm hmod ho hR hxr
 obtain ⟨n, hn1⟩ : ∃ n, n = rows.length := ⟨_, rfl⟩
 rw [← hn1] at HV hrl ⊢
 obtain ⟨m, hm1⟩ : ∃ m, m = x.length := ⟨_, rfl⟩
 rw [← hm1] at HX hn ⊢
 have HN := Lib.hid hn1; have HMM := Lib.hid hm1; clear hn1 hm1
 have HF := Lib.hid (FBox.mk' w P M mv)
 go_enter Tryz.func132, Tryz.ntmps132
 go_wp2_with fail
 refine (rPivots_any _ _ rows (HV.out.below HF.out.bel (Nat.le_refl _))).mono ?_
 rintro e w1 ⟨u1, rfl, ho1, hb1⟩
 obtain ⟨PA, pc, rfl⟩ := ho1.form'
 rw [pivots_len, ← HN.out] at ho1 ⊢
 have HF1 := Lib.hid (HF.out.on hb1)
 have HP1 := Lib.hid (ho1.mono (B' := w.heap.size) (by have := HF.out.bel.size; exact this))
 clear hb1 ho1
 have HE0 := Lib.hid (OI.empty (B := w1.heap.size) w1 (Nat.le_refl _))
 have HX0 := Lib.hid (HX.out.below (bl_trans HF1.out.bel (bl_alloc w1 (.cells #[] 3))) (Nat.le_refl _))
 have T1 : Hid (([] : List Int).length + x.length ≤ 17592186044416) := by show _ ≤ _; rw [← HMM.out]; simp; omega
 have T3 : Hid (w1.heap.size ≤ (w1.alloc (.cells #[] 3)).heap.size) := by show _ ≤ _; simp
 go_wp2_with (at_builtin; refine wpList_catI rfl _ _ rfl w1.heap.size _ _ rfl HE0.out _ x rfl HX0.out T1.out T3.out ?_; intro v2 w2 ho hg hv2)
 have hb2 := HE0.out.bgrown (bl_alloc w1 (.cells #[] 3)) T3.out hg
 rw [List.nil_append] at ho
 obtain ⟨RA, rc, rfl⟩ := ho.form'
 rw [← HMM.out] at ho ⊢
 have HF2 := Lib.hid (HF1.out.on hb2)
 have HP2 := Lib.hid (HP1.out.below hb2 (Nat.le_refl _))
 have HR2 : Hid (OI w.heap.size w2 (.slice RA m rc) (restTo (refOps P M Mod) rows x 0)) := hid' (ho.mono HF1.out.bel.size)
 clear ho hg hv2 hb2 HE0 HX0 T1 T3
 go_wp2_with fail
 go_loopw [8, 9] (fun u i wr => ∃ (k : Nat) (UA : Option Addr) (uc : Nat), k ≤ n ∧ i = .int .i64 (k : Int) ∧ u = .slice UA m uc ∧ Hid (OI w.heap.size wr (.slice UA m uc) (restTo (refOps P M Mod) rows x k)) ∧ Hid (OI w.heap.size wr (.slice PA n pc) (pivots rows)) ∧ Hid (FBox w wr P M mv)) (fun _ i _ => (n - intOf i).toNat)
 case atStart => exact ⟨0, _, _, Nat.zero_le _, rfl, rfl, HR2, HP2, HF2⟩
 case round =>
   clear HR2 HP2 HF2 HF1 HP1 HF
   obtain ⟨k, UA, uc, hk, rfl, rfl, HOI, HPI, HFR⟩ := hrel
   by_cases hlt : k < n
   · have hpw : ∀ i, I64 ((pivots rows).getD i 0) := fun i => by
       by_cases hi : i < rows.length
       · rw [pivots_getD rows hi]
         have := (HR.out i hi).1
         have := HMM.out
         exact I64.of_small (by omega) (by omega)
       · rw [getD_len (by rw [pivots_len]; omega)]; exact I64.zero
     obtain ⟨pd, p, rfl, hc, _, HPE⟩ := (HPI.out.si (by rw [pivots_len, ← HN.out]; exact hrl) hpw).elt (k := k) (by rw [pivots_len, ← HN.out]; exact hlt)
     obtain ⟨ra, Ak, ck, r, rfl, hd, HRR, HRE⟩ := (HV.out.below HFR.out.bel (Nat.le_refl _)).eltA (k := k) (by rw [← HN.out]; exact hlt)
     obtain ⟨hf1, hf2⟩ := HR.out k (by rw [← HN.out]; exact hlt)
     have hpp := HPE.out
     rw [pivots_getD rows (by rw [← HN.out]; exact hlt), HRE.out] at hpp
     rw [HRE.out, ← HMM.out] at hf1 hf2
     obtain ⟨f, hf⟩ : ∃ f, f = fstNz r := ⟨_, rfl⟩
     rw [← hf] at hpp hf1
     obtain rfl := hpp
     obtain ⟨xd, y, rfl, he, _, HY⟩ := (HX.out.below HFR.out.bel (Nat.le_refl _)).elt (k := f) (by rw [← HMM.out]; exact hf1)
     have HCN : Hid (restTo (refOps P M Mod) rows x (k + 1) = addToL (refOps P M Mod) (restTo (refOps P M Mod) rows x k) (negF P M y) r) := by
       show _ = _
       rw [restTo, HRE.out, ← hf, HY.out]; rfl
     have HFF := Lib.hid hf; have HF2 := Lib.hid hf2; clear hf hf2 hpw
     have HCL : Hid ((restTo (refOps P M Mod) rows x k).length = m) := by show _ = _; rw [restTo_len, HMM.out]
     have HCS := Lib.hid (HOI.out.si (by rw [HCL.out]; omega) (fun j => by have := restTo_rng HLT.out rows HXR.out k j; have := HOB.out; exact I64.of_small (by omega) (by omega)))
     have c0 := HFR.out.c0; have c1 := HFR.out.c1; have c2 := HFR.out.c2
     have HC := Lib.hid hc; have HD := Lib.hid hd; have HE := Lib.hid he
     go_wp2_with fail
     go_region_held3 (fun w' => w'.cell? ⟨w.heap.size, 0, none⟩ = some (.int .i64 P) ∧ w'.cell? ⟨w.heap.size, 1, none⟩ = some (.int .i64 M) ∧ w'.cell? ⟨w.heap.size, 2, none⟩ = some mv ∧ w'.cell? (pd.add k) = some (.int .i64 (f : Int)) ∧ w'.cell? (ra.add k) = some (.slice Ak r.length ck) ∧ w'.cell? (xd.add f) = some (.int .i64 y)) (go_keep)
       (first
         | (go_at_call 50; refine (rNeg_any _ P M y mv HO.out).mono ?_; rintro e w1 ⟨rfl, hb1⟩; have HF1 := Lib.hid (HFR.out.drew.on hb1); have HB1 := Lib.hid (bl_trans (bl_drew wr) hb1); have hc1 := cell_below HB1.out HC.out; have hd1 := cell_below HB1.out HD.out; have he1 := cell_below HB1.out HE.out; clear hb1; have e0 := HF1.out.c0; have e1 := HF1.out.c1; have e2 := HF1.out.c2)
         | (go_at_call 49; refine (rAddTo_any _ P M (negF P M y) mv _ _ Mod (restTo (refOps P M Mod) rows x k) r (HM.out.below HF1.out.bel (Nat.le_refl _)) (HCS.out.below HB1.out (Nat.le_refl _)) (HRR.out.si.below HB1.out (Nat.le_refl _)) (by rw [HCL.out]; omega) (by rw [HCL.out]; exact HF2.out) HO.out HMOD.out).mono ?_; rintro e w3 ⟨u1, rfl, ho1, hb3⟩; have HB3 := Lib.hid (bl_trans HB1.out hb3); have HF3 := Lib.hid (HF1.out.on hb3); have hc3 := cell_below HB3.out HC.out; have hd3 := cell_below HB3.out HD.out; have he3 := cell_below HB3.out HE.out; clear hb3; have g0 := HF3.out.c0; have g1 := HF3.out.c1; have g2 := HF3.out.c2))
     go_wp2_with fail
     have HL : Hid ((addToL (refOps P M Mod) (restTo (refOps P M Mod) rows x k) (negF P M y) r).length = m) := by show _ = _; rw [addToL_len]; exact HCL.out
     obtain ⟨A1, cc1, rfl⟩ := ho1.form'
     rw [HL.out] at ho1 ⊢
     have HO1 : Hid (OI w.heap.size w3 (.slice A1 m cc1) (restTo (refOps P M Mod) rows x (k + 1))) := by
       rw [HCN.out]; exact hid' (ho1.mono HF1.out.bel.size)
     exact ⟨⟨k + 1, A1, cc1, by omega, rfl, rfl, HO1, hid' (HPI.out.below HB3.out (Nat.le_refl _)), HF3⟩, by simp only [intOf]; omega⟩
   · obtain rfl : n = k := by omega
     have HE : Hid (restL (refOps P M Mod) rows x = restTo (refOps P M Mod) rows x n) := by show _ = _; rw [HN.out]; rfl
     go_wp2_with fail
     go_ret
     exact ⟨_, rfl, by rw [HE.out]; exact HOI.out, HFR.out.bel⟩
def inL (O : FOps) (rows : List (List Int)) (x : List Int) : Bool := (restL O rows x).all (· == 0)
set_option maxHeartbeats 8000000 in
theorem rIn_any (w : World) (P M : Int) (mv v vx : Value) (Mod x : List Int) (rows : List (List Int)) (hm : SI w mv Mod) (hx : SI w vx x) (hv : SS w v rows) (ho : orderF P M ≠ 0) (hmod : ModP P M Mod)
  (hR : ∀ k, k < rows.length → fstNz (rows.getD k []) < x.length ∧ x.length ≤ (rows.getD k []).length) (hn : x.length ≤ 100000) (hxr : Rng (orderF P M) x) :
  Calls Tryz.prog 96 #[.agg #[.int .i64 P, .int .i64 M, mv], v, vx] w (RetB w (inL (refOps P M Mod) rows x)) := by
 have HF := Lib.hid (FBox.mk' w P M mv)
 have HX := Lib.hid (hx.below HF.out.bel (Nat.le_refl _)); have HV := Lib.hid (hv.below HF.out.bel (Nat.le_refl _)); have HM := Lib.hid (hm.below HF.out.bel (Nat.le_refl _))
 have HMOD := Lib.hid hmod; have HO := Lib.hid ho; have HR := Lib.hid hR; have HXR := Lib.hid hxr
 have HLT := Lib.hid (refOps_lt ho Mod)
 have HOB := Lib.hid (orderF_bounds P M)
 have HL : Hid ((restL (refOps P M Mod) rows x).length = x.length) := restTo_len _ _ _ _
 clear hm hmod ho hR hxr hx hv
 go_enter Tryz.func96, Tryz.ntmps96
 go_wp2_with fail
 refine (rRest_any _ P M mv v vx Mod x rows HM.out HX.out HV.out HO.out HMOD.out HR.out hn HXR.out).mono ?_
 rintro e w1 ⟨u1, rfl, ho1, hb1⟩
 have HS := Lib.hid (ho1.si (by rw [HL.out]; omega) (fun j => by
  have h1 : 0 ≤ (restL (refOps P M Mod) rows x).getD j 0 ∧ (restL (refOps P M Mod) rows x).getD j 0 < orderF P M := restTo_rng HLT.out rows HXR.out rows.length j
  have := HOB.out
  exact I64.of_small (by omega) (by omega)))
 have HB1 := Lib.hid (bl_trans HF.out.bel hb1)
 clear ho1 hb1
 go_wp2_with fail
 refine (rZero_any _ u1 _ HS.out).mono ?_
 rintro e w2 ⟨rfl, rfl⟩
 go_wp2_with fail
 go_ret
 exact ⟨rfl, HB1.out⟩
noncomputable def spaceE (P M : Int) (Mod : List Int) (cols : Int) (rows : List (List Int)) : Int :=
 if matE P M Mod cols rows ≠ 0 then matE P M Mod cols rows else if canonL (refOps P M Mod) rows cols.toNat = rows then 0 else 5
theorem checkF_zero {P M : Int} {Mod : List Int} (h : checkF P M Mod = 0) : FieldP P M Mod := by
 unfold checkF at h
 split at h
 ·assumption
 ·cases h
theorem entriesF_zero {q : Int} {l : List Int} (h : entriesF q l = 0) : ∀ k, k < l.length → 0 ≤ l.getD k 0 ∧ l.getD k 0 < q := by
 unfold entriesF at h
 split at h
 ·assumption
 ·cases h
theorem matE_zero {P M : Int} {Mod : List Int} {cols : Int} {rows : List (List Int)} (h : matE P M Mod cols rows = 0) :
  FieldP P M Mod ∧ 0 ≤ cols ∧ cols ≤ 256 ∧ rows.length ≤ 256 ∧ Rows (orderF P M) cols.toNat rows := by
 unfold matE at h
 split at h
 ·rename_i h1; exact absurd h h1
 rename_i h1
 split at h
 ·cases h
 rename_i h2
 split at h
 case isFalse => cases h
 rename_i h3
 split at h
 case isFalse => cases h
 rename_i h4
 have hf := checkF_zero (Decidable.not_not.1 h1)
 have hq := (order_ne hf.1).2.2.2.2.1
 refine ⟨hf, by omega, by omega, by omega, fun k hk => ?_⟩
 rw [lensOK, List.all_eq_true] at h3
 rw [entsOK, List.all_eq_true] at h4
 have hm : rows.getD k [] ∈ rows := by
  simp [List.getD, hk]
 have e3 := h3 _ hm
 have e4 := h4 _ hm
 rw [beq_iff_eq] at e3 e4
 refine ⟨by omega, fun i => ?_⟩
 by_cases hi : i < (rows.getD k []).length
 ·exact entriesF_zero e4 i hi
 ·rw [getD_len (by omega)]
  have := orderF_bounds P M
  have := hf.1
  omega
set_option maxHeartbeats 8000000 in
theorem rSCheck_any (w : World) (P M cols : Int) (mv rv : Value) (Mod : List Int) (rows : List (List Int)) (hm : SI w mv Mod) (hv : SS w rv rows) :
  Calls Tryz.prog 76 #[.agg #[.int .i64 P, .int .i64 M, mv], .agg #[.int .i64 cols, rv]] w (RetI w (spaceE P M Mod cols rows)) := by
 obtain ⟨A, c, rfl, hv⟩ := hv
 have HM := Lib.hid hm
 have HV := Lib.hid (show SS w (.slice A rows.length c) rows from ⟨A, c, rfl, hv⟩); clear hv hm
 obtain ⟨n, hn⟩ : ∃ n, n = rows.length := ⟨_, rfl⟩
 have HF := Lib.hid (FMBox.mk' w P M mv cols (.slice A n c))
 rw [← hn] at HV ⊢
 have HN := Lib.hid hn; clear hn
 by_cases hme : matE P M Mod cols rows = 0
 case neg =>
  have HE : Hid (spaceE P M Mod cols rows = matE P M Mod cols rows) := by show _ = _; unfold spaceE; rw [if_pos hme]
  have hb : (matE P M Mod cols rows != 0) = true := by rw [bne_iff_ne]; exact hme
  clear hme
  go_enter Tryz.func76, Tryz.ntmps76
  go_wp2_with fail
  generalize hw0 : (w.alloc (.cells #[.int .i64 P, .int .i64 M, mv] 24)).alloc (.cells #[.int .i64 cols, .slice A n c] 27) = w0 at *
  have c0 := HF.out.fb.c0; have c1 := HF.out.fb.c1; have c2 := HF.out.fb.c2; have d0 := HF.out.d0; have d1 := HF.out.d1
  go_wp2_with fail
  refine (rMCheck_any _ P M cols mv _ Mod rows (HM.out.below HF.out.fb.bel (Nat.le_refl _)) (HV.out.below HF.out.fb.bel (Nat.le_refl _))).mono ?_
  rintro e w1 ⟨rfl, hb1⟩
  have HB1 := Lib.hid (bl_trans HF.out.fb.bel hb1); clear hb1
  go_wp2_with fail
  go_ret
  exact ⟨by rw [HE.out]; rfl, HB1.out⟩
 obtain ⟨hf, hc0, hc1, hr, hrows⟩ := matE_zero hme
 have HS : Hid (spaceE P M Mod cols rows = if canonL (refOps P M Mod) rows cols.toNat = rows then 0 else 5) := by show _ = _; unfold spaceE; rw [if_neg (by simpa using hme)]
 obtain ⟨C, hC⟩ : ∃ C : Nat, cols = (C : Int) := ⟨cols.toNat, by omega⟩
 subst hC
 rw [Int.toNat_natCast] at hrows HS
 have HME := Lib.hid hme; have HFP := Lib.hid hf; have HRO := Lib.hid hrows
 rw [HN.out.symm] at hr
 clear hme hf hrows
 go_enter Tryz.func76, Tryz.ntmps76
 go_wp2_with fail
 generalize hw0 : (w.alloc (.cells #[.int .i64 P, .int .i64 M, mv] 24)).alloc (.cells #[.int .i64 (C : Int), .slice A n c] 27) = w0 at *
 have c0 := HF.out.fb.c0; have c1 := HF.out.fb.c1; have c2 := HF.out.fb.c2; have d0 := HF.out.d0; have d1 := HF.out.d1
 go_wp2_with fail
 refine (rMCheck_any _ P M C mv _ Mod rows (HM.out.below HF.out.fb.bel (Nat.le_refl _)) (HV.out.below HF.out.fb.bel (Nat.le_refl _))).mono ?_
 rintro e w1 ⟨rfl, hb1⟩
 rw [HME.out]
 have HF1 := Lib.hid (HF.out.on hb1); clear hb1 c0 c1 c2 d0 d1
 have c0 := HF1.out.fb.c0; have c1 := HF1.out.fb.c1; have c2 := HF1.out.fb.c2; have d0 := HF1.out.d0; have d1 := HF1.out.d1
 go_wp2_with fail
 refine (rCanon_any _ P M C C mv _ Mod rows (HM.out.below HF1.out.fb.bel (Nat.le_refl _)) (HV.out.below HF1.out.fb.bel (Nat.le_refl _)) HFP.out.1 HFP.out.2.2.1 HRO.out (Nat.le_refl _) (by omega) (by rw [← HN.out]; omega)).mono ?_
 rintro e w2 ⟨u1, u2, rfl, hs, _, _, hb2⟩
 have HS2 := Lib.hid hs.out
 have HF2 := Lib.hid (HF1.out.on hb2); clear hb2 hs c0 c1 c2 d0 d1
 have d1 := HF2.out.d1
 go_wp2_with fail
 refine (rSameRows_any _ _ _ (canonL (refOps P M Mod) rows C) rows HS2.out (HV.out.below HF2.out.fb.bel (Nat.le_refl _))).mono ?_
 rintro e w3 ⟨rfl, hb3⟩
 have HB3 := Lib.hid (bl_trans HF2.out.fb.bel hb3); clear hb3
 by_cases heq : canonL (refOps P M Mod) rows C = rows
 ·rw [show decide (canonL (refOps P M Mod) rows C = rows) = true from decide_eq_true heq]
  rw [if_pos heq] at HS
  clear heq
  go_wp2_with fail
  go_ret
  exact ⟨by rw [HS.out]; rfl, HB3.out⟩
 ·rw [show decide (canonL (refOps P M Mod) rows C = rows) = false from decide_eq_false heq]
  rw [if_neg heq] at HS
  clear heq
  go_wp2_with fail
  go_ret
  exact ⟨by rw [HS.out]; rfl, HB3.out⟩
def RetCM (w : World) (n : Nat) (xss : List (List Int)) (ys : List Int) (e : Ending) (w' : World) : Prop :=
 ∃ AA U c, e = .returned (.tuple #[.agg #[.int .i64 (n : Int), .slice AA xss.length xss.length], .slice U ys.length c, .int .i64 0]) ∧ Sep w.heap.size w' (fun w2 => SS w2 (.slice AA xss.length xss.length) xss ∧ SI w2 (.slice U ys.length c) ys) ∧ SSb (fun g => w.heap.size ≤ g) w' (.slice AA xss.length xss.length) xss ∧ Below w.heap.size w w'
theorem mopen_ok (w w1 : World) (P M : Int) (n gl : Nat) (mv rv : Value) (Mod : List Int) (rows : List (List Int)) (hF : Below w.heap.size w w1) (hsz : w1.heap.size = gl) (hm : SI w mv Mod) (hv : SS w rv rows) (he : matE P M Mod n rows = 0) :
  Calls Tryz.prog 109 #[.agg #[.int .i64 P, .int .i64 M, mv], .slice (some ⟨gl, 0, none⟩) 1 1] (w1.alloc (.cells #[.int .i64 (n : Int), rv] 27))
   (fun e w2 => ∃ a, e = .returned (.tuple #[.pointer (some ⟨a, 0, none⟩), .int .i64 0]) ∧ GF w2 a P M Mod ∧ Below w1.heap.size w1 w2) := by
 have hf := (matE_zero he).1
 have hb := bl_trans hF (bl_alloc w1 (.cells #[.int .i64 (n : Int), rv] 27))
 have hQ := Blk.new w1 27 [.int .i64 (n : Int), rv]
 rw [hsz] at hQ
 refine (mopen1_any _ P M n mv rv gl Mod rows (hm.below hb (Nat.le_refl _)) (hv.below hb (Nat.le_refl _)) hf (hQ.cell 0) (hQ.cell 1)).mono ?_
 rintro e w2 ⟨h1, _⟩
 obtain ⟨a, rfl, hg, hb2⟩ := h1 (by rw [← matE_ok hf]; exact he)
 exact ⟨a, rfl, hg.out, bl_trans (bl_alloc w1 _) hb2⟩
theorem mopen_no (w w1 : World) (P M : Int) (cols : Int) (gl : Nat) (mv rv : Value) (Mod : List Int) (rows : List (List Int)) (hF : Below w.heap.size w w1) (hsz : w1.heap.size = gl) (hm : SI w mv Mod) (hv : SS w rv rows) (he : matE P M Mod cols rows ≠ 0) :
  Calls Tryz.prog 109 #[.agg #[.int .i64 P, .int .i64 M, mv], .slice (some ⟨gl, 0, none⟩) 1 1] (w1.alloc (.cells #[.int .i64 cols, rv] 27))
   (fun e w2 => e = .returned (.tuple #[.pointer none, .int .i64 (matE P M Mod cols rows)]) ∧ Below w1.heap.size w1 w2) := by
 have hb := bl_trans hF (bl_alloc w1 (.cells #[.int .i64 cols, rv] 27))
 have hQ := Blk.new w1 27 [.int .i64 cols, rv]
 rw [hsz] at hQ
 by_cases hf : FieldP P M Mod
 ·refine (mopen1_any _ P M cols mv rv gl Mod rows (hm.below hb (Nat.le_refl _)) (hv.below hb (Nat.le_refl _)) hf (hQ.cell 0) (hQ.cell 1)).mono ?_
  rintro e w2 ⟨_, h2⟩
  rw [matE_ok hf] at he ⊢
  obtain ⟨rfl, hb2⟩ := h2 he
  exact ⟨rfl, bl_trans (bl_alloc w1 _) hb2⟩
 ·refine (mopen_fno _ P M mv _ Mod (hm.below hb (Nat.le_refl _)) hf).mono ?_
  rintro e w2 ⟨rfl, hb2⟩
  rw [matE_no hf]
  exact ⟨rfl, bl_trans (bl_alloc w1 _) hb2⟩
structure FMQ (w w1 : World) (P M : Int) (mv : Value) (cols : Int) (rv : Value) : Prop where
 fm : FMBox w w1 P M mv cols rv
 q : Blk w1 (w.heap.size + 1 + 1) 27 [.int .i64 0, .slice none 0 0]
theorem FMQ.on {w w1 w2 : World} {P M : Int} {mv : Value} {cols : Int} {rv : Value} (h : FMQ w w1 P M mv cols rv) (hb : Below w1.heap.size w1 w2) : FMQ w w2 P M mv cols rv := ⟨h.fm.on hb, h.q.belowS hb⟩
theorem FMQ.mk' (w : World) (P M : Int) (mv : Value) (cols : Int) (rv : Value) : ∃ w1, ((w.alloc (.cells #[.int .i64 P, .int .i64 M, mv] 24)).alloc (.cells #[.int .i64 cols, rv] 27)).alloc (.cells #[.int .i64 0, .slice none 0 0] 27) = w1 ∧
  FMQ w w1 P M mv cols rv ∧ w1.heap.size = w.heap.size + 1 + 1 + 1 := by
 refine ⟨_, rfl, ⟨(FMBox.mk' w P M mv cols rv).on (bl_alloc _ _), ?_⟩, ?_⟩
 ·have := Blk.new ((w.alloc (.cells #[.int .i64 P, .int .i64 M, mv] 24)).alloc (.cells #[.int .i64 cols, rv] 27)) 27 [.int .i64 0, .slice none 0 0]
  rw [World.size_alloc, World.size_alloc] at this
  exact this
 ·rw [World.size_alloc, World.size_alloc, World.size_alloc]
set_option maxHeartbeats 8000000 in
theorem mCanonical_ok (w : World) (P M : Int) (n : Nat) (mv rv : Value) (Mod : List Int) (rows : List (List Int)) (hm : SI w mv Mod) (hv : SS w rv rows) (he : matE P M Mod n rows = 0) :
  Calls Tryz.prog 62 #[.agg #[.int .i64 P, .int .i64 M, mv], .agg #[.int .i64 (n : Int), rv]] w (RetCM w n (canonL (refOps P M Mod) rows n) (pivL (refOps P M Mod) rows n)) := by
 have HM := Lib.hid hm; have HV := Lib.hid hv; clear hm hv
 obtain ⟨hf, _, hn, hr, hR⟩ := matE_zero he
 rw [Int.toNat_natCast] at hR
 have HR := Lib.hid hR
 have HE := Lib.hid he
 clear he hR hf
 obtain ⟨RA, rc, rfl, _⟩ := HV.out
 obtain ⟨r, hrr⟩ : ∃ r, r = rows.length := ⟨_, rfl⟩
 rw [← hrr] at HV hr ⊢
 have HRR := Lib.hid hrr; clear hrr
 obtain ⟨w1, e1, hq, hsz⟩ := FMQ.mk' w P M mv n (.slice RA r rc)
 have HQ := Lib.hid hq; have HE1 := Lib.hid e1; clear hq e1
 go_enter Tryz.func62, Tryz.ntmps62
 go_wp2_with fail
 rw [HE1.out]
 clear HE1
 have c0 := HQ.out.fm.fb.c0; have c1 := HQ.out.fm.fb.c1; have c2 := HQ.out.fm.fb.c2; have d0 := HQ.out.fm.d0; have d1 := HQ.out.fm.d1
 go_wp2_with fail
 refine (mopen_ok w w1 P M n _ mv _ Mod rows HQ.out.fm.fb.bel hsz HM.out HV.out HE.out).mono ?_
 rintro e w2 ⟨a, rfl, hg, hb2⟩
 have HG := Lib.hid hg
 have HQ2 := Lib.hid (HQ.out.on hb2)
 clear hg hb2 c0 c1 c2 d0 d1 HQ
 have d0 := HQ2.out.fm.d0; have d1 := HQ2.out.fm.d1
 go_wp2_with fail
 refine (mcanon_any w2 a P M n Mod _ rows HG.out (HV.out.below HQ2.out.fm.fb.bel (Nat.le_refl _)) HR.out (by omega) (by rw [← HRR.out]; omega)).mono ?_
 rintro e w3 ⟨AA, U, uc, rfl, hs, hsb, hb3⟩
 have hlt := HQ2.out.q.lt
 generalize hkk : (canonL (refOps P M Mod) rows n).length = k at *
 generalize hpp : (pivL (refOps P M Mod) rows n).length = p at *
 have HK := Lib.hid hkk; have HP := Lib.hid hpp; clear hkk hpp
 have HS := Lib.hid hs; have HSB := Lib.hid hsb
 have HQ3 := Lib.hid (HQ2.out.on hb3)
 clear hs hsb hb3 d0 d1
 have d0 := HQ3.out.fm.d0
 obtain ⟨r0, r1, f0, f1⟩ := HQ3.out.q.two
 go_wp2_with fail
 obtain ⟨w4, h4, HL⟩ := lay2 (x := .int .i64 (n : Int)) (y := .slice AA k k) HQ3.out.q
 rw [h4]
 have q0 := HL.c0; have q1 := HL.c1
 refine bodyPost_ret (v := .tuple #[.agg #[.int .i64 (n : Int), .slice AA k k], .slice U p uc, .int .i64 0]) (by simp [results, Tryz.results62, go_sem, q0, q1]) rfl ?_
 have hq2 := HQ2.out.fm.fb.bel.size
 refine ⟨AA, U, uc, ?_, ?_, ?_, HL.below HQ3.out.fm.fb.bel HQ3.out.fm.fb.bel.size (by omega)⟩
 ·rw [HK.out, HP.out]
 ·rw [HK.out, HP.out]
  exact (HS.out.grown HL.gr (by rintro g e; cases e; omega)).mono hq2
 ·rw [HK.out]
  exact (HSB.out.grown HL.gr (by rintro g e; cases e; show ¬ w2.heap.size ≤ _; omega)).imp fun g hg _ => Nat.le_trans hq2 hg
set_option maxHeartbeats 8000000 in
theorem mCanonical_no (w : World) (P M cols : Int) (mv rv : Value) (Mod : List Int) (rows : List (List Int)) (hm : SI w mv Mod) (hv : SS w rv rows) (he : matE P M Mod cols rows ≠ 0) :
  Calls Tryz.prog 62 #[.agg #[.int .i64 P, .int .i64 M, mv], .agg #[.int .i64 cols, rv]] w (fun e w' => e = .returned (.tuple #[.agg #[.int .i64 0, .slice none 0 0], .slice none 0 0, .int .i64 (matE P M Mod cols rows)]) ∧ Below w.heap.size w w') := by
 have HM := Lib.hid hm; have HV := Lib.hid hv; clear hm hv
 have HE := Lib.hid he
 have hb : (matE P M Mod cols rows != 0) = true := by rw [bne_iff_ne]; exact he
 clear he
 obtain ⟨RA, rc, rfl, _⟩ := HV.out
 generalize rows.length = r at HV ⊢
 obtain ⟨w1, e1, hq, hsz⟩ := FMQ.mk' w P M mv cols (.slice RA r rc)
 have HQ := Lib.hid hq; have HE1 := Lib.hid e1; clear hq e1
 go_enter Tryz.func62, Tryz.ntmps62
 go_wp2_with fail
 rw [HE1.out]
 clear HE1
 have c0 := HQ.out.fm.fb.c0; have c1 := HQ.out.fm.fb.c1; have c2 := HQ.out.fm.fb.c2; have d0 := HQ.out.fm.d0; have d1 := HQ.out.fm.d1
 go_wp2_with fail
 refine (mopen_no w w1 P M cols _ mv _ Mod rows HQ.out.fm.fb.bel hsz HM.out HV.out HE.out).mono ?_
 rintro e w2 ⟨rfl, hb2⟩
 have HQ2 := Lib.hid (HQ.out.on hb2)
 clear hb2 c0 c1 c2 d0 d1 HQ
 obtain ⟨er, her⟩ : ∃ er, er = matE P M Mod cols rows := ⟨_, rfl⟩
 rw [← her] at hb HE ⊢
 have HER := Lib.hid her; clear her
 obtain ⟨r0, r1, f0, f1⟩ := HQ2.out.q.two
 go_wp2_with fail
 obtain ⟨w4, h4, HL⟩ := lay2 (x := .int .i64 0) (y := .slice none 0 0) HQ2.out.q
 rw [h4]
 have q0 := HL.c0; have q1 := HL.c1
 refine bodyPost_ret (v := .tuple #[.agg #[.int .i64 0, .slice none 0 0], .slice none 0 0, .int .i64 er]) (by simp [results, Tryz.results62, go_sem, q0, q1]) rfl ?_
 exact ⟨by rw [← HER.out], HL.below HQ2.out.fm.fb.bel HQ2.out.fm.fb.bel.size (by omega)⟩
def negTo (n : Nat) : Nat → List Int
 | 0 => List.replicate n 0
 | k + 1 => (negTo n k).set k (-1)
theorem negTo_len (n : Nat) : ∀ k, (negTo n k).length = n
 | 0 => by simp [negTo]
 | k + 1 => by rw [negTo, List.length_set, negTo_len n k]
theorem negTo_getD (n : Nat) : ∀ k c, c < k → c < n → (negTo n k).getD c 0 = -1
 | 0, c, h, _ => by omega
 | k + 1, c, h, hn => by
  rw [negTo]
  have hl := negTo_len n k
  by_cases e : k = c
  ·subst e; simp [List.getD, List.getElem?_set, hl, hn]
  ·have := negTo_getD n k c (by omega) hn
   rw [← this]; simp [List.getD, List.getElem?_set, e]
def leadTo (p : List Int) (n : Nat) : Nat → List Int
 | 0 => negTo n n
 | i + 1 => (leadTo p n i).set (pvt p i) (i : Int)
theorem leadTo_len (p : List Int) (n : Nat) : ∀ k, (leadTo p n k).length = n
 | 0 => negTo_len n n
 | k + 1 => by rw [leadTo, List.length_set, leadTo_len p n k]
theorem leadTo_iff (p : List Int) (n : Nat) {c : Nat} (hc : c < n) : ∀ k, 0 ≤ (leadTo p n k).getD c 0 ↔ ∃ i, i < k ∧ pvt p i = c
 | 0 => by
  rw [leadTo, negTo_getD n n c hc hc]
  exact ⟨fun h => by omega, fun ⟨i, h, _⟩ => by omega⟩
 | k + 1 => by
  rw [leadTo]
  have hl := leadTo_len p n k
  have ih := leadTo_iff p n hc k
  by_cases e : pvt p k = c
  ·have : ((leadTo p n k).set (pvt p k) (k : Int)).getD c 0 = k := by rw [e]; simp [List.getD, List.getElem?_set, hl, hc]
   rw [this]
   exact ⟨fun _ => ⟨k, by omega, e⟩, fun _ => by omega⟩
  ·have : ((leadTo p n k).set (pvt p k) (k : Int)).getD c 0 = (leadTo p n k).getD c 0 := by simp [List.getD, List.getElem?_set, e]
   rw [this, ih]
   constructor
   ·rintro ⟨i, h1, h2⟩; exact ⟨i, by omega, h2⟩
   ·rintro ⟨i, h1, h2⟩
    refine ⟨i, ?_, h2⟩
    by_cases h3 : i = k
    ·subst h3; exact absurd h2 e
    ·omega
theorem lead_iff {O : FOps} {q : Int} {n : Nat} {A : List (List Int)} {p : List Int} (hA : Rref O q n A p) {c : Nat} (hc : c < n) : 0 ≤ (leadTo p n A.length).getD c 0 ↔ isPv p c = true := by
 rw [leadTo_iff p n hc, isPv_iff hA]
theorem nullTo_len (O : FOps) (l : List (List Int)) (p : List Int) (n : Nat) : ∀ c, (nullTo O l p n c).length ≤ c
 | 0 => Nat.le_refl _
 | c + 1 => by
  have := nullTo_len O l p n c
  rw [nullTo]; split
  ·omega
  ·rw [List.length_append, List.length_singleton]; omega
def RetNu (w : World) (xss : List (List Int)) (e : Ending) (w' : World) : Prop := ∃ u, e = .returned u ∧ Sep w.heap.size w' (fun w2 => SS w2 u xss) ∧ OS w.heap.size (fun g => g < w.heap.size) w' u xss ∧ Below w.heap.size w w'
set_option maxHeartbeats 16000000 in
theorem rNull_any (w : World) (P M : Int) (n : Nat) (mv v : Value) (Mod : List Int) (rows : List (List Int)) (hm : SI w mv Mod) (hv : SS w v rows) (hO : (refOps P M Mod).Fld (orderF P M)) (ho : orderF P M ≠ 0) (hmod : ModP P M Mod)
   (hR : Rows (orderF P M) n rows) (hn : n ≤ 100000) (hr : rows.length ≤ 100000) :
   Calls Tryz.prog 103 #[.agg #[.int .i64 P, .int .i64 M, mv], v, .int .i64 (n : Int)] w (RetNu w (nullL (refOps P M Mod) rows n)) := by
 obtain ⟨hA, _⟩ := canon_rref hO hR
 have HCA := Lib.hid (fun w' (hb : Below w.heap.size w w') => rCanon_any w' P M n n mv v Mod rows (hm.below hb (Nat.le_refl _)) (hv.below hb (Nat.le_refl _)) ho hmod hR (Nat.le_refl _) hn hr)
 have HCB := Lib.hid (fun w' u (hb : Below w.heap.size w w') (hs : SS w' u (nullTo (refOps P M Mod) (canonL (refOps P M Mod) rows n) (pivL (refOps P M Mod) rows n) n n)) => rCanon_any w' P M n n mv u Mod _ (hm.below hb (Nat.le_refl _)) hs ho hmod (nullTo_Rows hO hA) (Nat.le_refl _) hn (by have := nullTo_len (refOps P M Mod) (canonL (refOps P M Mod) rows n) (pivL (refOps P M Mod) rows n) n n; omega))
 have HNE : Hid (nullL (refOps P M Mod) rows n = canonL (refOps P M Mod) (nullTo (refOps P M Mod) (canonL (refOps P M Mod) rows n) (pivL (refOps P M Mod) rows n) n n) n) := rfl
 have hAl : (canonL (refOps P M Mod) rows n).length ≤ n := by
   have h1 := (elimTo_piv (refOps P M Mod) rows n).2
   have h2 : (canonL (refOps P M Mod) rows n).length = (pivL (refOps P M Mod) rows n).length := hA.len.symm
   rw [h2]; exact h1
 have hpl : (pivL (refOps P M Mod) rows n).length = (canonL (refOps P M Mod) rows n).length := hA.len
 generalize canonL (refOps P M Mod) rows n = A at *
 generalize pivL (refOps P M Mod) rows n = p at *
 have hob := orderF_bounds P M
 have HOB := Lib.hid hob; have HO := Lib.hid ho; have HRA := Lib.hid hA; have HF := Lib.hid hO
 clear hm hv hO hmod hR hA hob ho
 obtain ⟨r, hrr⟩ : ∃ r, r = A.length := ⟨_, rfl⟩
 rw [← hrr] at hAl hpl
 have HAR := Lib.hid hrr; have HPL := Lib.hid hpl
 clear hrr hpl
 have HB0 := Lib.hid (FBox.mk' w P M mv)
 have hmk := fun (w : World) => run_mkI n (by omega) w
 go_enter Tryz.func103, Tryz.ntmps103
 go_wp2_with fail
 generalize hw0 : w.alloc (.cells #[.int .i64 P, .int .i64 M, mv] 24) = w0 at *
 clear hw0
 have c0 := HB0.out.c0; have c1 := HB0.out.c1; have c2 := HB0.out.c2
 go_wp2_with fail
 refine (HCA.out _ HB0.out.bel).mono ?_
 rintro e w1 ⟨u1, u2, rfl, h1, hn1, h2, hb1⟩
 obtain ⟨A2, c2', rfl⟩ := h2.form'
 rw [HPL.out] at h2 ⊢
 obtain ⟨A1, c1', e1, hsat⟩ := h1.out
 subst e1
 rw [← HAR.out]
 have HF1 := Lib.hid (HB0.out.on hb1)
 have HA := Lib.hid (show SS w1 (.slice A1 r c1') A from ⟨A1, c1', by rw [HAR.out], hsat⟩)
 have hlt : ∀ i, i < r → pvt p i < n := fun i hi => HRA.out.lt i (by rw [← HAR.out]; exact hi)
 have HP := Lib.hid (h2.si (by rw [HPL.out]; omega) (fun k => by
   by_cases hk : k < r
   · rw [HRA.out.nn k (by rw [← HAR.out]; exact hk)]
     have := hlt k hk
     exact I64.of_small (by omega) (by omega)
   · rw [getD_len (by rw [HPL.out]; omega)]; exact I64.zero))
 have HB1s := Lib.hid HF1.out.bel.size
 have HL0 := Lib.hid (RI.made w1 n)
 have HBa := Lib.hid (bl_alloc w1 (.cells (madeCells #[.int .i64 0] n) 3))
 clear h1 hn1 h2 hb1 c0 c1 c2 hsat
 go_wp2_with fail
 generalize w1.alloc (.cells (madeCells #[.int .i64 0] n) 3) = w2 at *
 go_loopw [10] (fun i wr => ∃ k : Nat, k ≤ n ∧ i = .int .i64 (k : Int) ∧ Hid (RI wr w1.heap.size (negTo n k)) ∧ Hid (Below w1.heap.size w1 wr)) (fun i _ => n - (intOf i).toNat)
 case atStart => exact ⟨0, Nat.zero_le _, rfl, HL0, HBa⟩
 case round =>
   clear HL0 HBa
   obtain ⟨k, hk, rfl, HL, HB⟩ := hrel
   by_cases hkn : k < n
   · have u0 := HL.out.cell k (by rw [negTo_len]; exact hkn)
     have uf := HL.out.frozen k
     have HL2 : Hid (RI (wr.setCell ⟨w1.heap.size, k, none⟩ (.int .i64 (-1))) w1.heap.size (negTo n (k + 1))) := hid' (HL.out.set k (-1))
     have HB2 := Lib.hid (HB.out.setCell (p := ⟨w1.heap.size, k, none⟩) (Nat.le_refl _) (.int .i64 (-1)))
     go_wp2_with fail
     exact ⟨⟨k + 1, by omega, by push_cast; rfl, HL2, HB2⟩, by simp only [intOf]; omega⟩
   obtain rfl : k = n := by omega
   have HLs : Hid (RI wr w1.heap.size (leadTo p k 0)) := HL
   clear HL hkn
   go_wp2_with fail
   go_loopw [11] (fun i wr => ∃ j : Nat, j ≤ r ∧ i = .int .i64 (j : Int) ∧ Hid (RI wr w1.heap.size (leadTo p k j)) ∧ Hid (Below w1.heap.size w1 wr)) (fun i _ => r - (intOf i).toNat)
   case atStart => exact ⟨0, Nat.zero_le _, rfl, HLs, HB⟩
   case round =>
     clear HLs HB
     obtain ⟨j, hj, rfl, HL, HB⟩ := hrel
     by_cases hjr : j < r
     · obtain ⟨pd, z, rfl, hc, _, HZ⟩ := (HP.out.below HB.out (Nat.le_refl _)).elt (k := j) (by rw [HPL.out]; exact hjr)
       have hz := HZ.out
       rw [HRA.out.nn j (by rw [← HAR.out]; exact hjr)] at hz
       subst hz
       have hpj := hlt j hjr
       have u0 := HL.out.cell (pvt p j) (by rw [leadTo_len]; exact hpj)
       have uf := HL.out.frozen (pvt p j)
       have HL2 : Hid (RI (wr.setCell ⟨w1.heap.size, pvt p j, none⟩ (.int .i64 (j : Int))) w1.heap.size (leadTo p k (j + 1))) := hid' (HL.out.set (pvt p j) (j : Int))
       have HB2 := Lib.hid (HB.out.setCell (p := ⟨w1.heap.size, pvt p j, none⟩) (Nat.le_refl _) (.int .i64 (j : Int)))
       generalize pvt p j = pj at *
       go_wp2_with fail
       exact ⟨⟨j + 1, by omega, by push_cast; rfl, HL2, HB2⟩, by simp only [intOf]; omega⟩
     obtain rfl : j = r := by omega
     clear hjr
     have HO0 : Hid (OS (w1.heap.size + 1) (fun _ => False) wr (.slice none 0 0) (nullTo (refOps P M Mod) A p k 0)) := hid' (OS.nil _ _ _)
     have HLI := Lib.hid (fun c (hc : c < k) => lead_iff HRA.out hc)
     rw [← HAR.out] at HLI
     have hqb := HOB.out
     go_wp2_with fail
     go_loopw [12, 13] (fun u i wr => ∃ (c l : Nat) (OA : Option Addr) (oc : Nat), c ≤ k ∧ i = .int .i64 (c : Int) ∧ u = .slice OA l oc ∧ Hid ((nullTo (refOps P M Mod) A p k c).length = l) ∧ Hid (OS (w1.heap.size + 1) (fun _ => False) wr (.slice OA l oc) (nullTo (refOps P M Mod) A p k c)) ∧ Hid (RI wr w1.heap.size (leadTo p k j)) ∧ Hid (Below w1.heap.size w1 wr)) (fun _ i _ => k - (intOf i).toNat)
     case atStart => exact ⟨0, 0, none, 0, Nat.zero_le _, rfl, rfl, rfl, HO0, HL, HB⟩
     case round =>
       clear HO0 HL HB
       obtain ⟨c, l, OA, oc, hc, rfl, rfl, HNL, HOS, HL, HB⟩ := hrel
       by_cases hck : c < k
       · obtain ⟨z, hz⟩ : ∃ z, z = (leadTo p k j).getD c 0 := ⟨_, rfl⟩
         have hlc := HL.out.cell c (by rw [leadTo_len]; exact hck)
         have hli := HLI.out c hck
         rw [← hz] at hlc hli
         clear hz
         cases hpv : isPv p c
         · have hz0 : decide (0 ≤ z) = false := by
             rw [decide_eq_false_iff_not, hli, hpv]; decide
           have HNX : Hid (nullTo (refOps P M Mod) A p k (c + 1) = nullTo (refOps P M Mod) A p k c ++ [freeTo (refOps P M Mod) A p k c j]) := hid' (by show _ = _; rw [nullTo, if_neg (by rw [hpv]; decide), HPL.out])
           have HX0 := Lib.hid (RI.made wr k)
           have hx0 : (wr.alloc (.cells (madeCells #[.int .i64 0] k) 3)).cell? ⟨wr.heap.size, c, none⟩ = some (.int .i64 0) := by
             have := HX0.out.cell c (by simp; exact hck)
             rw [this]; simp [List.getD, List.getElem?_replicate, hck]
           have hxf := HX0.out.frozen c
           have HX1 : Hid (RI ((wr.alloc (.cells (madeCells #[.int .i64 0] k) 3)).setCell ⟨wr.heap.size, c, none⟩ (.int .i64 1)) wr.heap.size (freeTo (refOps P M Mod) A p k c 0)) := hid' (HX0.out.set c 1)
           have hgr := gr_set1 (wr.alloc (.cells (madeCells #[.int .i64 0] k) 3)) wr.heap.size c (.int .i64 1)
           have HNEW : Hid (∀ g, (Value.slice OA l oc).ownBlock = some g → g ≠ wr.heap.size ∧ w1.heap.size < g) := hid' fun g hg => by have := HOS.out.lt hg; omega
           have HO1 := Lib.hid (((HOS.out.names (Y := fun g => g = wr.heap.size) (fun g h1 h2 => by omega)).alloc (.cells (madeCells #[.int .i64 0] k) 3)).grown hgr (fun g e => by
             have e2 := Option.some.inj e
             subst e2
             exact ⟨fun h => (HNEW.out _ h).1 rfl, rfl⟩))
           have hsz := HB.out.size
           have hlr := HL.out.lt
           have HL1 := Lib.hid ((HL.out.alloc (.cells (madeCells #[.int .i64 0] k) 3)).far (p := ⟨wr.heap.size, c, none⟩) (by show w1.heap.size ≠ wr.heap.size; omega) (.int .i64 1))
           have HBc := Lib.hid ((HB.out.alloc hsz (.cells (madeCells #[.int .i64 0] k) 3)).setCell (p := ⟨wr.heap.size, c, none⟩) hsz (.int .i64 1))
           have HGX : Hid (w1.heap.size < wr.heap.size) := hid' hlr
           clear HX0 hgr hli hsz hlr HOS HL HB
           have hsc := World.setCell_alloc_at (w := wr) (madeCells #[.int .i64 0] k) 3 wr.heap.size c (.int .i64 1) rfl
           rw [hsc] at HX1 HO1 HL1 HBc
           clear hsc
           go_wp2_with fail
           clear hx0 hxf hlc
           generalize wr.alloc (.cells ((madeCells #[.int .i64 0] k).setIfInBounds c (.int .i64 1)) 3) = w3 at *
           generalize hgx : wr.heap.size = gx at *
           clear hgx
           go_loopw [15] (fun i wr => ∃ b : Nat, b ≤ j ∧ i = .int .i64 (b : Int) ∧ Hid (RI wr gx (freeTo (refOps P M Mod) A p k c b)) ∧ Hid (OS (w1.heap.size + 1) (fun g => g = gx) wr (.slice OA l oc) (nullTo (refOps P M Mod) A p k c)) ∧ Hid (RI wr w1.heap.size (leadTo p k j)) ∧ Hid (Below w1.heap.size w1 wr)) (fun i _ => j - (intOf i).toNat)
           case atStart => exact ⟨0, Nat.zero_le _, rfl, HX1, HO1, HL1, HBc⟩
           case round =>
             clear HX1 HO1 HL1 HBc
             obtain ⟨b, hb, rfl, HX, HOS, HL, HB⟩ := hrel
             by_cases hbj : b < j
             · obtain ⟨pd, z2, rfl, hpc, _, HZ⟩ := (HP.out.below HB.out (Nat.le_refl _)).elt (k := b) (by rw [HPL.out]; exact hbj)
               have hz2 := HZ.out
               rw [HRA.out.nn b (by rw [← HAR.out]; exact hbj)] at hz2
               subst hz2
               have hpj := hlt b hbj
               obtain ⟨ra, Ak, ck, row, rfl, hd, HRR, HRE⟩ := (HA.out.below HB.out (Nat.le_refl _)).eltA (k := b) (by rw [← HAR.out]; exact hbj)
               have hrl : row.length = k := by rw [← HRE.out]; exact (HRA.out.rows b (by rw [← HAR.out]; exact hbj)).1
               obtain ⟨rd, y, rfl, he, _, HY⟩ := HRR.out.elt (k := c) (by rw [hrl]; exact hck)
               have HFB := Lib.hid (HF1.out.on HB.out)
               have c0 := HFB.out.c0; have c1 := HFB.out.c1; have c2 := HFB.out.c2
               have HFN : Hid ((freeTo (refOps P M Mod) A p k c b).set (pvt p b) (negF P M y) = freeTo (refOps P M Mod) A p k c (b + 1)) := hid' (by
                 show _ = _
                 rw [freeTo, show ent A b c = y by unfold ent; rw [HRE.out, HY.out]]; rfl)
               have u0 := HX.out.cell (pvt p b) (by rw [freeTo_len]; exact hpj)
               have uf := HX.out.frozen (pvt p b)
               have HC := Lib.hid hpc; have HD := Lib.hid hd; have HE := Lib.hid he
               have hkr : c < row.length := by omega
               obtain ⟨xv, hxv⟩ : ∃ xv, xv = (freeTo (refOps P M Mod) A p k c b).getD (pvt p b) 0 := ⟨_, rfl⟩
               rw [← hxv] at u0
               clear hxv HRE HRR HZ
               generalize pvt p b = pj at *
               go_wp2_with fail
               refine Drawn.start (S := fun w' => w'.cell? ⟨w.heap.size, 0, none⟩ = some (.int .i64 P) ∧ w'.cell? ⟨w.heap.size, 1, none⟩ = some (.int .i64 M) ∧ w'.cell? ⟨w.heap.size, 2, none⟩ = some mv ∧ w'.cell? (pd.add b) = some (.int .i64 (pj : Int)) ∧ w'.cell? (ra.add b) = some (.slice (some rd) row.length ck) ∧ w'.cell? (rd.add c) = some (.int .i64 y) ∧ w'.cell? ⟨gx, pj, none⟩ = some (.int .i64 xv) ∧ w'.frozen? ⟨gx, pj, none⟩ = false) (by kernel_rfl) (⟨c0, c1, c2, hpc, hd, he, u0, uf⟩) (fun hHeld => ?_)
               change Drawn _ _ _ _ 16 _ _ _
               refine Drawn.tk 0 (v := ?_) rfl ?_ hHeld ?_
               rotate_left
               · intro w' h; (try dsimp only at h); go_simp <;> with_reducible rfl
               try simp only [tda, tdb, tdc, Act.put, tdd, tde, tdf]
               refine Drawn.tk 1 (v := ?_) rfl ?_ hHeld ?_
               rotate_left
               · intro w' h; (try dsimp only at h); go_simp <;> with_reducible rfl
               try simp only [tda, tdb, tdc, Act.put, tdd, tde, tdf]
               refine Drawn.tk 2 (v := ?_) rfl ?_ hHeld ?_
               rotate_left
               · intro w' h; (try dsimp only at h); go_simp <;> with_reducible rfl
               try simp only [tda, tdb, tdc, Act.put, tdd, tde, tdf]
               refine Drawn.tk 3 (v := ?_) rfl ?_ hHeld ?_
               rotate_left
               · intro w' h; (try dsimp only at h); go_simp <;> with_reducible rfl
               try simp only [tda, tdb, tdc, Act.put, tdd, tde, tdf]
               refine Drawn.tk 4 (v := ?_) rfl ?_ hHeld ?_
               rotate_left
               · intro w' h; (try dsimp only at h); go_simp <;> with_reducible rfl
               try simp only [tda, tdb, tdc, Act.put, tdd, tde, tdf]
               refine Drawn.tk 5 (v := ?_) rfl ?_ hHeld ?_
               rotate_left
               · intro w' h; (try dsimp only at h); go_simp <;> with_reducible rfl
               try simp only [tda, tdb, tdc, Act.put, tdd, tde, tdf]
               refine Drawn.tk 6 (v := ?_) rfl ?_ hHeld ?_
               rotate_left
               · intro w' h; (try dsimp only at h); go_simp <;> with_reducible rfl
               try simp only [tda, tdb, tdc, Act.put, tdd, tde, tdf]
               refine Drawn.tk 7 (v := ?_) rfl ?_ hHeld ?_
               rotate_left
               · intro w' h; (try dsimp only at h); go_simp <;> with_reducible rfl
               try simp only [tda, tdb, tdc, Act.put, tdd, tde, tdf]
               refine Drawn.tk 8 (v := ?_) rfl ?_ hHeld ?_
               rotate_left
               · intro w' h; (try dsimp only at h); go_simp <;> with_reducible rfl
               try simp only [tda, tdb, tdc, Act.put, tdd, tde, tdf]
               refine Drawn.tk 9 (v := ?_) rfl ?_ hHeld ?_
               rotate_left
               · intro w' h; (try dsimp only at h); go_simp <;> with_reducible rfl
               try simp only [tda, tdb, tdc, Act.put, tdd, tde, tdf]
               refine Drawn.tk 10 (v := ?_) rfl ?_ hHeld ?_
               rotate_left
               · intro w' h; (try dsimp only at h); go_simp <;> with_reducible rfl
               try simp only [tda, tdb, tdc, Act.put, tdd, tde, tdf]
               refine Drawn.tk 11 (v := ?_) rfl ?_ hHeld ?_
               rotate_left
               · intro w' h; (try dsimp only at h); go_simp <;> with_reducible rfl
               try simp only [tda, tdb, tdc, Act.put, tdd, tde, tdf]
               refine Drawn.tk 12 (v := ?_) rfl ?_ hHeld ?_
               rotate_left
               · intro w' h; (try dsimp only at h); go_simp <;> with_reducible rfl
               try simp only [tda, tdb, tdc, Act.put, tdd, tde, tdf]
               refine Drawn.only (i := 13) (by kernel_rfl) rfl (fun K hK => ?_)
               go_simp
               refine (rNeg_any _ P M y mv HO.out).mono ?_; rintro e w4 ⟨rfl, hb4⟩; have HBd := Lib.hid (bl_trans (bl_drew wr) hb4); have HF4 := Lib.hid (HFB.out.on HBd.out); have HX4 := Lib.hid (HX.out.belowS HBd.out); have HO4 := Lib.hid (HOS.out.below HBd.out); have HL4 := Lib.hid (HL.out.belowS HBd.out); have HB4 := Lib.hid (bl_trans HB.out HBd.out); have c04 := HF4.out.c0; have c14 := HF4.out.c1; have c24 := HF4.out.c2; have hc4 := cell_below HBd.out HC.out; have hd4 := cell_below HBd.out HD.out; have he4 := cell_below HBd.out HE.out; have u04 := cell_below HBd.out u0; have uf4 := HX4.out.frozen pj; clear hb4
               refine hK.out _ _ (fun _ => ⟨c04, c14, c24, hc4, hd4, he4, u04, uf4⟩) (fun hHeld2 => ?_)
               clear hK K
               replace hHeld := hHeld2 (by decide)
               clear hHeld2
               try simp only [tda, tdb, tdc, Act.put, tdd, tde, tdf]
               refine Drawn.tk 14 (v := ?_) rfl ?_ hHeld ?_
               rotate_left
               · intro w' h; (try dsimp only at h); go_simp <;> with_reducible rfl
               try simp only [tda, tdb, tdc, Act.put, tdd, tde, tdf]
               refine Drawn.only (i := 15) (by kernel_rfl) rfl (fun K hK => ?_)
               go_simp
               refine hK.out _ _ (fun h => absurd rfl h) (fun hHeld2 => ?_)
               clear hK K
               clear hHeld2
               refine Drawn.done (by kernel_rfl) ?_
               try simp only [tda, tdb, tdc, Act.put, tdd, tde, tdf]
               clear hHeld
               have HX5 := Lib.hid (HX4.out.set pj (negF P M y))
               rw [HFN.out] at HX5
               have HO5 := Lib.hid (HO4.out.grown (gr_set1 w4 gx pj (.int .i64 (negF P M y))) (fun g e => by
                 have e2 := Option.some.inj e
                 subst e2
                 exact ⟨fun h => (HNEW.out _ h).1 rfl, rfl⟩))
               have hgx2 := HGX.out
               have HL5 := Lib.hid (HL4.out.far (p := ⟨gx, pj, none⟩) (by show w1.heap.size ≠ gx; omega) (.int .i64 (negF P M y)))
               have HB5 := Lib.hid (HB4.out.setCell (p := ⟨gx, pj, none⟩) (by show w1.heap.size ≤ gx; omega) (.int .i64 (negF P M y)))
               clear hgx2 c0 c1 c2 hpc hd he u0 uf
               go_wp2_with fail
               exact ⟨⟨b + 1, by omega, by push_cast; rfl, HX5, HO5, HL5, HB5⟩, by simp only [intOf]; omega⟩
             · obtain rfl : b = j := by omega
               have hgl := HX.out.lt
               have HXS : Hid (SI wr (.slice (some ⟨gx, 0, none⟩) k k) (freeTo (refOps P M Mod) A p k c b)) := hid' (by
                 have h := HX.out.si (by rw [freeTo_len]; omega) (fun i => by
                   have h1 := freeTo_rng HF.out HRA.out c i
                   rw [← HAR.out] at h1
                   exact I64.of_small (by omega) (by omega))
                 rwa [freeTo_len] at h)
               have HBX := Lib.hid (box1 (w := wr) (u := .slice (some ⟨gx, 0, none⟩) k k) (t := 22))
               have hba := bl_alloc wr (.cells #[.slice (some ⟨gx, 0, none⟩) k k] 22)
               have HXA := Lib.hid (HXS.out.below hba (Nat.le_refl _))
               have hsz := HB.out.size
               have HUP := Lib.hid (up_alloc (w := wr) (B := w1.heap.size + 1) (by have := HGX.out; omega) (.cells #[.slice (some ⟨gx, 0, none⟩) k k] 22))
               have HOA := Lib.hid ((HOS.out.names (Y := fun _ => False) (fun g _ h => h.elim)).alloc (.cells #[.slice (some ⟨gx, 0, none⟩) k k] 22))
               have HLA := Lib.hid (HL.out.alloc (.cells #[.slice (some ⟨gx, 0, none⟩) k k] 22))
               have HBA := Lib.hid (HB.out.alloc hsz (.cells #[.slice (some ⟨gx, 0, none⟩) k k] 22))
               have HNN := Lib.hid (nullTo_len (refOps P M Mod) A p k c)
               clear hba hgl hbj hsz
               go_wp2_with (at_builtin; refine wpList_pushS rfl _ _ rfl (w1.heap.size + 1) (fun _ => False) _ (nullTo (refOps P M Mod) A p k c) rfl HOA.out wr.heap.size 1 _ (freeTo (refOps P M Mod) A p k c b) rfl HBX.out HXA.out (fun _ g hg => ⟨fun e => (HNEW.out _ e).1 (by simp [Value.ownBlock] at hg; exact hg.symm), fun h => h⟩) (by have := HNN.out; omega) HUP.out ?_; (intro v5 w5 ho5 hg5 hv5); go_must (have HB5 := Lib.hid ((HOA.out.mono (B' := w1.heap.size) (by omega)).bgrown HBA.out (by have := HUP.out; omega) hg5); have HL5 := Lib.hid (HLA.out.grown hg5 (fun e => by have := (HNEW.out _ e.symm).2; omega)); obtain ⟨A5, c5, rfl⟩ := ho5.form; rw [← HNX.out] at ho5 ⊢; have HO5 := Lib.hid ho5; clear ho5 hg5 hv5))
               exact ⟨⟨c + 1, _, A5, c5, by omega, by push_cast; rfl, rfl, rfl, HO5, HL5, HB5⟩, by simp only [intOf]; omega⟩
         · have hz0 : decide (0 ≤ z) = true := by
             rw [decide_eq_true_iff, hli]; exact hpv
           have HNX : Hid (nullTo (refOps P M Mod) A p k (c + 1) = nullTo (refOps P M Mod) A p k c) := hid' (by show _ = _; rw [nullTo, if_pos hpv])
           clear hli
           go_wp2_with fail
           exact ⟨⟨c + 1, l, OA, oc, by omega, by push_cast; rfl, rfl, by rw [HNX.out]; exact HNL, by rw [HNX.out]; exact HOS, HL, HB⟩, by simp only [intOf]; omega⟩
       · obtain rfl : c = k := by omega
         have HFB := Lib.hid (HF1.out.on HB.out)
         have c0 := HFB.out.c0; have c1 := HFB.out.c1; have c2 := HFB.out.c2
         have hnl := nullTo_len (refOps P M Mod) A p c c
         have HSS := Lib.hid (HOS.out.ss (by omega))
         go_wp2_with fail
         refine (HCB.out _ _ HFB.out.bel HSS.out).mono ?_
         rintro e w5 ⟨u5, u6, rfl, h5, hn5, _, hb5⟩
         have H5 := Lib.hid h5; have HN5 := Lib.hid hn5
         have HB5 := Lib.hid (bl_trans HFB.out.bel hb5)
         have hsz5 := HFB.out.bel.size
         have HSZ := Lib.hid hsz5
         clear h5 hn5 hb5 c0 c1 c2
         go_wp2_with fail
         go_ret
         exact ⟨_, rfl, by rw [HNE.out]; exact H5.out.mono HSZ.out, by rw [HNE.out]; exact (HN5.out.names (fun g _ hg => Nat.lt_of_lt_of_le hg HSZ.out)).mono HSZ.out, HB5.out⟩
set_option maxHeartbeats 4000000 in
theorem index_any (w : World) (v : Value) (xs : List Int) (y : Int) (hv : SI w v xs) : Calls Tryz.prog 151 #[v, .int .i64 y] w (fun e w' => ∃ z, e = .returned (.int .i64 z) ∧ decide (0 ≤ z) = (xs.any fun x => x == y) ∧ w = w') := by
 obtain ⟨A, c, rfl, hv⟩ := hv
 have hn := hv.len
 have HV := Lib.hid hv; clear hv
 go_enter Tryz.func151, Tryz.ntmps151
 go_wp2_with fail
 go_loop [8] (fun i => ∃ k : Nat, k ≤ xs.length ∧ i = .int .i64 (k : Int) ∧ Hid (∀ j, j < k → xs.getD j 0 ≠ y)) (fun i => xs.length - (intOf i).toNat)
 case atStart => exact ⟨0, Nat.zero_le _, rfl, hid' fun j hj => absurd hj (Nat.not_lt_zero _)⟩
 case round =>
   obtain ⟨k, hk, rfl, HK⟩ := hrel
   by_cases hlt : k < xs.length
   · obtain ⟨ad, x, rfl, hc, _, HX⟩ := HV.out.elt hlt
     by_cases hx : y = x
     · have hb : (y == x) = true := by simpa using hx
       have HE : Hid ((xs.any fun x => x == y) = true) := by
         show _ = _
         rw [List.any_eq_true]
         exact ⟨xs.getD k 0, by rw [List.getD_eq_getElem?_getD, List.getElem?_eq_getElem hlt]; exact List.getElem_mem hlt, by rw [beq_iff_eq, HX.out]; exact hx.symm⟩
       clear hx
       go_wp2_with fail
       go_ret
       exact ⟨_, rfl, by rw [HE.out, decide_eq_true_eq]; show (0 : Int) ≤ (k : Int); omega, rfl⟩
     · have hb : (y == x) = false := by simpa using hx
       have HXX := Lib.hid hx; clear hx
       go_wp2_with fail
       go_round
       case rel => exact ⟨k + 1, by omega, by go_num, hid' fun j hj => by
         by_cases e : j = k
         · subst e; rw [HX.out]; exact fun h => HXX.out h.symm
         · exact HK.out j (by omega)⟩
       case measure => simp [intOf]; omega
   · have HE : Hid ((xs.any fun x => x == y) = false) := by
       show _ = _
       rw [List.any_eq_false]
       intro x hx e
       rw [beq_iff_eq] at e
       obtain ⟨j, hj, rfl⟩ := List.mem_iff_getElem.1 hx
       refine HK.out j (by omega) ?_
       rw [List.getD_eq_getElem?_getD, List.getElem?_eq_getElem hj]
       exact e
     go_wp2_with fail
     go_ret
     exact ⟨_, rfl, by rw [HE.out]; rfl, rfl⟩
set_option maxHeartbeats 4000000 in
theorem contains_any (w : World) (v : Value) (xs : List Int) (y : Int) (hv : SI w v xs) : Calls Tryz.prog 122 #[v, .int .i64 y] w (fun e w' => e = .returned (.bool (xs.any fun x => x == y)) ∧ w = w') := by
 have HV := Lib.hid hv; clear hv
 go_enter Tryz.func122, Tryz.ntmps122
 go_wp2_with fail
 refine (index_any _ v xs y HV.out).mono ?_
 rintro e w1 ⟨z, rfl, hz, rfl⟩
 have HZ := Lib.hid hz; clear hz
 go_wp2_with fail
 go_ret
 exact ⟨by rw [← HZ.out]; rfl, rfl⟩
def RetMx (w : World) (n : Nat) (xss : List (List Int)) (e : Ending) (w' : World) : Prop :=
 ∃ u, e = .returned (.tuple #[.agg #[.int .i64 (n : Int), u], .int .i64 0]) ∧ Sep w.heap.size w' (fun w2 => SS w2 u xss) ∧ Below w.heap.size w w'
set_option maxHeartbeats 16000000 in
theorem mKernel_ok (w : World) (P M : Int) (n : Nat) (mv rv : Value) (Mod : List Int) (rows : List (List Int)) (hm : SI w mv Mod) (hv : SS w rv rows) (he : matE P M Mod n rows = 0) :
  Calls Tryz.prog 82 #[.agg #[.int .i64 P, .int .i64 M, mv], .agg #[.int .i64 (n : Int), rv]] w (RetMx w n (nullL (refOps P M Mod) rows n)) := by
 have HM := Lib.hid hm; have HV := Lib.hid hv; clear hm hv
 obtain ⟨hf, _, hn, hr, hR⟩ := matE_zero he
 rw [Int.toNat_natCast] at hR
 have hO := ref_fld hf
 obtain ⟨hA, _⟩ := canon_rref hO hR
 have HR := Lib.hid hR
 have HE := Lib.hid he
 have HF := Lib.hid hO
 have HFD := Lib.hid hf
 have HNE : Hid (nullL (refOps P M Mod) rows n = canonL (refOps P M Mod) (nullTo (refOps P M Mod) (canonL (refOps P M Mod) rows n) (pivL (refOps P M Mod) rows n) n n) n) := rfl
 have HNR := Lib.hid (nullTo_Rows hO hA)
 have hAl : (canonL (refOps P M Mod) rows n).length ≤ n := by
  have h1 := (elimTo_piv (refOps P M Mod) rows n).2
  have h2 : (canonL (refOps P M Mod) rows n).length = (pivL (refOps P M Mod) rows n).length := hA.len.symm
  rw [h2]; exact h1
 have hob := orderF_bounds P M
 have HOB := Lib.hid hob
 clear he hR hf hO hob
 obtain ⟨RA, rc, rfl, _⟩ := HV.out
 obtain ⟨r0, hrr⟩ : ∃ r0, r0 = rows.length := ⟨_, rfl⟩
 rw [← hrr] at HV hr ⊢
 have HRR := Lib.hid hrr; clear hrr
 obtain ⟨w1, e1, hq, hsz⟩ := FMQ.mk' w P M mv n (.slice RA r0 rc)
 have HQ := Lib.hid hq; have HE1 := Lib.hid e1; clear hq e1
 have hmk := fun (w : World) => run_mkI n (by omega) w
 have HRA := Lib.hid hA; clear hA
 go_enter Tryz.func82, Tryz.ntmps82
 go_wp2_with fail
 rw [HE1.out]
 clear HE1
 have c0 := HQ.out.fm.fb.c0; have c1 := HQ.out.fm.fb.c1; have c2 := HQ.out.fm.fb.c2; have d0 := HQ.out.fm.d0; have d1 := HQ.out.fm.d1
 go_wp2_with fail
 refine (mopen_ok w w1 P M n _ mv _ Mod rows HQ.out.fm.fb.bel hsz HM.out HV.out HE.out).mono ?_
 rintro e w2 ⟨a, rfl, hg, hb2⟩
 have HG := Lib.hid hg
 have HQ2 := Lib.hid (HQ.out.on hb2)
 clear hg hb2 c0 c1 c2 d0 d1 HQ
 have d0 := HQ2.out.fm.d0; have d1 := HQ2.out.fm.d1
 go_wp2_with fail
 refine (mcanon_any w2 a P M n Mod _ rows HG.out (HV.out.below HQ2.out.fm.fb.bel (Nat.le_refl _)) HR.out (by omega) (by rw [← HRR.out]; omega)).mono ?_
 rintro e w3 ⟨AA, U, uc, rfl, hs, _, hb3⟩
 have hlt2 := HQ2.out.q.lt
 have HQ3 := Lib.hid (HQ2.out.on hb3)
 have HG3 := Lib.hid (HG.out.on hb3)
 have hpl := HRA.out.len
 generalize canonL (refOps P M Mod) rows n = Am at *
 generalize pivL (refOps P M Mod) rows n = p at *
 obtain ⟨r, hrr⟩ : ∃ r, r = Am.length := ⟨_, rfl⟩
 rw [hpl] at hs ⊢
 rw [← hrr] at hAl hpl hs ⊢
 have HAR := Lib.hid hrr; have HPL := Lib.hid hpl
 clear hrr hpl
 have HA := Lib.hid hs.out.1; have HP := Lib.hid hs.out.2
 have hlt : ∀ i, i < r → pvt p i < n := fun i hi => HRA.out.lt i (by rw [← HAR.out]; exact hi)
 clear hs hb3 d0 d1
 have d0 := HQ3.out.fm.d0
 go_wp2_with fail
 clear d0
 go_loopw [10, 37] (fun u i wr => ∃ (c l : Nat) (OA : Option Addr) (oc : Nat), c ≤ n ∧ i = .int .i64 (c : Int) ∧ u = .slice OA l oc ∧ Hid ((nullTo (refOps P M Mod) Am p n c).length = l) ∧ Hid (OS w3.heap.size (fun _ => False) wr (.slice OA l oc) (nullTo (refOps P M Mod) Am p n c)) ∧ Hid (Below w3.heap.size w3 wr)) (fun _ i _ => n - (intOf i).toNat)
 case atStart => exact ⟨0, 0, none, 0, Nat.zero_le _, rfl, rfl, rfl, OS.nil _ _ _, bl_refl _⟩
 case round =>
  obtain ⟨c, l, OA, oc, hc, rfl, rfl, HNL, HOS, HB⟩ := hrel
  have d0 := (HQ3.out.on HB.out).fm.d0
  by_cases hck : c < n
  ·cases hpv : isPv p c
   ·have HPV : Hid ((p.any fun x => x == (c : Int)) = false) := hpv
    have HNX : Hid (nullTo (refOps P M Mod) Am p n (c + 1) = nullTo (refOps P M Mod) Am p n c ++ [freeTo (refOps P M Mod) Am p n c r]) := hid' (by show _ = _; rw [nullTo, if_neg (by rw [hpv]; decide), HPL.out])
    clear hpv
    have HX0 := Lib.hid (RI.made wr n)
    have hx0 : (wr.alloc (.cells (madeCells #[.int .i64 0] n) 3)).cell? ⟨wr.heap.size, c, none⟩ = some (.int .i64 0) := by
     have := HX0.out.cell c (by simp; exact hck)
     rw [this]; simp [List.getD, List.getElem?_replicate, hck]
    have hxf := HX0.out.frozen c
    have HX1 : Hid (RI ((wr.alloc (.cells (madeCells #[.int .i64 0] n) 3)).setCell ⟨wr.heap.size, c, none⟩ (.int .i64 1)) wr.heap.size (freeTo (refOps P M Mod) Am p n c 0)) := hid' (HX0.out.set c 1)
    have hgr := gr_set1 (wr.alloc (.cells (madeCells #[.int .i64 0] n) 3)) wr.heap.size c (.int .i64 1)
    have HNEW : Hid (∀ g, (Value.slice OA l oc).ownBlock = some g → g ≠ wr.heap.size) := hid' fun g hg => by have := HOS.out.lt hg; omega
    have HO1 := Lib.hid (((HOS.out.names (Y := fun g => g = wr.heap.size) (fun g h1 h2 => by omega)).alloc (.cells (madeCells #[.int .i64 0] n) 3)).grown hgr (fun g e => by
     have e2 := Option.some.inj e
     subst e2
     exact ⟨fun h => HNEW.out _ h rfl, rfl⟩))
    have hsz3 := HB.out.size
    have HBc := Lib.hid ((HB.out.alloc hsz3 (.cells (madeCells #[.int .i64 0] n) 3)).setCell (p := ⟨wr.heap.size, c, none⟩) hsz3 (.int .i64 1))
    clear HX0 hgr HOS
    have hsc := World.setCell_alloc_at (w := wr) (madeCells #[.int .i64 0] n) 3 wr.heap.size c (.int .i64 1) rfl
    rw [hsc] at HX1 HO1 HBc
    clear hsc
    go_wp2_with fail
    refine (contains_any _ _ p (c : Int) (HP.out.below HB.out (Nat.le_refl _))).mono ?_
    rintro e w4 ⟨rfl, rfl⟩
    rw [HPV.out]
    go_wp2_with fail
    clear hx0 hxf HB d0
    generalize wr.alloc (.cells ((madeCells #[.int .i64 0] n).setIfInBounds c (.int .i64 1)) 3) = w5 at *
    generalize hgx : wr.heap.size = gx at *
    clear hgx
    go_loopw [51] (fun i wr => ∃ b : Nat, b ≤ r ∧ i = .int .i64 (b : Int) ∧ Hid (RI wr gx (freeTo (refOps P M Mod) Am p n c b)) ∧ Hid (OS w3.heap.size (fun g => g = gx) wr (.slice OA l oc) (nullTo (refOps P M Mod) Am p n c)) ∧ Hid (Below w3.heap.size w3 wr)) (fun i _ => r - (intOf i).toNat)
    case atStart => exact ⟨0, Nat.zero_le _, rfl, HX1, HO1, HBc⟩
    case round =>
     clear HX1 HO1 HBc
     obtain ⟨b, hb, rfl, HX, HOS, HB⟩ := hrel
     by_cases hbj : b < r
     ·obtain ⟨pd, z2, rfl, hpc, _, HZ⟩ := (HP.out.below HB.out (Nat.le_refl _)).elt (k := b) (by rw [HPL.out]; exact hbj)
      have hz2 := HZ.out
      rw [HRA.out.nn b (by rw [← HAR.out]; exact hbj)] at hz2
      subst hz2
      have hpj := hlt b hbj
      obtain ⟨ra, Ak, ck, row, rfl, hd, HRW, HRE⟩ := (HA.out.below HB.out (Nat.le_refl _)).eltA (k := b) (by rw [← HAR.out]; exact hbj)
      have hrl : row.length = n := by rw [← HRE.out]; exact (HRA.out.rows b (by rw [← HAR.out]; exact hbj)).1
      obtain ⟨rd, y, rfl, hy, _, HY⟩ := HRW.out.elt (k := c) (by rw [hrl]; exact hck)
      have HFN : Hid ((freeTo (refOps P M Mod) Am p n c b).set (pvt p b) (negF P M y) = freeTo (refOps P M Mod) Am p n c (b + 1)) := hid' (by
       show _ = _
       rw [freeTo, show ent Am b c = y by unfold ent; rw [HRE.out, HY.out]]; rfl)
      have hkr : c < row.length := by omega
      have HPJ : Hid (pvt p b < (freeTo (refOps P M Mod) Am p n c b).length) := hid' (by rw [freeTo_len]; exact hpj)
      clear HRE HRW HZ
      generalize pvt p b = pj at *
      go_wp2_with fail
      refine (gneg_any _ a P M y Mod (HG3.out.on HB.out)).mono ?_
      rintro e w6 ⟨rfl, hb6⟩
      have HX6 := Lib.hid (HX.out.belowS hb6)
      have HO6 := Lib.hid (HOS.out.below hb6)
      have HB6 := Lib.hid (bl_trans HB.out hb6)
      have u0 := HX6.out.cell pj HPJ.out
      have uf := HX6.out.frozen pj
      clear hb6
      go_wp2_with fail
      have HX7 := Lib.hid (HX6.out.set pj (negF P M y))
      rw [HFN.out] at HX7
      have HO7 := Lib.hid (HO6.out.grown (gr_set1 w6 gx pj (.int .i64 (negF P M y))) (fun g e => by
       have e2 := Option.some.inj e
       subst e2
       exact ⟨fun h => HNEW.out _ h rfl, rfl⟩))
      have HB7 := Lib.hid (HB6.out.setCell (p := ⟨gx, pj, none⟩) hsz3 (.int .i64 (negF P M y)))
      exact ⟨⟨b + 1, by omega, by push_cast; rfl, HX7, HO7, HB7⟩, by simp only [intOf]; omega⟩
     ·obtain rfl : b = r := by omega
      have hgl := HX.out.lt
      have hob := HOB.out
      have HXS : Hid (SI wr (.slice (some ⟨gx, 0, none⟩) n n) (freeTo (refOps P M Mod) Am p n c b)) := hid' (by
       have h := HX.out.si (by rw [freeTo_len]; omega) (fun i => by
        have h1 := freeTo_rng HF.out HRA.out c i
        rw [← HAR.out] at h1
        exact I64.of_small (by omega) (by omega))
       rwa [freeTo_len] at h)
      have HBX := Lib.hid (box1 (w := wr) (u := .slice (some ⟨gx, 0, none⟩) n n) (t := 22))
      have hba := bl_alloc wr (.cells #[.slice (some ⟨gx, 0, none⟩) n n] 22)
      have HXA := Lib.hid (HXS.out.below hba (Nat.le_refl _))
      have hsz4 := HB.out.size
      have HUP := Lib.hid (up_alloc (w := wr) (B := w3.heap.size) hsz4 (.cells #[.slice (some ⟨gx, 0, none⟩) n n] 22))
      have HOA := Lib.hid ((HOS.out.names (Y := fun _ => False) (fun g _ h => h.elim)).alloc (.cells #[.slice (some ⟨gx, 0, none⟩) n n] 22))
      have HBA := Lib.hid (HB.out.alloc hsz4 (.cells #[.slice (some ⟨gx, 0, none⟩) n n] 22))
      have HNN := Lib.hid (nullTo_len (refOps P M Mod) Am p n c)
      clear hba hgl hbj hsz4 hob
      go_wp2_with (at_builtin; refine wpList_pushS rfl _ _ rfl w3.heap.size (fun _ => False) _ (nullTo (refOps P M Mod) Am p n c) rfl HOA.out wr.heap.size 1 _ (freeTo (refOps P M Mod) Am p n c b) rfl HBX.out HXA.out (fun _ g hg => ⟨fun e => HNEW.out _ e (by simp [Value.ownBlock] at hg; exact hg.symm), fun h => h⟩) (by have := HNN.out; omega) HUP.out ?_; (intro v5 w5 ho5 hg5 hv5); go_must (have HB5 := Lib.hid (HOA.out.bgrown HBA.out HUP.out hg5); rw [← HNX.out] at ho5; obtain ⟨A5, c5, rfl⟩ := ho5.form; have HO5 := Lib.hid ho5); clear ho5 hg5 hv5)
      exact ⟨⟨c + 1, _, A5, c5, by omega, by push_cast; rfl, rfl, rfl, HO5, HB5⟩, by simp only [intOf]; omega⟩
   ·have HPV : Hid ((p.any fun x => x == (c : Int)) = true) := hpv
    have HNX : Hid (nullTo (refOps P M Mod) Am p n (c + 1) = nullTo (refOps P M Mod) Am p n c) := hid' (by show _ = _; rw [nullTo, if_pos hpv])
    clear hpv
    go_wp2_with fail
    refine (contains_any _ _ p (c : Int) (HP.out.below HB.out (Nat.le_refl _))).mono ?_
    rintro e w4 ⟨rfl, rfl⟩
    rw [HPV.out]
    go_wp2_with fail
    exact ⟨⟨c + 1, l, OA, oc, by omega, by push_cast; rfl, rfl, by rw [HNX.out]; exact HNL, by rw [HNX.out]; exact HOS, HB⟩, by simp only [intOf]; omega⟩
  ·obtain rfl : c = n := by omega
   have hnl := nullTo_len (refOps P M Mod) Am p c c
   have HSS := Lib.hid (HOS.out.ss (by omega))
   have HQ4 := Lib.hid (HQ3.out.on HB.out)
   have HG4 := Lib.hid (HG3.out.on HB.out)
   go_wp2_with fail
   refine (mcanon_any wr a P M c Mod _ _ HG4.out HSS.out HNR.out (by omega) (by omega)).mono ?_
   rintro e w5 ⟨AA5, U5, uc5, rfl, hs5, _, hb5⟩
   rw [← HNE.out] at hs5 ⊢
   generalize hkk : (nullL (refOps P M Mod) rows c).length = k at *
   have HK := Lib.hid hkk; clear hkk
   have HS5 := Lib.hid (hs5.imp fun _ h => h.1)
   have hlt4 := HQ4.out.q.lt
   have HQ5 := Lib.hid (HQ4.out.on hb5)
   clear hs5 hb5 d0
   have d0 := HQ5.out.fm.d0
   obtain ⟨r0', r1', f0, f1⟩ := HQ5.out.q.two
   go_wp2_with fail
   obtain ⟨w6, h6, HL⟩ := lay2 (x := .int .i64 (c : Int)) (y := .slice AA5 k k) HQ5.out.q
   rw [h6]
   have q0 := HL.c0; have q1 := HL.c1
   refine bodyPost_ret (v := .tuple #[.agg #[.int .i64 (c : Int), .slice AA5 k k], .int .i64 0]) (by simp [results, Tryz.results82, go_sem, q0, q1]) rfl ?_
   exact ⟨_, rfl, (HS5.out.grown HL.gr (by rintro g e; cases e; omega)).mono HQ4.out.fm.fb.bel.size, HL.below HQ5.out.fm.fb.bel HQ5.out.fm.fb.bel.size (by omega)⟩
end Go.Proofs.YtodgdoglhecolaaGreat
namespace Go.Proofs.YtodgdoglhecolaaGreat
theorem ent_app_left {A B : List (List Int)} {i : Nat} (h : i < A.length) (j : Nat) : ent (A ++ B) i j = ent A i j := by
 unfold ent; simp [List.getD, List.getElem?_append_left h]
theorem ent_app_right {A B : List (List Int)} (i j : Nat) : ent (A ++ B) (A.length + i) j = ent B i j := by
 unfold ent; simp [List.getD, List.getElem?_append_right (Nat.le_add_right A.length i)]
theorem Rows.app {q : Int} {n : Nat} {A B : List (List Int)} (hA : Rows q n A) (hB : Rows q n B) : Rows q n (A ++ B) := fun k hk => by
 rw [List.length_append] at hk
 by_cases h : k < A.length
 ·have : (A ++ B).getD k [] = A.getD k [] := by simp [List.getD, List.getElem?_append_left h]
  rw [this]; exact hA k h
 ·have : (A ++ B).getD k [] = B.getD (k - A.length) [] := by simp [List.getD, List.getElem?_append_right (show A.length ≤ k by omega)]
  rw [this]; exact hB _ (by omega)
section
variable {O : FOps} {q : Int} (hO : O.Fld q)
include hO
theorem sumTo_split (f : Nat → Int) (a : Nat) : ∀ b, sumTo O f (a + b) = O.add (sumTo O f a) (sumTo O (fun i => f (a + i)) b)
 | 0 => (hO.add_zero _ (sumTo_lt hO _ _).1 (sumTo_lt hO _ _).2).symm
 | b + 1 => by rw [← Nat.add_assoc, sumTo, sumTo_split f a b, sumTo, hO.add_assoc]
theorem span_app {A B : List (List Int)} (x : Nat → Int) : Span O (A ++ B) x ↔ ∃ y z, Span O A y ∧ Span O B z ∧ ∀ j, x j = O.add (y j) (z j) := by
 constructor
 ·rintro ⟨a, ha⟩
  refine ⟨_, _, ⟨a, fun j => rfl⟩, ⟨fun i => a (A.length + i), fun j => rfl⟩, fun j => ?_⟩
  rw [ha j, List.length_append, sumTo_split hO]
  congr 1
  ·exact sumTo_congr fun i hi => by rw [ent_app_left hi]
  ·exact sumTo_congr fun i _ => by rw [ent_app_right]
 ·rintro ⟨y, z, ⟨a, ha⟩, ⟨b, hb⟩, h⟩
  refine ⟨fun i => if i < A.length then a i else b (i - A.length), fun j => ?_⟩
  rw [h j, ha j, hb j, List.length_append, sumTo_split hO]
  congr 1
  ·exact sumTo_congr fun i hi => by dsimp only; rw [if_pos hi, ent_app_left hi]
  ·exact sumTo_congr fun i _ => by dsimp only; rw [if_neg (show ¬ A.length + i < A.length by omega), ent_app_right, Nat.add_sub_cancel_left]
end
theorem order21 : orderF 2 1 = 2 := by decide
section
variable {O : FOps} {q : Int} (hO : O.Fld q)
include hO
omit hO in
theorem Rref.fst {n : Nat} {A : List (List Int)} {p : List Int} (hA : Rref O q n A p) {i : Nat} (hi : i < A.length) : fstNz (A.getD i []) = pvt p i := by
 have h1 := (hA.rows i hi).1
 have h2 := hA.lt i hi
 exact fstNz_eq (by omega) (hA.low i hi) (fun _ => by rw [show (A.getD i []).getD (pvt p i) 0 = 1 from hA.one i hi]; decide)
theorem restTo_getD {n : Nat} {A : List (List Int)} {p : List Int} (hA : Rref O q n A p) {x : List Int} (hx : Rng q x) (hl : x.length = n) (j : Nat) : ∀ i, i ≤ A.length →
  (restTo O A x i).getD j 0 = O.add (x.getD j 0) (sumTo O (fun k => O.mul (O.neg (x.getD (pvt p k) 0)) (ent A k j)) i)
 | 0, _ => (hO.add_zero _ (hx j).1 (hx j).2).symm
 | i + 1, hi => by
  rw [restTo, addToL_getD hO _ (restTo_rng hO.lt A hx i) (by rw [restTo_len, hl, (hA.rows i (by omega)).1]; exact Nat.le_refl _), restTo_getD hA hx hl j i (by omega), hA.fst (by omega), sumTo, hO.add_assoc]
  rfl
end
end Go.Proofs.YtodgdoglhecolaaGreat
