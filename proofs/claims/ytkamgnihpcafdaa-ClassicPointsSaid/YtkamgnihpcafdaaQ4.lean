/- Texts of a claim, merged: words, plain facts and walks that the last of its texts uses. -/
import Derived.Test.YtkamgnihpcafdaaQ1
import Derived.Test.YtkamgnihpcafdaaQ2
import Derived.Test.YtkamgnihpcafdaaQ3
import Derived.OrdersHeld
import Derived.StillTail
import Derived.Deep.CutRange
import Derived.Deep.RegionWith
set_option linter.unusedSimpArgs false
set_option linter.unusedVariables false

/- ref10.Rest, In, Check. -/
namespace Go.Proofs.Ytkamgnihpcafdaa
open Go.RowKit
set_option linter.unusedVariables false
set_option maxRecDepth 100000

/-- what is left of x behind the first i rows: each taken from it so often as x has at the row's first place -/
def restTo (O : FOps) (rows : List (List Int)) (x : List Int) : Nat → List Int
  | 0 => x
  | i + 1 => addToL O (restTo O rows x i) (O.neg (x.getD (fstNz (rows.getD i [])) 0)) (rows.getD i [])
def restL (O : FOps) (rows : List (List Int)) (x : List Int) : List Int := restTo O rows x rows.length
theorem restTo_len (O : FOps) (rows : List (List Int)) (x : List Int) : ∀ i, (restTo O rows x i).length = x.length
  | 0 => rfl
  | i + 1 => by rw [restTo, addToL_len, restTo_len O rows x i]
theorem restTo_rng {O : FOps} {q : Int} (hO : O.Lt q) (rows : List (List Int)) {x : List Int} (hx : Rng q x) : ∀ i, Rng q (restTo O rows x i)
  | 0 => hx
  | i + 1 => by
    rw [restTo]
    exact (Rows.addTo hO (restTo_rng hO rows hx i) _ _).2
theorem pivots_getD (rows : List (List Int)) {k : Nat} (hk : k < rows.length) : (pivots rows).getD k 0 = (fstNz (rows.getD k []) : Int) := by
  simp [pivots, List.getD, hk]
theorem pivots_len (rows : List (List Int)) : (pivots rows).length = rows.length := by simp [pivots]

set_option maxHeartbeats 8000000 in
theorem rRest_any (w : World) (P M : Int) (mv v vx : Value) (Mod x : List Int) (rows : List (List Int)) (hm : SI w mv Mod) (hx : SI w vx x) (hv : SS w v rows) (ho : orderF P M ≠ 0) (hmod : ModP P M Mod)
    (hR : ∀ k, k < rows.length → fstNz (rows.getD k []) < x.length ∧ x.length ≤ (rows.getD k []).length) (hn : x.length ≤ 100000) (hxr : Rng (orderF P M) x) :
    Calls Try.prog 66 #[.agg #[.int .i64 P, .int .i64 M, mv], v, vx] w (RetO w (restL (refOps P M Mod) rows x)) := by
  obtain ⟨XA, xc, rfl, hx⟩ := hx
  have HX := Lib.hid hx.si; clear hx
  obtain ⟨A, c, rfl, hv⟩ := hv
  have hrl := hv.len
  have HV := Lib.hid (show SS w (.slice A rows.length c) rows from ⟨A, c, rfl, hv⟩); clear hv
  have HM := Lib.hid hm; have HMOD := Lib.hid hmod; have HO := Lib.hid ho; have HR := Lib.hid hR; have HXR := Lib.hid hxr
  have HLT := Lib.hid (refOps_lt ho Mod)
  have HOB := Lib.hid (orderF_bounds P M)
  clear hm hmod ho hR hxr
  obtain ⟨n, hn1⟩ : ∃ n, n = rows.length := ⟨_, rfl⟩
  rw [← hn1] at HV hrl ⊢
  obtain ⟨m, hm1⟩ : ∃ m, m = x.length := ⟨_, rfl⟩
  rw [← hm1] at HX hn ⊢
  have HN := Lib.hid hn1; have HMM := Lib.hid hm1; clear hn1 hm1
  have HF := Lib.hid (FBox.mk' w P M mv)
  go_enter Try.func66, Try.ntmps66
  go_wp2_with fail
  refine (rPivots_any _ _ rows (HV.out.below HF.out.bel (Nat.le_refl _))).mono ?_
  rintro e w1 ⟨u1, rfl, ho1, hb1⟩
  obtain ⟨PA, pc, rfl⟩ := ho1.form'
  rw [pivots_len, ← HN.out] at ho1 ⊢
  have HF1 := Lib.hid (HF.out.on hb1)
  have HP1 := Lib.hid (ho1.mono (B' := w.heap.size) (by have := HF.out.bel.size; exact this))
  clear hb1 ho1
  have HE0 := Lib.hid (OI.empty (B := w1.heap.size) w1 (Nat.le_refl _))
  have HX0 := Lib.hid (HX.out.below (bl_trans HF1.out.bel (bl_alloc w1 (.cells #[] 3))) (Nat.le_refl _))
  have T1 : Hid (([] : List Int).length + x.length ≤ 17592186044416) := by show _ ≤ _; rw [← HMM.out]; simp; omega
  have T3 : Hid (w1.heap.size ≤ (w1.alloc (.cells #[] 3)).heap.size) := by show _ ≤ _; simp
  go_wp2_with (at_builtin; refine wpList_catI rfl _ _ rfl w1.heap.size _ _ rfl HE0.out _ x rfl HX0.out T1.out T3.out ?_; intro v2 w2 ho hg hv2)
  have hb2 := HE0.out.bgrown (bl_alloc w1 (.cells #[] 3)) T3.out hg
  rw [List.nil_append] at ho
  obtain ⟨RA, rc, rfl⟩ := ho.form'
  rw [← HMM.out] at ho ⊢
  have HF2 := Lib.hid (HF1.out.on hb2)
  have HP2 := Lib.hid (HP1.out.below hb2 (Nat.le_refl _))
  have HR2 : Hid (OI w.heap.size w2 (.slice RA m rc) (restTo (refOps P M Mod) rows x 0)) := hid' (ho.mono HF1.out.bel.size)
  clear ho hg hv2 hb2 HE0 HX0 T1 T3
  go_wp2_with fail
  go_loopw [8, 9] (fun u i wr => ∃ (k : Nat) (UA : Option Addr) (uc : Nat), k ≤ n ∧ i = .int .i64 (k : Int) ∧ u = .slice UA m uc ∧ Hid (OI w.heap.size wr (.slice UA m uc) (restTo (refOps P M Mod) rows x k)) ∧ Hid (OI w.heap.size wr (.slice PA n pc) (pivots rows)) ∧ Hid (FBox w wr P M mv)) (fun _ i _ => (n - intOf i).toNat)
  case atStart => exact ⟨0, _, _, Nat.zero_le _, rfl, rfl, HR2, HP2, HF2⟩
  case round =>
    clear HR2 HP2 HF2 HF1 HP1 HF
    obtain ⟨k, UA, uc, hk, rfl, rfl, HOI, HPI, HFR⟩ := hrel
    by_cases hlt : k < n
    · have hpw : ∀ i, I64 ((pivots rows).getD i 0) := fun i => by
        by_cases hi : i < rows.length
        · rw [pivots_getD rows hi]
          have := (HR.out i hi).1
          have := HMM.out
          exact I64.of_small (by omega) (by omega)
        · rw [getD_len (by rw [pivots_len]; omega)]; exact I64.zero
      obtain ⟨pd, p, rfl, hc, _, HPE⟩ := (HPI.out.si (by rw [pivots_len, ← HN.out]; exact hrl) hpw).elt (k := k) (by rw [pivots_len, ← HN.out]; exact hlt)
      obtain ⟨ra, Ak, ck, r, rfl, hd, HRR, HRE⟩ := (HV.out.below HFR.out.bel (Nat.le_refl _)).eltA (k := k) (by rw [← HN.out]; exact hlt)
      obtain ⟨hf1, hf2⟩ := HR.out k (by rw [← HN.out]; exact hlt)
      have hpp := HPE.out
      rw [pivots_getD rows (by rw [← HN.out]; exact hlt), HRE.out] at hpp
      rw [HRE.out, ← HMM.out] at hf1 hf2
      obtain ⟨f, hf⟩ : ∃ f, f = fstNz r := ⟨_, rfl⟩
      rw [← hf] at hpp hf1
      obtain rfl := hpp
      obtain ⟨xd, y, rfl, he, _, HY⟩ := (HX.out.below HFR.out.bel (Nat.le_refl _)).elt (k := f) (by rw [← HMM.out]; exact hf1)
      have HCN : Hid (restTo (refOps P M Mod) rows x (k + 1) = addToL (refOps P M Mod) (restTo (refOps P M Mod) rows x k) (negF P M y) r) := by
        show _ = _
        rw [restTo, HRE.out, ← hf, HY.out]; rfl
      have HFF := Lib.hid hf; have HF2 := Lib.hid hf2; clear hf hf2 hpw
      have HCL : Hid ((restTo (refOps P M Mod) rows x k).length = m) := by show _ = _; rw [restTo_len, HMM.out]
      have HCS := Lib.hid (HOI.out.si (by rw [HCL.out]; omega) (fun j => by have := restTo_rng HLT.out rows HXR.out k j; have := HOB.out; exact I64.of_small (by omega) (by omega)))
      have c0 := HFR.out.c0; have c1 := HFR.out.c1; have c2 := HFR.out.c2
      have HC := Lib.hid hc; have HD := Lib.hid hd; have HE := Lib.hid he
      go_wp2_with fail
      go_region_held3 (fun w' => w'.cell? ⟨w.heap.size, 0, none⟩ = some (.int .i64 P) ∧ w'.cell? ⟨w.heap.size, 1, none⟩ = some (.int .i64 M) ∧ w'.cell? ⟨w.heap.size, 2, none⟩ = some mv ∧ w'.cell? (pd.add k) = some (.int .i64 (f : Int)) ∧ w'.cell? (ra.add k) = some (.slice Ak r.length ck) ∧ w'.cell? (xd.add f) = some (.int .i64 y)) (go_keep)
        (first
          | (go_at_call 80; refine (rNeg_any _ P M y mv HO.out).mono ?_; rintro e w1 ⟨rfl, hb1⟩; have HF1 := Lib.hid (HFR.out.drew.on hb1); have HB1 := Lib.hid (bl_trans (bl_drew wr) hb1); have hc1 := cell_below HB1.out HC.out; have hd1 := cell_below HB1.out HD.out; have he1 := cell_below HB1.out HE.out; clear hb1; have e0 := HF1.out.c0; have e1 := HF1.out.c1; have e2 := HF1.out.c2)
          | (go_at_call 62; refine (rAddTo_any _ P M (negF P M y) mv _ _ Mod (restTo (refOps P M Mod) rows x k) r (HM.out.below HF1.out.bel (Nat.le_refl _)) (HCS.out.below HB1.out (Nat.le_refl _)) (HRR.out.si.below HB1.out (Nat.le_refl _)) (by rw [HCL.out]; omega) (by rw [HCL.out]; exact HF2.out) HO.out HMOD.out).mono ?_; rintro e w3 ⟨u1, rfl, ho1, hb3⟩; have HB3 := Lib.hid (bl_trans HB1.out hb3); have HF3 := Lib.hid (HF1.out.on hb3); have hc3 := cell_below HB3.out HC.out; have hd3 := cell_below HB3.out HD.out; have he3 := cell_below HB3.out HE.out; clear hb3; have g0 := HF3.out.c0; have g1 := HF3.out.c1; have g2 := HF3.out.c2))
      go_wp2_with fail
      have HL : Hid ((addToL (refOps P M Mod) (restTo (refOps P M Mod) rows x k) (negF P M y) r).length = m) := by show _ = _; rw [addToL_len]; exact HCL.out
      obtain ⟨A1, cc1, rfl⟩ := ho1.form'
      rw [HL.out] at ho1 ⊢
      have HO1 : Hid (OI w.heap.size w3 (.slice A1 m cc1) (restTo (refOps P M Mod) rows x (k + 1))) := by
        rw [HCN.out]; exact hid' (ho1.mono HF1.out.bel.size)
      exact ⟨⟨k + 1, A1, cc1, by omega, rfl, rfl, HO1, hid' (HPI.out.below HB3.out (Nat.le_refl _)), HF3⟩, by simp only [intOf]; omega⟩
    · obtain rfl : n = k := by omega
      have HE : Hid (restL (refOps P M Mod) rows x = restTo (refOps P M Mod) rows x n) := by show _ = _; rw [HN.out]; rfl
      go_wp2_with fail
      go_ret
      exact ⟨_, rfl, by rw [HE.out]; exact HOI.out, HFR.out.bel⟩
end Go.Proofs.Ytkamgnihpcafdaa

/- ref10.In. -/
namespace Go.Proofs.Ytkamgnihpcafdaa
open Go.RowKit
set_option linter.unusedVariables false
set_option maxRecDepth 100000

def inL (O : FOps) (rows : List (List Int)) (x : List Int) : Bool := (restL O rows x).all (· == 0)

set_option maxHeartbeats 8000000 in
theorem rIn_any (w : World) (P M : Int) (mv v vx : Value) (Mod x : List Int) (rows : List (List Int)) (hm : SI w mv Mod) (hx : SI w vx x) (hv : SS w v rows) (ho : orderF P M ≠ 0) (hmod : ModP P M Mod)
    (hR : ∀ k, k < rows.length → fstNz (rows.getD k []) < x.length ∧ x.length ≤ (rows.getD k []).length) (hn : x.length ≤ 100000) (hxr : Rng (orderF P M) x) :
    Calls Try.prog 52 #[.agg #[.int .i64 P, .int .i64 M, mv], v, vx] w (RetB w (inL (refOps P M Mod) rows x)) := by
  have HF := Lib.hid (FBox.mk' w P M mv)
  have HX := Lib.hid (hx.below HF.out.bel (Nat.le_refl _)); have HV := Lib.hid (hv.below HF.out.bel (Nat.le_refl _)); have HM := Lib.hid (hm.below HF.out.bel (Nat.le_refl _))
  have HMOD := Lib.hid hmod; have HO := Lib.hid ho; have HR := Lib.hid hR; have HXR := Lib.hid hxr
  have HLT := Lib.hid (refOps_lt ho Mod)
  have HOB := Lib.hid (orderF_bounds P M)
  have HL : Hid ((restL (refOps P M Mod) rows x).length = x.length) := restTo_len _ _ _ _
  clear hm hmod ho hR hxr hx hv
  go_enter Try.func52, Try.ntmps52
  go_wp2_with fail
  refine (rRest_any _ P M mv v vx Mod x rows HM.out HX.out HV.out HO.out HMOD.out HR.out hn HXR.out).mono ?_
  rintro e w1 ⟨u1, rfl, ho1, hb1⟩
  have HS := Lib.hid (ho1.si (by rw [HL.out]; omega) (fun j => by
    have h1 : 0 ≤ (restL (refOps P M Mod) rows x).getD j 0 ∧ (restL (refOps P M Mod) rows x).getD j 0 < orderF P M := restTo_rng HLT.out rows HXR.out rows.length j
    have := HOB.out
    exact I64.of_small (by omega) (by omega)))
  have HB1 := Lib.hid (bl_trans HF.out.bel hb1)
  clear ho1 hb1
  go_wp2_with fail
  refine (rZero_any _ u1 _ HS.out).mono ?_
  rintro e w2 ⟨rfl, rfl⟩
  go_wp2_with fail
  go_ret
  exact ⟨rfl, HB1.out⟩
end Go.Proofs.Ytkamgnihpcafdaa

/- Words for a slice of rows of the call's own whose rows are replaced one by one. -/
namespace Go.Proofs.Ytkamgnihpcafdaa
open Go.RowKit
set_option linter.unusedVariables false

theorem getD_setL' (l : List (List Int)) (i k : Nat) (x : List Int) : (l.set i x).getD k [] = if i = k ∧ i < l.length then x else l.getD k [] := by
  by_cases e : i = k
  · subst e
    by_cases h : i < l.length <;> simp [List.getD, h]
  · simp [List.getD, List.getElem?_set_ne e, e]
section
variable {B g n c : Nat} {X : Nat → Prop} {w : World} {l : List (List Int)}
theorem OS.formP {v : Value} (h : OS B X w v l) (hp : 0 < l.length) : ∃ g c, v = .slice (some ⟨g, 0, none⟩) l.length c ∧ B ≤ g ∧ g < w.heap.size := by
  obtain ⟨us, ho, _⟩ := h
  rcases ho.2 with ⟨rfl, h0⟩ | ⟨g, cap, cur, rfl, hb, hg, _⟩
  · omega
  · exact ⟨g, cap, rfl, hb, (Array.getElem?_eq_some_iff.1 hg).1⟩
theorem OS.lenEq {A : Option Addr} (h : OS B X w (.slice A n c) l) : n = l.length := by
  obtain ⟨us, ho, _⟩ := h
  rcases ho.2 with ⟨e, h0⟩ | ⟨g, cap, cur, e, _⟩
  · injection e with e1 e2 e3; omega
  · injection e with e1 e2 e3
/-- a row -/
theorem OS.row (h : OS B X w (.slice (some ⟨g, 0, none⟩) n c) l) {k : Nat} (hk : k < l.length) : ∃ u, w.cell? ⟨g, k, none⟩ = some u ∧ SI w u (l.getD k []) ∧ (0 < (l.getD k []).length → ∀ g', u.ownBlock = some g' → g' ≠ g ∧ ¬ X g') := by
  have hn := h.lenEq
  subst hn
  obtain ⟨us, ho, hi⟩ := h
  obtain ⟨u, hu, hs, hx⟩ := hi k hk
  have hul : us.length = l.length := by have := ho.1; omega
  refine ⟨u, ?_, hs, fun h0 g' hg' => ⟨fun e => (hx h0 g' hg').1 (by rw [e]; rfl), (hx h0 g' hg').2⟩⟩
  have := World.ownsRow.cells ho (g := g) rfl k u hu
  have e2 : (⟨g, 0, none⟩ : Addr).add k = ⟨g, k, none⟩ := by
    unfold Addr.add
    by_cases h0 : k = 0 <;> simp [h0]
  rw [e2] at this
  exact this
theorem OS.frozen (h : OS B X w (.slice (some ⟨g, 0, none⟩) n c) l) (k : Nat) : w.frozen? ⟨g, k, none⟩ = false := by
  have hn := h.lenEq
  subst hn
  obtain ⟨us, ho, _⟩ := h
  exact World.ownsRow.frozenAt ho k
/-- a row of at least one entry, its entry j -/
theorem OS.elt (h : OS B X w (.slice (some ⟨g, 0, none⟩) n c) l) {k j : Nat} (hk : k < l.length) (hj : j < (l.getD k []).length) :
    ∃ ad ck x, w.cell? ⟨g, k, none⟩ = some (.slice (some ad) (l.getD k []).length ck) ∧ w.cell? (ad.add j) = some (.int .i64 x) ∧ Hid ((l.getD k []).getD j 0 = x) ∧ Hid (SI w (.slice (some ad) (l.getD k []).length ck) (l.getD k [])) := by
  obtain ⟨u, hu, hs, _⟩ := h.row hk
  obtain ⟨A, ck, rfl, hs⟩ := hs
  obtain ⟨ad, x, rfl, hc, _, hx⟩ := hs.elt hj
  exact ⟨ad, ck, x, hu, hc, hx, hs.si⟩
/-- a row is replaced -/
theorem OS.setRow (h : OS B X w (.slice (some ⟨g, 0, none⟩) n c) l) (k : Nat) {u : Value} {r : List Int} (hu : SI w u r) (hux : 0 < r.length → ∀ g', u.ownBlock = some g' → g' ≠ g ∧ ¬ X g') :
    OS B X (w.setCell ⟨g, k, none⟩ u) (.slice (some ⟨g, 0, none⟩) n c) (l.set k r) := by
  have hn := h.lenEq
  subst hn
  obtain ⟨us, ho, hi⟩ := h
  have hul : us.length = l.length := by have := ho.1; omega
  have hst := (World.ownsRow.stored ho k u).1
  have hg := gr_set1 w g k u
  refine ⟨us.set k u, by rw [List.length_set]; exact hst, fun i hil => ?_⟩
  rw [List.length_set] at hil
  rw [getD_setL']
  by_cases e : k = i
  · subst e
    rw [if_pos ⟨rfl, hil⟩]
    refine ⟨u, by rw [List.getElem?_set_self (by omega)], hu.grown hg (fun h0 g' hg' e2 => (hux h0 g' hg').1 (Option.some.inj e2).symm), fun h0 g' hg' => ⟨fun e2 => (hux h0 g' hg').1 (by simp [Value.ownBlock] at e2; exact e2.symm), (hux h0 g' hg').2⟩⟩
  · rw [if_neg (fun h => e h.1)]
    obtain ⟨y, hy, hs, hx⟩ := hi i hil
    exact ⟨y, by rw [List.getElem?_set_ne e]; exact hy, hs.grown hg (fun h0 g' hg' e2 => (hx h0 g' hg').1 (by rw [← e2]; rfl)), hx⟩
/-- a row of the ints' own block is not the block of the rows' slice -/
theorem OS.ne_oi {B' : Nat} {v u : Value} {xs : List Int} (h : OS B X w v l) (ho : OI B' w u xs) {g' : Nat} (hg : u.ownBlock = some g') : v.ownBlock ≠ some g' := by
  obtain ⟨us, hr, _⟩ := h
  rcases ho.2 with ⟨rfl, _⟩ | ⟨g1, cap, cur, rfl, _, hc, _⟩
  · simp [Value.ownBlock] at hg
  · simp [Value.ownBlock] at hg
    subst hg
    rcases hr.2 with ⟨rfl, _⟩ | ⟨g2, cap2, cur2, rfl, _, hc2, _⟩
    · simp [Value.ownBlock]
    · intro e
      simp [Value.ownBlock] at e
      subst e
      rw [hc] at hc2
      simp at hc2
end
/-- rows that are worked on, beside a list of ints that grows: X names the blocks in which no row lies -/
structure EL (B : Nat) (w0 wr : World) (v u : Value) (l : List (List Int)) (piv : List Int) (X : Nat → Prop) : Prop where
  os : OS B X wr v l
  oi : OI B wr u piv
  xu : ∀ g, u.ownBlock = some g → X g
  xb : ∀ g, X g → g < wr.heap.size
  low : ∀ g, g < w0.heap.size → X g
  bel : Below w0.heap.size w0 wr
theorem EL.on {B : Nat} {w0 wr w1 : World} {v u : Value} {l : List (List Int)} {piv : List Int} {X : Nat → Prop} (h : EL B w0 wr v u l piv X) (hb : Below wr.heap.size wr w1) : EL B w0 w1 v u l piv X :=
  ⟨h.os.below hb, h.oi.below hb (Nat.le_refl _), h.xu, fun g hg => Nat.lt_of_lt_of_le (h.xb g hg) hb.size, h.low, bl_trans h.bel hb⟩
theorem EL.drew {B : Nat} {w0 wr : World} {v u : Value} {l : List (List Int)} {piv : List Int} {X : Nat → Prop} (h : EL B w0 wr v u l piv X) : EL B w0 wr.drew v u l piv X := h.on (bl_drew _)
/-- a row is replaced by a new one -/
theorem EL.setRow {B g n c : Nat} {w0 wr : World} {u : Value} {l : List (List Int)} {piv : List Int} {X : Nat → Prop} (h : EL B w0 wr (.slice (some ⟨g, 0, none⟩) n c) u l piv X) (hB : w0.heap.size ≤ B) (k : Nat) {y : Value} {r : List Int} (hu : SI wr y r) (hux : 0 < r.length → ∀ g', y.ownBlock = some g' → g' ≠ g ∧ ¬ X g') :
    EL B w0 (wr.setCell ⟨g, k, none⟩ y) (.slice (some ⟨g, 0, none⟩) n c) u (l.set k r) piv X := by
  have hgB := (h.os.lt (g := g) rfl).1
  refine ⟨h.os.setRow k hu hux, h.oi.grown (gr_set1 wr g k y) (fun g' hg' e => ?_), h.xu, fun g' hg' => ?_, h.low, h.bel.setCell (p := ⟨g, k, none⟩) (Nat.le_trans hB hgB) y⟩
  · have := Option.some.inj e
    subst this
    exact h.os.ne_oi h.oi hg' rfl
  · have := h.xb g' hg'
    simpa [World.setCell] using this
/-- one more pivot -/
theorem EL.push {B : Nat} {w0 wr w1 : World} {v u v' : Value} {l : List (List Int)} {piv : List Int} {y : Int} {X : Nat → Prop} {o : Obj} (h : EL B w0 wr v u l piv X) (hB : w0.heap.size ≤ B) (ho : OI B w1 v' (piv ++ [y])) (hg : (wr.alloc o).grownBy w1 u.ownBlock)
    (hv : v'.ownBlock = u.ownBlock ∨ v'.ownBlock = some (wr.alloc o).heap.size) : EL B w0 w1 v v' l (piv ++ [y]) (fun g => X g ∨ v'.ownBlock = some g) := by
  have h1 := h.on (bl_alloc wr o)
  refine ⟨?_, ho, fun g hg' => .inr hg', fun g hg' => ?_, fun g hl => .inl (h.low g hl), h1.bel.grown hg h1.bel.size (fun k hk => Nat.le_trans hB (h.oi.lt hk).1)⟩
  · refine (h1.os.names (Y := fun g => X g ∨ v'.ownBlock = some g) (fun g hgl hx => ?_)).grown hg (fun g' hg' => ⟨h1.os.ne_oi h1.oi hg', .inl (h.xu g' hg')⟩)
    rcases hx with hx | hx
    · exact hx
    · rcases hv with hv | hv
      · exact h.xu g (by rw [← hv]; exact hx)
      · rw [hv] at hx
        have := Option.some.inj hx
        omega
  · rcases hg' with hx | hx
    · exact Nat.lt_of_lt_of_le (h1.xb g hx) hg.size
    · exact (ho.lt hx).2
/-- a value that was made behind wr lies apart -/
theorem EL.fresh {B g n c : Nat} {w0 wr w1 : World} {u y : Value} {l : List (List Int)} {piv r : List Int} {X : Nat → Prop} (h : EL B w0 wr (.slice (some ⟨g, 0, none⟩) n c) u l piv X) (ho : OI wr.heap.size w1 y r) : 0 < r.length → ∀ g', y.ownBlock = some g' → g' ≠ g ∧ ¬ X g' := fun _ g' hg' => by
  have h1 := (ho.lt hg').1
  have h2 := (h.os.lt (g := g) rfl).2
  exact ⟨by omega, fun hx => by have := h.xb g' hx; omega⟩
end Go.Proofs.Ytkamgnihpcafdaa

/- Regions that draw their order and whose last store hits a cell that they load: reads are taken first in every world that meets S, and S is not asked behind the last operation. -/
namespace Go.Proofs.Ytkamgnihpcafdaa
open Go.RowKit
section
variable {P : Program} {ops : Array Oper} {Q : Exit → Act → World → Prop} {S : World → Prop}

/-- whichever operation comes next: S holds behind it, unless it was the last -/
def Drawn (P : Program) (ops : Array Oper) (Q : Exit → Act → World → Prop) (S : World → Prop) : Nat → Array Bool → Act → World → Prop
  | 0, L, a, w => Region.ready .any ops L = [] ∧ Q .normal a w
  | n + 1, L, a, w =>
    (Region.ready .any ops L = [] → Q .normal a w) ∧
    ∀ i ∈ Region.ready .any ops L, wpOp P ops Q i (fun b v => (i + 1 ≠ ops.size → S v) ∧ Drawn P ops Q S n (L.setIfInBounds i true) b v) a w
theorem Drawn.any : ∀ (n : Nat) (L : Array Bool) (a : Act) (w : World), Drawn P ops Q S n L a w → wpAny P .any ops Q n L a w
  | 0, _, _, _, h => h
  | n + 1, _, _, _, h => ⟨h.1, fun i hi => wpOp_mono (fun b v hb => Drawn.any n _ b v hb.2) (h.2 i hi)⟩
theorem not_listed {L : Array Bool} {i : Nat} {oj : Oper} {j : Nat} (hi : i ∈ Region.ready .any ops L) (hj : ops[j]? = some oj) (hall : ∀ e ∈ oj.after, Region.binds .any e = true → L.getD e.on false = true) : ∀ e ∈ oj.after, Region.binds .any e = true → e.on ≠ i := fun e he hb heq => by
  have h1 := hall e he hb
  have h0 := (mem_ready.1 hi).1
  rw [heq] at h1
  rcases Nat.lt_or_ge i L.size with hs | hs
  · simp [hs] at h0 h1; rw [h0] at h1; cases h1
  · simp [Array.getElem?_eq_none hs] at h1
theorem Drawn.first {i : Nat} {oi : Oper} {v : Value} (hi : ops[i]? = some oi) (hsel : ∀ (j : Nat) (o : Oper) cs b, ops[j]? = some o → o.op ≠ .select cs b)
    (hQ : ∀ c a w, Q (.panic c) (a.put oi.dst v) w → Q (.panic c) a w) (hw : Region.waitsFor .any ops (ops.size - 1) i = true) :
    ∀ (n : Nat) (L : Array Bool) (a : Act) (w : World),
      (∀ j oj, ops[j]? = some oj → j ≠ i → L.getD j true = false → (∀ e ∈ oj.after, Region.binds .any e = true → e.on ≠ i) → oi.apart ops oj = true) →
      i ∈ Region.ready .any ops L → YieldsIf P ops S oi v a → S w →
      Drawn P ops Q S n (L.setIfInBounds i true) (a.put oi.dst v) w → Drawn P ops Q S (n + 1) L a w
  | 0, L, a, w, _, hr, hy, hS, H => by
    refine ⟨fun h => (by rw [h] at hr; cases hr), fun j hj => ?_⟩
    by_cases hji : j = i
    · subst hji; exact hy.wpOp hi hS ⟨fun _ => hS, H⟩
    · have := ready_mono hj hji
      rw [H.1] at this
      cases this
  | n + 1, L, a, w, hfree, hr, hy, hS, H => by
    refine ⟨fun h => (by rw [h] at hr; cases hr), fun j hj => ?_⟩
    by_cases hji : j = i
    · subst hji; exact hy.wpOp hi hS ⟨fun _ => hS, H⟩
    · have h1 := H.2 j (ready_mono hj hji)
      obtain ⟨hjun, oj, hoj, hall⟩ := mem_ready.1 hj
      have h2 := wpOp_putIf hoj (hfree j oj hoj hji hjun (not_listed hr hoj hall)) (fun cs b => hsel i oi cs b hi) (fun cs b => hsel j oj cs b hoj) hQ hy h1
      have hr' := ready_mono hr (Ne.symm hji)
      have hjl : j + 1 ≠ ops.size := fun hjl => by
        obtain ⟨ol, hol, e, he, hb, hon⟩ := Region.waitsFor_spec hw
        rw [show ops.size - 1 = j by omega] at hol
        obtain rfl := Option.some.inj (hol.symm.trans hoj)
        exact not_listed hr hoj hall e he hb hon
      refine wpOp_mono (fun b u h3 => ?_) h2
      rcases h3 with ⟨hyb, hSb, hD⟩
      have hSu := hSb hjl
      refine ⟨fun _ => hSu, Drawn.first hi hsel hQ hw n (L.setIfInBounds j true) b u (fun k ok hk hki hun hno => ?_) hr' hyb hSu ?_⟩
      · refine hfree k ok hk hki ?_ hno
        by_cases hjk : j = k
        · subst hjk; exact hjun
        · rw [getD_set_ne true hjk] at hun; exact hun
      · rw [Array.setIfInBounds_comm _ _ hji]
        exact hD
/-- operation i is taken: it reads (or computes) the same in every world that meets S -/
theorem Drawn.take {i n : Nat} {oi : Oper} {v : Value} {L : Array Bool} {a : Act} {w : World} (hi : ops[i]? = some oi) (hs : Region.noSelect ops = true) (hf : Region.free .any ops L i = true)
    (hr : (Region.ready .any ops L).contains i = true) (hw : Region.waitsFor .any ops (ops.size - 1) i = true) (hQ : ∀ c a w, Q (.panic c) (a.put oi.dst v) w → Q (.panic c) a w) (hy : YieldsIf P ops S oi v a) (hS : S w)
    (h : Drawn P ops Q S n (L.setIfInBounds i true) (a.put oi.dst v) w) : Drawn P ops Q S (n + 1) L a w :=
  Drawn.first hi (Region.noSelect_spec hs) hQ hw n L a w (Region.free_spec hi hf) (by simpa using hr) hy hS h
/-- one operation alone may come next -/
theorem Drawn.only {i n : Nat} {o : Oper} {L : Array Bool} {a : Act} {w : World} (hr : Region.ready .any ops L = [i]) (ho : ops[i]? = some o)
    (h : ∀ K : Act → World → Prop, Hid (∀ b v, (i + 1 ≠ ops.size → S v) → ((i + 1 ≠ ops.size → S v) → Drawn P ops Q S n (L.setIfInBounds i true) b v) → K b v) → if Region.wanted o (yielded ops a.tmps) = true then Oper.wp P o a w K Q else K (a.put o.dst undef) w) :
    Drawn P ops Q S (n + 1) L a w := by
  refine ⟨fun h0 => absurd (hr.symm.trans h0) (by simp), fun j hj => ?_⟩
  rw [hr] at hj
  obtain rfl : j = i := by simpa using hj
  exact wpOp_step ho (fun K' hK => h K' (fun b v hS hD => hK b v ⟨hS, hD hS⟩))
theorem Drawn.done {n : Nat} {L : Array Bool} {a : Act} {w : World} (hr : Region.ready .any ops L = []) (h : Q .normal a w) : Drawn P ops Q S n L a w := by
  cases n with
  | zero => exact ⟨hr, h⟩
  | succ n => exact ⟨fun _ => h, fun i hi => by rw [hr] at hi; cases hi⟩
theorem Drawn.start {id : Nat} {a : Act} {w : World} (hm : P.follows .mixedOrders = true) (hS : S w.drew) (h : S w.drew → Drawn P ops Q S ops.size (Array.replicate ops.size false) a w.drew) : (Code.region id ops true).wp P Q a w :=
  wp_region_any hm (Drawn.any _ _ _ _ (h hS))
end
end Go.Proofs.Ytkamgnihpcafdaa

/- ref09: Eliminate, Canon. -/
namespace Go.Proofs.Ytkamgnihpcafdaa
open Go.RowKit
set_option linter.unusedVariables false
set_option maxRecDepth 100000

/-- rows and pivots come back -/
def RetSI (w : World) (xss : List (List Int)) (ys : List Int) (e : Ending) (w' : World) : Prop := ∃ u1 u2, e = .returned (.tuple #[u1, u2]) ∧ OS w.heap.size (fun g => g < w.heap.size) w' u1 xss ∧ OI w.heap.size w' u2 ys ∧ Below w.heap.size w w'

theorem elimTo_next {O : FOps} {rows : List (List Int)} {c : Nat} {l : List (List Int)} {piv : List Int} {k : Nat} (hl : (elimTo O rows c) = (l, piv)) (hlt : piv.length < l.length) (hk : findK l c l.length (l.length - piv.length) piv.length = k) :
    elimTo O rows (c + 1) = if k = l.length then (l, piv) else (stepL O c l piv.length k, piv ++ [(c : Int)]) := by
  rw [elimTo, hl]
  show (if piv.length < l.length then _ else _) = _
  rw [if_pos hlt]
  show (if findK l c l.length (l.length - piv.length) piv.length = l.length then _ else _) = _
  rw [hk]
theorem elimTo_done {O : FOps} {rows : List (List Int)} {c : Nat} {l : List (List Int)} {piv : List Int} (hl : (elimTo O rows c) = (l, piv)) (hlt : ¬ piv.length < l.length) : ∀ d, c ≤ d → elimTo O rows d = (l, piv)
  | 0, h => by obtain rfl : c = 0 := by omega
               exact hl
  | d + 1, h => by
    by_cases e : c = d + 1
    · rw [← e]; exact hl
    · have ih := elimTo_done hl hlt d (by omega)
      rw [elimTo, ih]
      show (if piv.length < l.length then _ else _) = _
      rw [if_neg hlt]

set_option maxHeartbeats 4000000 in
theorem rElim_nil (w : World) (P M cols : Int) (mv v : Value) (Mod : List Int) (hv : SS w v []) :
    Calls Try.prog 72 #[.agg #[.int .i64 P, .int .i64 M, mv], v, .int .i64 cols] w (RetSI w [] []) := by
  obtain ⟨A, c, rfl, hv⟩ := hv
  have HV := Lib.hid (show SS w (.slice A ([] : List (List Int)).length c) [] from ⟨A, c, rfl, hv⟩); clear hv
  have hl0 : ([] : List (List Int)).length = 0 := rfl
  rw [hl0] at HV ⊢
  clear hl0
  go_enter Try.func72, Try.ntmps72
  go_wp2_with fail
  refine (rCopy_any _ _ [] (HV.out.below (bl_alloc _ _) (Nat.le_refl _)) (by simp) (by simp)).mono ?_
  rintro e w1 ⟨u, rfl, ho, hb⟩
  obtain ⟨A1, c1, rfl⟩ := ho.form
  have HO := Lib.hid ho; have HB := Lib.hid (bl_trans (bl_alloc _ _) hb)
  have hsz := hb.size
  clear ho hb
  go_wp2_with fail
  go_loop [9, 10, 11] (fun u a x => u = .slice none 0 0 ∧ a = .int .i64 0 ∧ x = .int .i64 0) (fun _ _ _ => 0)
  case atStart => exact ⟨rfl, rfl, rfl⟩
  case round =>
    obtain ⟨rfl, rfl, rfl⟩ := hrel
    by_cases h0 : 0 < cols
    all_goals
      go_wp2_with fail
      go_ret2
      exact ⟨_, _, rfl, (HO.out.mono (B' := w.heap.size) (by rw [World.size_alloc]; omega)).names (fun g _ hg => by rw [World.size_alloc]; exact Nat.lt_succ_of_lt hg), OI.nil _ _, HB.out⟩

theorem elimTo_ok {O : FOps} {q : Int} (hO : O.Lt q) {L : Nat} {rows : List (List Int)} (hR : Rows q L rows) (c : Nat) {l : List (List Int)} {piv : List Int} (h : elimTo O rows c = (l, piv)) : Rows q L l ∧ l.length = rows.length ∧ piv.length ≤ rows.length ∧ piv.length ≤ c := by
  have h1 := Rows.elim hO hR c
  have h2 := elimTo_len O rows c
  have h3 := elimTo_piv O rows c
  rw [h] at h1 h2 h3
  exact ⟨h1, h2, h3.1, h3.2⟩

set_option maxHeartbeats 40000000 in
theorem rElim_cons (w : World) (P M : Int) (cols L : Nat) (mv v : Value) (Mod : List Int) (rows : List (List Int)) (hm : SI w mv Mod) (hv : SS w v rows) (ho : orderF P M ≠ 0) (hmod : ModP P M Mod)
    (hR : Rows (orderF P M) L rows) (hcL : cols ≤ L) (hL : L ≤ 100000) (hpos : 0 < rows.length) (hn : rows.length ≤ 100000) :
    Calls Try.prog 72 #[.agg #[.int .i64 P, .int .i64 M, mv], v, .int .i64 (cols : Int)] w (RetSI w (elimTo (refOps P M Mod) rows cols).1 (elimTo (refOps P M Mod) rows cols).2) := by
  have HV := Lib.hid hv; clear hv
  have HM := Lib.hid hm; clear hm
  have HMOD := Lib.hid hmod; clear hmod
  have HLT := Lib.hid (refOps_lt ho Mod)
  obtain ⟨hP2, hP3, hM1, hM8, hq, hqq⟩ := order_ne ho
  clear hq hqq hM1 hM8 hP2 hP3
  have hob := orderF_bounds P M
  have HO := Lib.hid ho; clear ho
  obtain ⟨O, hO⟩ : ∃ O, O = refOps P M Mod := ⟨_, rfl⟩
  rw [← hO] at HLT ⊢
  have HOE := Lib.hid hO; clear hO
  obtain ⟨q, hq⟩ : ∃ q, q = orderF P M := ⟨_, rfl⟩
  rw [← hq] at HLT hR hob
  have HQE := Lib.hid hq; clear hq
  obtain ⟨hq0, hq1⟩ := hob
  have HR := Lib.hid hR; clear hR
  obtain ⟨n, hnn⟩ : ∃ n, n = rows.length := ⟨_, rfl⟩
  rw [← hnn] at hpos hn
  have HN := Lib.hid hnn; clear hnn
  have HF := Lib.hid (FBox.mk' w P M mv)
  go_enter Try.func72, Try.ntmps72
  go_wp2_with fail
  obtain ⟨w0, hw0⟩ : ∃ w0, w0 = w.alloc (.cells #[.int .i64 P, .int .i64 M, mv] 47) := ⟨_, rfl⟩
  rw [← hw0] at HF ⊢
  clear hw0
  refine (rCopy_any _ _ rows (HV.out.below HF.out.bel (Nat.le_refl _)) (by rw [← HN.out]; omega) (fun k hk => by have := (HR.out k hk).1; omega)).mono ?_
  rintro e w1 ⟨v1, rfl, ho1, hb1⟩
  obtain ⟨g, cc, rfl, hg1, hg2⟩ := ho1.formP (by rw [← HN.out]; exact hpos)
  rw [← HN.out] at ho1 ⊢
  have HEL0 : Hid (EL w0.heap.size w0 w1 (.slice (some ⟨g, 0, none⟩) n cc) (.slice none 0 0) rows [] (fun g => g < w0.heap.size)) := ⟨ho1, OI.nil _ _, fun g hg => by simp [Value.ownBlock] at hg, fun g hg => by have := hb1.size; show g < _; omega, fun g hg => hg, hb1⟩
  clear ho1 hb1
  have hF0 := HF.out.lt
  go_wp2_with fail
  go_loopw [9, 10, 11] (fun u a x wr => ∃ (c at_ : Nat) (l : List (List Int)) (piv : List Int) (X : Nat → Prop), c ≤ cols ∧ x = .int .i64 (c : Int) ∧ a = .int .i64 (at_ : Int) ∧ Hid (at_ = piv.length) ∧ Hid (elimTo O rows c = (l, piv)) ∧ Hid (EL w0.heap.size w0 wr (.slice (some ⟨g, 0, none⟩) n cc) u l piv X)) (fun _ _ x _ => (cols - intOf x).toNat)
  case atStart => exact ⟨0, 0, rows, [], _, Nat.zero_le _, rfl, rfl, rfl, rfl, HEL0⟩
  case round =>
    clear HEL0
    obtain ⟨c, a, l, piv, X, hc, rfl, rfl, HA, HE, HEL⟩ := hrel
    have hok := elimTo_ok HLT.out HR.out c HE.out
    have HLN : Hid (l.length = n) := by rw [HN.out]; exact hok.2.1
    have HLR := Lib.hid hok.1
    have han : a ≤ n := by have := hok.2.2.1; rw [← HN.out, ← HA.out] at this; exact this
    clear hok
    by_cases hcl : c < cols
    case neg =>
      obtain rfl : cols = c := by omega
      go_wp2_with fail
      go_ret2
      rw [HE.out]
      exact ⟨_, _, rfl, (HEL.out.os.mono (by omega)).names (fun g' _ hg' => HEL.out.low g' (by omega)), HEL.out.oi.mono (by omega), bl_trans HF.out.bel HEL.out.bel⟩
    by_cases hal : a < n
    case neg =>
      have HDN : Hid (elimTo O rows cols = (l, piv)) := elimTo_done HE.out (by rw [HLN.out, ← HA.out]; exact hal) cols (by omega)
      have hna : n ≤ a := by omega
      go_wp2_with fail
      go_ret2
      rw [HDN.out]
      exact ⟨_, _, rfl, (HEL.out.os.mono (by omega)).names (fun g' _ hg' => HEL.out.low g' (by omega)), HEL.out.oi.mono (by omega), bl_trans HF.out.bel HEL.out.bel⟩
    have hcLL : c < L := by omega
    go_wp2_with fail
    go_loop [12] (fun x => ∃ k : Nat, a ≤ k ∧ k ≤ n ∧ x = .int .i64 (k : Int) ∧ Hid (findK l c n (n - a) a = findK l c n (n - k) k)) (fun x => (n - intOf x).toNat)
    case atStart => exact ⟨a, Nat.le_refl _, by omega, rfl, rfl⟩
    case round =>
      obtain ⟨k, hak, hkn, rfl, HK⟩ := hrel
      by_cases hkl : k < n
      · obtain ⟨ad, rc, x, hh, hx, HX, HSI⟩ := HEL.out.os.elt (k := k) (j := c) (by rw [HLN.out]; exact hkl) (by rw [(HLR.out k (by rw [HLN.out]; exact hkl)).1]; exact hcLL)
        rw [(HLR.out k (by rw [HLN.out]; exact hkl)).1] at hh
        by_cases hx0 : x = 0
        · have hxb : (x == 0) = true := by rw [beq_iff_eq]; exact hx0
          have HX0 := Lib.hid hx0; clear hx0
          go_wp2_with fail
          exact ⟨⟨k + 1, by omega, by omega, rfl, by
            rw [HK.out, show n - k = (n - (k + 1)) + 1 by omega, findK, if_pos (by rw [HX.out]; exact HX0.out)]; rfl⟩, by simp only [intOf]; omega⟩
        · have hxb : (x == 0) = false := by rw [beq_eq_false_iff_ne]; exact hx0
          have HKE : Hid (findK l c l.length (l.length - piv.length) piv.length = k) := by
            show _ = _
            rw [HLN.out, ← HA.out, HK.out, show n - k = (n - (k + 1)) + 1 by omega, findK, if_neg (by rw [HX.out]; exact hx0)]
          have hkb : (((k : Nat) : Int) == (n : Int)) = false := by rw [beq_eq_false_iff_ne]; omega
          have HNX : Hid (elimTo O rows (c + 1) = (stepL O c l piv.length k, piv ++ [(c : Int)])) := by
            show _ = _
            rw [elimTo_next HE.out (by rw [HLN.out, ← HA.out]; exact hal) HKE.out, if_neg (by rw [HLN.out]; omega)]
          clear hx0
          obtain ⟨ad2, rc2, x2, hh2, hx2, HX2, HSI2⟩ := HEL.out.os.elt (k := a) (j := c) (by rw [HLN.out]; exact hal) (by rw [(HLR.out a (by rw [HLN.out]; exact hal)).1]; exact hcLL)
          rw [(HLR.out a (by rw [HLN.out]; exact hal)).1] at hh2
          have fa := HEL.out.os.frozen a
          have fk := HEL.out.os.frozen k
          have HHH := Lib.hid hh; have HHH2 := Lib.hid hh2
          obtain ⟨z, hz⟩ : ∃ z, (wr.setCell ⟨g, a, none⟩ (.slice (some ad) L rc)).cell? ⟨g, k, none⟩ = some z := by
            by_cases hak2 : a = k
            · exact ⟨_, by rw [hak2]; exact World.cell?_setCell_same _ _ _ hh⟩
            · exact ⟨_, cell_other hh (fun e => hak2 (by injection e with e1 e2; exact e2.symm))⟩
          go_wp2_with fail
          go_region
          obtain ⟨ws, hws⟩ : ∃ ws, ws = ((wr.setCell ⟨g, a, none⟩ (.slice (some ad) L rc)).setCell ⟨g, k, none⟩ (.slice (some ad2) L rc2)).drew := ⟨_, rfl⟩
          have HES : Hid (EL w0.heap.size w0 ws (.slice (some ⟨g, 0, none⟩) n cc) u9 (swapL l a k) piv X) := by
            have r1 := HEL.out.os.row (k := k) (by rw [HLN.out]; exact hkl)
            have r2 := HEL.out.os.row (k := a) (by rw [HLN.out]; exact hal)
            obtain ⟨y1, hy1, hs1, hx1⟩ := r1
            obtain ⟨y2, hy2, hs2, hx2'⟩ := r2
            rw [HHH.out] at hy1
            rw [HHH2.out] at hy2
            obtain rfl := Option.some.inj hy1
            obtain rfl := Option.some.inj hy2
            have h1 := HEL.out.setRow (Nat.le_refl _) a hs1 hx1
            have h2 := h1.setRow (Nat.le_refl _) k (hs2.grown (gr_set1 wr g a _) (fun h0 g' hg' e => (hx2' h0 g' hg').1 (Option.some.inj e).symm)) hx2'
            rw [hws]
            exact h2.drew
          rw [← hws]
          clear hws hh hx hh2 hx2 hz fa fk
          have HSL : Hid ((swapL l a k).length = n) := by show _ = _; rw [swapL_len, HLN.out]
          have HSR := Lib.hid (HLR.out.swap (a := a) (b := k) (by rw [HLN.out]; exact hal) (by rw [HLN.out]; exact hkl))
          obtain ⟨ls, hls⟩ : ∃ ls, ls = swapL l a k := ⟨_, rfl⟩
          rw [← hls] at HES HSL HSR
          have HLS := Lib.hid hls; clear hls
          obtain ⟨ad3, rc3, x3, hh3, hx3, HX3, HSI3⟩ := HES.out.os.elt (k := a) (j := c) (by rw [HSL.out]; exact hal) (by rw [(HSR.out a (by rw [HSL.out]; exact hal)).1]; exact hcLL)
          rw [(HSR.out a (by rw [HSL.out]; exact hal)).1] at hh3 HSI3
          go_upto_if 69 with (fail)
          go_cut [] from 16 to 134 (fun wc => EL w0.heap.size w0 wc (.slice (some ⟨g, 0, none⟩) n cc) u9 (monicL O c a ls) piv X)
          case first =>
            by_cases hx31 : x3 = 1
            · have hb31 : (x3 != 1) = false := by simp [hx31]
              have HMO : Hid (monicL O c a ls = ls) := by show _ = _; unfold monicL; rw [if_neg (by rw [HX3.out]; simpa using hx31)]
              clear hx31
              go_wp2_with fail
              go_meet
              case rel => rw [HMO.out]; exact HES.out
            · have hb31 : (x3 != 1) = true := by simp [hx31]
              have HMO : Hid (monicL O c a ls = ls.set a (scaleL (refOps P M Mod) (invF P M Mod x3) (ls.getD a []))) := by show _ = _; unfold monicL; rw [if_pos (by rw [HX3.out]; exact hx31), HX3.out, HOE.out]; rfl
              clear hx31
              obtain ⟨row, hrow⟩ : ∃ row, row = ls.getD a [] := ⟨_, rfl⟩
              rw [← hrow] at HMO HSI3
              have HRL : Hid (row.length = L) := by show _ = _; rw [hrow]; exact (HSR.out a (by rw [HSL.out]; exact hal)).1
              clear hrow
              have HFS := Lib.hid (HF.out.on HES.out.bel)
              have c0 := HFS.out.c0; have c1 := HFS.out.c1; have c2 := HFS.out.c2
              have HH3 := Lib.hid hh3; have HX33 := Lib.hid hx3
              go_wp2_with fail
              refine Drawn.start (S := (fun w' => w'.cell? ⟨w.heap.size, 0, none⟩ = some (.int .i64 P) ∧ w'.cell? ⟨w.heap.size, 1, none⟩ = some (.int .i64 M) ∧ w'.cell? ⟨w.heap.size, 2, none⟩ = some mv ∧ w'.cell? (ad3.add c) = some (.int .i64 x3) ∧ w'.cell? ⟨g, a, none⟩ = some (.slice (some ad3) L rc3))) (by kernel_rfl) (⟨HFS.out.drew.c0, HFS.out.drew.c1, HFS.out.drew.c2, hx3, hh3⟩) (fun hHeld => ?_)
              change Drawn _ _ _ _ 19 _ _ _
              refine Drawn.take (i := 0) (v := ?_) rfl (by kernel_rfl) (by kernel_rfl) (by kernel_rfl) (by kernel_rfl) (fun _ _ _ h => h) (Or.inl ⟨by rfl, ?_⟩) hHeld ?_
              rotate_left
              · intro w' hSw; (try dsimp only at hSw); first | (go_simp; done) | (go_simp; with_reducible rfl)
              try simp only [Act.put, List.setIfInBounds_toArray, List.set_cons_zero, List.set_cons_succ]
              refine Drawn.take (i := 1) (v := ?_) rfl (by kernel_rfl) (by kernel_rfl) (by kernel_rfl) (by kernel_rfl) (fun _ _ _ h => h) (Or.inl ⟨by rfl, ?_⟩) hHeld ?_
              rotate_left
              · intro w' hSw; (try dsimp only at hSw); first | (go_simp; done) | (go_simp; with_reducible rfl)
              try simp only [Act.put, List.setIfInBounds_toArray, List.set_cons_zero, List.set_cons_succ]
              refine Drawn.take (i := 2) (v := ?_) rfl (by kernel_rfl) (by kernel_rfl) (by kernel_rfl) (by kernel_rfl) (fun _ _ _ h => h) (Or.inl ⟨by rfl, ?_⟩) hHeld ?_
              rotate_left
              · intro w' hSw; (try dsimp only at hSw); first | (go_simp; done) | (go_simp; with_reducible rfl)
              try simp only [Act.put, List.setIfInBounds_toArray, List.set_cons_zero, List.set_cons_succ]
              refine Drawn.take (i := 3) (v := ?_) rfl (by kernel_rfl) (by kernel_rfl) (by kernel_rfl) (by kernel_rfl) (fun _ _ _ h => h) (Or.inl ⟨by rfl, ?_⟩) hHeld ?_
              rotate_left
              · intro w' hSw; (try dsimp only at hSw); first | (go_simp; done) | (go_simp; with_reducible rfl)
              try simp only [Act.put, List.setIfInBounds_toArray, List.set_cons_zero, List.set_cons_succ]
              refine Drawn.take (i := 4) (v := ?_) rfl (by kernel_rfl) (by kernel_rfl) (by kernel_rfl) (by kernel_rfl) (fun _ _ _ h => h) (Or.inl ⟨by rfl, ?_⟩) hHeld ?_
              rotate_left
              · intro w' hSw; (try dsimp only at hSw); first | (go_simp; done) | (go_simp; with_reducible rfl)
              try simp only [Act.put, List.setIfInBounds_toArray, List.set_cons_zero, List.set_cons_succ]
              refine Drawn.take (i := 5) (v := ?_) rfl (by kernel_rfl) (by kernel_rfl) (by kernel_rfl) (by kernel_rfl) (fun _ _ _ h => h) (Or.inl ⟨by rfl, ?_⟩) hHeld ?_
              rotate_left
              · intro w' hSw; (try dsimp only at hSw); first | (go_simp; done) | (go_simp; with_reducible rfl)
              try simp only [Act.put, List.setIfInBounds_toArray, List.set_cons_zero, List.set_cons_succ]
              refine Drawn.take (i := 6) (v := ?_) rfl (by kernel_rfl) (by kernel_rfl) (by kernel_rfl) (by kernel_rfl) (fun _ _ _ h => h) (Or.inl ⟨by rfl, ?_⟩) hHeld ?_
              rotate_left
              · intro w' hSw; (try dsimp only at hSw); first | (go_simp; done) | (go_simp; with_reducible rfl)
              try simp only [Act.put, List.setIfInBounds_toArray, List.set_cons_zero, List.set_cons_succ]
              refine Drawn.take (i := 7) (v := ?_) rfl (by kernel_rfl) (by kernel_rfl) (by kernel_rfl) (by kernel_rfl) (fun _ _ _ h => h) (Or.inl ⟨by rfl, ?_⟩) hHeld ?_
              rotate_left
              · intro w' hSw; (try dsimp only at hSw); first | (go_simp; done) | (go_simp; with_reducible rfl)
              try simp only [Act.put, List.setIfInBounds_toArray, List.set_cons_zero, List.set_cons_succ]
              refine Drawn.take (i := 8) (v := ?_) rfl (by kernel_rfl) (by kernel_rfl) (by kernel_rfl) (by kernel_rfl) (fun _ _ _ h => h) (Or.inl ⟨by rfl, ?_⟩) hHeld ?_
              rotate_left
              · intro w' hSw; (try dsimp only at hSw); first | (go_simp; done) | (go_simp; with_reducible rfl)
              try simp only [Act.put, List.setIfInBounds_toArray, List.set_cons_zero, List.set_cons_succ]
              refine Drawn.take (i := 9) (v := ?_) rfl (by kernel_rfl) (by kernel_rfl) (by kernel_rfl) (by kernel_rfl) (fun _ _ _ h => h) (Or.inl ⟨by rfl, ?_⟩) hHeld ?_
              rotate_left
              · intro w' hSw; (try dsimp only at hSw); first | (go_simp; done) | (go_simp; with_reducible rfl)
              try simp only [Act.put, List.setIfInBounds_toArray, List.set_cons_zero, List.set_cons_succ]
              refine Drawn.take (i := 10) (v := ?_) rfl (by kernel_rfl) (by kernel_rfl) (by kernel_rfl) (by kernel_rfl) (fun _ _ _ h => h) (Or.inl ⟨by rfl, ?_⟩) hHeld ?_
              rotate_left
              · intro w' hSw; (try dsimp only at hSw); first | (go_simp; done) | (go_simp; with_reducible rfl)
              try simp only [Act.put, List.setIfInBounds_toArray, List.set_cons_zero, List.set_cons_succ]
              refine Drawn.take (i := 12) (v := ?_) rfl (by kernel_rfl) (by kernel_rfl) (by kernel_rfl) (by kernel_rfl) (fun _ _ _ h => h) (Or.inl ⟨by rfl, ?_⟩) hHeld ?_
              rotate_left
              · intro w' hSw; (try dsimp only at hSw); first | (go_simp; done) | (go_simp; with_reducible rfl)
              try simp only [Act.put, List.setIfInBounds_toArray, List.set_cons_zero, List.set_cons_succ]
              refine Drawn.take (i := 13) (v := ?_) rfl (by kernel_rfl) (by kernel_rfl) (by kernel_rfl) (by kernel_rfl) (fun _ _ _ h => h) (Or.inl ⟨by rfl, ?_⟩) hHeld ?_
              rotate_left
              · intro w' hSw; (try dsimp only at hSw); first | (go_simp; done) | (go_simp; with_reducible rfl)
              try simp only [Act.put, List.setIfInBounds_toArray, List.set_cons_zero, List.set_cons_succ]
              refine Drawn.take (i := 14) (v := ?_) rfl (by kernel_rfl) (by kernel_rfl) (by kernel_rfl) (by kernel_rfl) (fun _ _ _ h => h) (Or.inl ⟨by rfl, ?_⟩) hHeld ?_
              rotate_left
              · intro w' hSw; (try dsimp only at hSw); first | (go_simp; done) | (go_simp; with_reducible rfl)
              try simp only [Act.put, List.setIfInBounds_toArray, List.set_cons_zero, List.set_cons_succ]
              refine Drawn.take (i := 15) (v := ?_) rfl (by kernel_rfl) (by kernel_rfl) (by kernel_rfl) (by kernel_rfl) (fun _ _ _ h => h) (Or.inl ⟨by rfl, ?_⟩) hHeld ?_
              rotate_left
              · intro w' hSw; (try dsimp only at hSw); first | (go_simp; done) | (go_simp; with_reducible rfl)
              try simp only [Act.put, List.setIfInBounds_toArray, List.set_cons_zero, List.set_cons_succ]
              refine Drawn.only (i := 11) (by kernel_rfl) rfl (fun K hK => ?_)
              go_simp
              (refine (rInv_any _ P M x3 mv Mod (HM.out.below HFS.out.drew.bel (Nat.le_refl _)) HO.out HMOD.out).mono ?_; rintro e w3 ⟨rfl, hb3⟩; have HB3 := Lib.hid (bl_trans (bl_drew ws) hb3); have HF3 := Lib.hid (HFS.out.on HB3.out); have hh4 := cell_below HB3.out HH3.out; have hx4 := cell_below HB3.out HX33.out; have HSI4 := Lib.hid (HSI3.out.below HB3.out (Nat.le_refl _)); have HE4 := Lib.hid (HES.out.on HB3.out); clear hb3)
              refine hK.out _ _ (fun _ => ⟨HF3.out.c0, HF3.out.c1, HF3.out.c2, hx4, hh4⟩) (fun hHeld2 => ?_)
              clear hK K
              replace hHeld := hHeld2 (by decide)
              clear hHeld2
              try simp only [Act.put, List.setIfInBounds_toArray, List.set_cons_zero, List.set_cons_succ]
              refine Drawn.only (i := 16) (by kernel_rfl) rfl (fun K hK => ?_)
              go_simp
              (refine (rScale_any _ P M _ mv _ Mod row (HM.out.below HF3.out.bel (Nat.le_refl _)) HSI4.out (by rw [HRL.out]; omega) HO.out HMOD.out).mono ?_; rintro e w4 ⟨y, rfl, hy, hb4⟩; obtain ⟨yA, yc, rfl⟩ := hy.form'; have HY := Lib.hid hy; have HE5 := Lib.hid (HE4.out.on hb4); have HF5 := Lib.hid (HF3.out.on hb4); have hh5 := cell_below hb4 hh4; have hx5 := cell_below hb4 hx4; have hf5 := HE5.out.os.frozen a; clear hb4 hy)
              refine hK.out _ _ (fun _ => ⟨HF5.out.c0, HF5.out.c1, HF5.out.c2, hx5, hh5⟩) (fun hHeld2 => ?_)
              clear hK K
              replace hHeld := hHeld2 (by decide)
              clear hHeld2
              try simp only [Act.put, List.setIfInBounds_toArray, List.set_cons_zero, List.set_cons_succ]
              refine Drawn.take (i := 17) (v := ?_) rfl (by kernel_rfl) (by kernel_rfl) (by kernel_rfl) (by kernel_rfl) (fun _ _ _ h => h) (Or.inl ⟨by rfl, ?_⟩) hHeld ?_
              rotate_left
              · intro w' hSw; (try dsimp only at hSw); first | (go_simp; done) | (go_simp; with_reducible rfl)
              try simp only [Act.put, List.setIfInBounds_toArray, List.set_cons_zero, List.set_cons_succ]
              refine Drawn.only (i := 18) (by kernel_rfl) rfl (fun K hK => ?_)
              go_simp
              refine hK.out _ _ (fun h => absurd rfl h) (fun _ => ?_)
              clear hK K
              refine Drawn.done (by kernel_rfl) ?_
              try simp only [Act.put, List.setIfInBounds_toArray, List.set_cons_zero, List.set_cons_succ]
              go_wp2_with fail
              go_meet
              case rel =>
                rw [HMO.out]
                have hsr := Rows.scale (refOps_lt HO.out Mod) (invF P M Mod x3) row
                exact HE5.out.setRow (Nat.le_refl _) a (HY.out.si (by rw [hsr.1, HRL.out]; omega) (fun j => by have := hsr.2 j; have hob := orderF_bounds P M; exact I64.of_small (by omega) (by omega))) (HE4.out.fresh HY.out)
          case rest =>
            have HEM := Lib.hid hcut; clear hcut
            have HML : Hid ((monicL O c a ls).length = n) := by show _ = _; rw [monicL_len, HSL.out]
            have HMR := Lib.hid (Rows.monic HLT.out HSR.out c (a := a) (by rw [HSL.out]; exact hal))
            have HNX2 : Hid (elimTo O rows (c + 1) = (clearTo O c a (monicL O c a ls) n, piv ++ [(c : Int)])) := by
              show _ = _
              rw [HNX.out, ← HA.out]
              unfold stepL
              rw [← HLS.out, HLN.out]
            obtain ⟨lm, hlm⟩ : ∃ lm, lm = monicL O c a ls := ⟨_, rfl⟩
            rw [← hlm] at HEM HML HMR HNX2
            clear hlm hh3 hx3 HES
            go_wp2_with fail
            go_loopw [13] (fun x wr => ∃ i : Nat, i ≤ n ∧ x = .int .i64 (i : Int) ∧ Hid (EL w0.heap.size w0 wr (.slice (some ⟨g, 0, none⟩) n cc) u9 (clearTo O c a lm i) piv X)) (fun x _ => (n - intOf x).toNat)
            case atStart => exact ⟨0, Nat.zero_le _, rfl, HEM⟩
            case round =>
              clear HEM
              obtain ⟨i, hi, rfl, HEI⟩ := hrel
              have HIL : Hid ((clearTo O c a lm i).length = n) := by show _ = _; rw [clearTo_len, HML.out]
              have HIR := Lib.hid (Rows.clear HLT.out HMR.out c a i (by rw [HML.out]; exact hi))
              by_cases hltn : i < n
              · obtain ⟨adi, rci, y, hhi, hyy, HYE, HSIi⟩ := HEI.out.os.elt (k := i) (j := c) (by rw [HIL.out]; exact hltn) (by rw [(HIR.out i (by rw [HIL.out]; exact hltn)).1]; exact hcLL)
                obtain ⟨ri, hri⟩ : ∃ ri, ri = (clearTo O c a lm i).getD i [] := ⟨_, rfl⟩
                rw [← hri] at hhi HYE HSIi
                have HRI : Hid (ri.length = L) := by show _ = _; rw [hri]; exact (HIR.out i (by rw [HIL.out]; exact hltn)).1
                rw [HRI.out] at hhi HSIi
                by_cases hia : i = a
                · have hib : (((i : Nat) : Int) != (a : Int)) = false := by rw [bne_eq_false_iff_eq]; omega
                  have HCN : Hid (clearTo O c a lm (i + 1) = clearTo O c a lm i) := by show _ = _; rw [clearTo, if_neg (fun h => h.1 hia)]
                  clear hia hri
                  go_wp2_with fail
                  exact ⟨⟨i + 1, by omega, rfl, by rw [HCN.out]; exact HEI⟩, by simp only [intOf]; omega⟩
                · have hib : (((i : Nat) : Int) != (a : Int)) = true := by rw [bne_iff_ne]; omega
                  by_cases hy0 : y = 0
                  · have hyb : (y != 0) = false := by simp [hy0]
                    have HCN : Hid (clearTo O c a lm (i + 1) = clearTo O c a lm i) := by show _ = _; rw [clearTo, if_neg (fun h => h.2 (by rw [← hri, HYE.out]; exact hy0))]
                    clear hia hri hy0
                    go_wp2_with fail
                    exact ⟨⟨i + 1, by omega, rfl, by rw [HCN.out]; exact HEI⟩, by simp only [intOf]; omega⟩
                  · have hyb : (y != 0) = true := by simp [hy0]
                    obtain ⟨ra, hra⟩ : ∃ ra, ra = (clearTo O c a lm i).getD a [] := ⟨_, rfl⟩
                    have HRA : Hid (ra.length = L) := by show _ = _; rw [hra]; exact (HIR.out a (by rw [HIL.out]; exact hal)).1
                    have HCN : Hid (clearTo O c a lm (i + 1) = (clearTo O c a lm i).set i (addToL (refOps P M Mod) ri (negF P M y) ra)) := by
                      show _ = _
                      rw [clearTo, if_pos ⟨hia, by rw [← hri, HYE.out]; exact hy0⟩, ← hri, ← hra, HYE.out, HOE.out]; rfl
                    obtain ⟨ada, rca, _, hha, _, _, HSIa⟩ := HEI.out.os.elt (k := a) (j := c) (by rw [HIL.out]; exact hal) (by rw [← hra, HRA.out]; exact hcLL)
                    rw [← hra, HRA.out] at hha HSIa
                    have hadd := Rows.addTo (refOps_lt HO.out Mod) (v := ri) (by rw [hri, ← HQE.out]; exact (HIR.out i (by rw [HIL.out]; exact hltn)).2) (negF P M y) ra
                    have HADD := Lib.hid hadd
                    clear hia hri hy0 hra hadd
                    have HFS := Lib.hid (HF.out.on HEI.out.bel)
                    have c0 := HFS.out.c0; have c1 := HFS.out.c1; have c2 := HFS.out.c2
                    have HHI := Lib.hid hhi; have HHA := Lib.hid hha; have HYY := Lib.hid hyy
                    go_wp2_with fail
                    refine Drawn.start (S := (fun w' => w'.cell? ⟨w.heap.size, 0, none⟩ = some (.int .i64 P) ∧ w'.cell? ⟨w.heap.size, 1, none⟩ = some (.int .i64 M) ∧ w'.cell? ⟨w.heap.size, 2, none⟩ = some mv ∧ w'.cell? (adi.add c) = some (.int .i64 y) ∧ w'.cell? ⟨g, i, none⟩ = some (.slice (some adi) L rci) ∧ w'.cell? ⟨g, a, none⟩ = some (.slice (some ada) L rca))) (by kernel_rfl) (⟨HFS.out.drew.c0, HFS.out.drew.c1, HFS.out.drew.c2, hyy, hhi, hha⟩) (fun hHeld => ?_)
                    change Drawn _ _ _ _ 23 _ _ _
                    refine Drawn.take (i := 0) (v := ?_) rfl (by kernel_rfl) (by kernel_rfl) (by kernel_rfl) (by kernel_rfl) (fun _ _ _ h => h) (Or.inl ⟨by rfl, ?_⟩) hHeld ?_
                    rotate_left
                    · intro w' hSw; (try dsimp only at hSw); first | (go_simp; done) | (go_simp; with_reducible rfl)
                    try simp only [Act.put, List.setIfInBounds_toArray, List.set_cons_zero, List.set_cons_succ]
                    refine Drawn.take (i := 1) (v := ?_) rfl (by kernel_rfl) (by kernel_rfl) (by kernel_rfl) (by kernel_rfl) (fun _ _ _ h => h) (Or.inl ⟨by rfl, ?_⟩) hHeld ?_
                    rotate_left
                    · intro w' hSw; (try dsimp only at hSw); first | (go_simp; done) | (go_simp; with_reducible rfl)
                    try simp only [Act.put, List.setIfInBounds_toArray, List.set_cons_zero, List.set_cons_succ]
                    refine Drawn.take (i := 2) (v := ?_) rfl (by kernel_rfl) (by kernel_rfl) (by kernel_rfl) (by kernel_rfl) (fun _ _ _ h => h) (Or.inl ⟨by rfl, ?_⟩) hHeld ?_
                    rotate_left
                    · intro w' hSw; (try dsimp only at hSw); first | (go_simp; done) | (go_simp; with_reducible rfl)
                    try simp only [Act.put, List.setIfInBounds_toArray, List.set_cons_zero, List.set_cons_succ]
                    refine Drawn.take (i := 3) (v := ?_) rfl (by kernel_rfl) (by kernel_rfl) (by kernel_rfl) (by kernel_rfl) (fun _ _ _ h => h) (Or.inl ⟨by rfl, ?_⟩) hHeld ?_
                    rotate_left
                    · intro w' hSw; (try dsimp only at hSw); first | (go_simp; done) | (go_simp; with_reducible rfl)
                    try simp only [Act.put, List.setIfInBounds_toArray, List.set_cons_zero, List.set_cons_succ]
                    refine Drawn.take (i := 4) (v := ?_) rfl (by kernel_rfl) (by kernel_rfl) (by kernel_rfl) (by kernel_rfl) (fun _ _ _ h => h) (Or.inl ⟨by rfl, ?_⟩) hHeld ?_
                    rotate_left
                    · intro w' hSw; (try dsimp only at hSw); first | (go_simp; done) | (go_simp; with_reducible rfl)
                    try simp only [Act.put, List.setIfInBounds_toArray, List.set_cons_zero, List.set_cons_succ]
                    refine Drawn.take (i := 5) (v := ?_) rfl (by kernel_rfl) (by kernel_rfl) (by kernel_rfl) (by kernel_rfl) (fun _ _ _ h => h) (Or.inl ⟨by rfl, ?_⟩) hHeld ?_
                    rotate_left
                    · intro w' hSw; (try dsimp only at hSw); first | (go_simp; done) | (go_simp; with_reducible rfl)
                    try simp only [Act.put, List.setIfInBounds_toArray, List.set_cons_zero, List.set_cons_succ]
                    refine Drawn.take (i := 6) (v := ?_) rfl (by kernel_rfl) (by kernel_rfl) (by kernel_rfl) (by kernel_rfl) (fun _ _ _ h => h) (Or.inl ⟨by rfl, ?_⟩) hHeld ?_
                    rotate_left
                    · intro w' hSw; (try dsimp only at hSw); first | (go_simp; done) | (go_simp; with_reducible rfl)
                    try simp only [Act.put, List.setIfInBounds_toArray, List.set_cons_zero, List.set_cons_succ]
                    refine Drawn.take (i := 7) (v := ?_) rfl (by kernel_rfl) (by kernel_rfl) (by kernel_rfl) (by kernel_rfl) (fun _ _ _ h => h) (Or.inl ⟨by rfl, ?_⟩) hHeld ?_
                    rotate_left
                    · intro w' hSw; (try dsimp only at hSw); first | (go_simp; done) | (go_simp; with_reducible rfl)
                    try simp only [Act.put, List.setIfInBounds_toArray, List.set_cons_zero, List.set_cons_succ]
                    refine Drawn.take (i := 8) (v := ?_) rfl (by kernel_rfl) (by kernel_rfl) (by kernel_rfl) (by kernel_rfl) (fun _ _ _ h => h) (Or.inl ⟨by rfl, ?_⟩) hHeld ?_
                    rotate_left
                    · intro w' hSw; (try dsimp only at hSw); first | (go_simp; done) | (go_simp; with_reducible rfl)
                    try simp only [Act.put, List.setIfInBounds_toArray, List.set_cons_zero, List.set_cons_succ]
                    refine Drawn.take (i := 9) (v := ?_) rfl (by kernel_rfl) (by kernel_rfl) (by kernel_rfl) (by kernel_rfl) (fun _ _ _ h => h) (Or.inl ⟨by rfl, ?_⟩) hHeld ?_
                    rotate_left
                    · intro w' hSw; (try dsimp only at hSw); first | (go_simp; done) | (go_simp; with_reducible rfl)
                    try simp only [Act.put, List.setIfInBounds_toArray, List.set_cons_zero, List.set_cons_succ]
                    refine Drawn.take (i := 10) (v := ?_) rfl (by kernel_rfl) (by kernel_rfl) (by kernel_rfl) (by kernel_rfl) (fun _ _ _ h => h) (Or.inl ⟨by rfl, ?_⟩) hHeld ?_
                    rotate_left
                    · intro w' hSw; (try dsimp only at hSw); first | (go_simp; done) | (go_simp; with_reducible rfl)
                    try simp only [Act.put, List.setIfInBounds_toArray, List.set_cons_zero, List.set_cons_succ]
                    refine Drawn.take (i := 11) (v := ?_) rfl (by kernel_rfl) (by kernel_rfl) (by kernel_rfl) (by kernel_rfl) (fun _ _ _ h => h) (Or.inl ⟨by rfl, ?_⟩) hHeld ?_
                    rotate_left
                    · intro w' hSw; (try dsimp only at hSw); first | (go_simp; done) | (go_simp; with_reducible rfl)
                    try simp only [Act.put, List.setIfInBounds_toArray, List.set_cons_zero, List.set_cons_succ]
                    refine Drawn.take (i := 12) (v := ?_) rfl (by kernel_rfl) (by kernel_rfl) (by kernel_rfl) (by kernel_rfl) (fun _ _ _ h => h) (Or.inl ⟨by rfl, ?_⟩) hHeld ?_
                    rotate_left
                    · intro w' hSw; (try dsimp only at hSw); first | (go_simp; done) | (go_simp; with_reducible rfl)
                    try simp only [Act.put, List.setIfInBounds_toArray, List.set_cons_zero, List.set_cons_succ]
                    refine Drawn.take (i := 13) (v := ?_) rfl (by kernel_rfl) (by kernel_rfl) (by kernel_rfl) (by kernel_rfl) (fun _ _ _ h => h) (Or.inl ⟨by rfl, ?_⟩) hHeld ?_
                    rotate_left
                    · intro w' hSw; (try dsimp only at hSw); first | (go_simp; done) | (go_simp; with_reducible rfl)
                    try simp only [Act.put, List.setIfInBounds_toArray, List.set_cons_zero, List.set_cons_succ]
                    refine Drawn.take (i := 14) (v := ?_) rfl (by kernel_rfl) (by kernel_rfl) (by kernel_rfl) (by kernel_rfl) (fun _ _ _ h => h) (Or.inl ⟨by rfl, ?_⟩) hHeld ?_
                    rotate_left
                    · intro w' hSw; (try dsimp only at hSw); first | (go_simp; done) | (go_simp; with_reducible rfl)
                    try simp only [Act.put, List.setIfInBounds_toArray, List.set_cons_zero, List.set_cons_succ]
                    refine Drawn.take (i := 16) (v := ?_) rfl (by kernel_rfl) (by kernel_rfl) (by kernel_rfl) (by kernel_rfl) (fun _ _ _ h => h) (Or.inl ⟨by rfl, ?_⟩) hHeld ?_
                    rotate_left
                    · intro w' hSw; (try dsimp only at hSw); first | (go_simp; done) | (go_simp; with_reducible rfl)
                    try simp only [Act.put, List.setIfInBounds_toArray, List.set_cons_zero, List.set_cons_succ]
                    refine Drawn.take (i := 17) (v := ?_) rfl (by kernel_rfl) (by kernel_rfl) (by kernel_rfl) (by kernel_rfl) (fun _ _ _ h => h) (Or.inl ⟨by rfl, ?_⟩) hHeld ?_
                    rotate_left
                    · intro w' hSw; (try dsimp only at hSw); first | (go_simp; done) | (go_simp; with_reducible rfl)
                    try simp only [Act.put, List.setIfInBounds_toArray, List.set_cons_zero, List.set_cons_succ]
                    refine Drawn.take (i := 18) (v := ?_) rfl (by kernel_rfl) (by kernel_rfl) (by kernel_rfl) (by kernel_rfl) (fun _ _ _ h => h) (Or.inl ⟨by rfl, ?_⟩) hHeld ?_
                    rotate_left
                    · intro w' hSw; (try dsimp only at hSw); first | (go_simp; done) | (go_simp; with_reducible rfl)
                    try simp only [Act.put, List.setIfInBounds_toArray, List.set_cons_zero, List.set_cons_succ]
                    refine Drawn.take (i := 19) (v := ?_) rfl (by kernel_rfl) (by kernel_rfl) (by kernel_rfl) (by kernel_rfl) (fun _ _ _ h => h) (Or.inl ⟨by rfl, ?_⟩) hHeld ?_
                    rotate_left
                    · intro w' hSw; (try dsimp only at hSw); first | (go_simp; done) | (go_simp; with_reducible rfl)
                    try simp only [Act.put, List.setIfInBounds_toArray, List.set_cons_zero, List.set_cons_succ]
                    refine Drawn.only (i := 15) (by kernel_rfl) rfl (fun K hK => ?_)
                    go_simp
                    (refine (rNeg_any _ P M y mv HO.out).mono ?_; rintro e w3 ⟨rfl, hb3⟩; have HB3 := Lib.hid (bl_trans (bl_drew wr) hb3); have HF3 := Lib.hid (HFS.out.on HB3.out); have hi4 := cell_below HB3.out HHI.out; have ha4 := cell_below HB3.out HHA.out; have hy4 := cell_below HB3.out HYY.out; have HSI4 := Lib.hid (HSIi.out.below HB3.out (Nat.le_refl _)); have HSA4 := Lib.hid (HSIa.out.below HB3.out (Nat.le_refl _)); have HE4 := Lib.hid (HEI.out.on HB3.out); clear hb3)
                    refine hK.out _ _ (fun _ => ⟨HF3.out.c0, HF3.out.c1, HF3.out.c2, hy4, hi4, ha4⟩) (fun hHeld2 => ?_)
                    clear hK K
                    replace hHeld := hHeld2 (by decide)
                    clear hHeld2
                    try simp only [Act.put, List.setIfInBounds_toArray, List.set_cons_zero, List.set_cons_succ]
                    refine Drawn.only (i := 20) (by kernel_rfl) rfl (fun K hK => ?_)
                    go_simp
                    (refine (rAddTo_any _ P M _ mv _ _ Mod ri ra (HM.out.below HF3.out.bel (Nat.le_refl _)) HSI4.out HSA4.out (by rw [HRI.out]; omega) (by rw [HRI.out, HRA.out]; exact Nat.le_refl _) HO.out HMOD.out).mono ?_; rintro e w4 ⟨z, rfl, hz, hb4⟩; obtain ⟨zA, zc, rfl⟩ := hz.form'; have HZ := Lib.hid hz; have HE5 := Lib.hid (HE4.out.on hb4); have HF5 := Lib.hid (HF3.out.on hb4); have hi5 := cell_below hb4 hi4; have ha5 := cell_below hb4 ha4; have hy5 := cell_below hb4 hy4; have hf5 := HE5.out.os.frozen i; clear hb4 hz)
                    refine hK.out _ _ (fun _ => ⟨HF5.out.c0, HF5.out.c1, HF5.out.c2, hy5, hi5, ha5⟩) (fun hHeld2 => ?_)
                    clear hK K
                    replace hHeld := hHeld2 (by decide)
                    clear hHeld2
                    try simp only [Act.put, List.setIfInBounds_toArray, List.set_cons_zero, List.set_cons_succ]
                    refine Drawn.take (i := 21) (v := ?_) rfl (by kernel_rfl) (by kernel_rfl) (by kernel_rfl) (by kernel_rfl) (fun _ _ _ h => h) (Or.inl ⟨by rfl, ?_⟩) hHeld ?_
                    rotate_left
                    · intro w' hSw; (try dsimp only at hSw); first | (go_simp; done) | (go_simp; with_reducible rfl)
                    try simp only [Act.put, List.setIfInBounds_toArray, List.set_cons_zero, List.set_cons_succ]
                    refine Drawn.only (i := 22) (by kernel_rfl) rfl (fun K hK => ?_)
                    go_simp
                    refine hK.out _ _ (fun h => absurd rfl h) (fun _ => ?_)
                    clear hK K
                    refine Drawn.done (by kernel_rfl) ?_
                    try simp only [Act.put, List.setIfInBounds_toArray, List.set_cons_zero, List.set_cons_succ]
                    go_wp2_with fail
                    refine ⟨⟨i + 1, by omega, rfl, ?_⟩, by simp only [intOf]; omega⟩
                    rw [HCN.out]
                    exact HE5.out.setRow (Nat.le_refl _) i (HZ.out.si (by rw [HADD.out.1, HRI.out]; omega) (fun j => by have := HADD.out.2 j; have hob := orderF_bounds P M; exact I64.of_small (by omega) (by omega))) (HE4.out.fresh HZ.out)
              · obtain rfl : n = i := by omega
                have HPL : Hid (piv.length + [(c : Int)].length ≤ 17592186044416) := by show _ ≤ _; rw [← HA.out, List.length_singleton]; omega
                have HOI1 := Lib.hid (HEI.out.oi.alloc (.cells #[.int .i64 (c : Int)] 3))
                have HSC : Hid (SI (wr.alloc (.cells #[.int .i64 (c : Int)] 3)) (.slice (some ⟨wr.heap.size, 0, none⟩) 1 1) [(c : Int)]) := SI.lit wr [(c : Int)] (by simp) (fun j => by
                  rcases j with _ | j
                  · exact I64.of_small (by show _ ≤ (c : Int); omega) (by show (c : Int) ≤ _; omega)
                  · exact I64.zero)
                have HUP : Hid (w0.heap.size ≤ (wr.alloc (.cells #[.int .i64 (c : Int)] 3)).heap.size) := up_alloc HEI.out.bel.size _
                go_wp2_with (at_builtin; go_must (refine wpList_catI rfl _ _ rfl w0.heap.size _ piv rfl HOI1.out _ [(c : Int)] rfl HSC.out HPL.out HUP.out ?_); (intro v5 w5 ho hg hv); have HE6 := Lib.hid (HEI.out.push (Nat.le_refl _) ho hg hv); clear ho hg hv)
                exact ⟨⟨c + 1, a + 1, _, _, _, by omega, rfl, rfl, by show _ = _; rw [List.length_append, List.length_singleton, HA.out], HNX2.out, HE6⟩, by simp only [intOf]; omega⟩
      · obtain rfl : n = k := by omega
        have HKE : Hid (findK l c l.length (l.length - piv.length) piv.length = n) := by
          show _ = _
          rw [HLN.out, ← HA.out, HK.out, Nat.sub_self, findK]
        have hkb : (((n : Nat) : Int) == (n : Int)) = true := by simp
        have HNX : Hid (elimTo O rows (c + 1) = (l, piv)) := by
          show _ = _
          rw [elimTo_next HE.out (by rw [HLN.out, ← HA.out]; exact hal) HKE.out, if_pos HLN.out.symm]
        go_wp2_with fail
        exact ⟨⟨c + 1, a, l, piv, X, by omega, rfl, rfl, HA, HNX, HEL⟩, by simp only [intOf]; omega⟩

theorem rElim_any (w : World) (P M : Int) (cols L : Nat) (mv v : Value) (Mod : List Int) (rows : List (List Int)) (hm : SI w mv Mod) (hv : SS w v rows) (ho : orderF P M ≠ 0) (hmod : ModP P M Mod)
    (hR : Rows (orderF P M) L rows) (hcL : cols ≤ L) (hL : L ≤ 100000) (hn : rows.length ≤ 100000) :
    Calls Try.prog 72 #[.agg #[.int .i64 P, .int .i64 M, mv], v, .int .i64 (cols : Int)] w (RetSI w (elimTo (refOps P M Mod) rows cols).1 (elimTo (refOps P M Mod) rows cols).2) := by
  rcases Nat.eq_zero_or_pos rows.length with h | h
  · obtain rfl := List.eq_nil_of_length_eq_zero h
    have e : ∀ c, elimTo (refOps P M Mod) [] c = ([], []) := fun c => by
      induction c with
      | zero => rfl
      | succ c ih => rw [elimTo, ih]; rfl
    rw [e]
    exact rElim_nil w P M _ mv v Mod hv
  · exact rElim_cons w P M cols L mv v Mod rows hm hv ho hmod hR hcL hL h hn
end Go.Proofs.Ytkamgnihpcafdaa

/- Words for structs that a call stores into a block of its own, field by field. -/
namespace Go.Proofs.Ytkamgnihpcafdaa
open Go.RowKit
set_option linter.unusedVariables false

/-- the world behind the stores, under a name of its own -/
structure Laid (w w' : World) (g : Nat) (t : TypeId) (cs : List Value) : Prop where
  blk : Blk w' g t cs
  gr : w.grownBy w' (some g)
theorem Laid.c0 {w w' : World} {g : Nat} {t : TypeId} {a : Value} {cs : List Value} (h : Laid w w' g t (a :: cs)) : w'.cell? ⟨g, 0, none⟩ = some a := h.blk.cell 0
theorem Laid.c1 {w w' : World} {g : Nat} {t : TypeId} {a b : Value} {cs : List Value} (h : Laid w w' g t (a :: b :: cs)) : w'.cell? ⟨g, 1, none⟩ = some b := h.blk.cell 1
theorem Laid.c2 {w w' : World} {g : Nat} {t : TypeId} {a b c : Value} {cs : List Value} (h : Laid w w' g t (a :: b :: c :: cs)) : w'.cell? ⟨g, 2, none⟩ = some c := h.blk.cell 2
theorem Laid.c3 {w w' : World} {g : Nat} {t : TypeId} {a b c d : Value} {cs : List Value} (h : Laid w w' g t (a :: b :: c :: d :: cs)) : w'.cell? ⟨g, 3, none⟩ = some d := h.blk.cell 3
theorem Laid.c4 {w w' : World} {g : Nat} {t : TypeId} {a b c d e : Value} {cs : List Value} (h : Laid w w' g t (a :: b :: c :: d :: e :: cs)) : w'.cell? ⟨g, 4, none⟩ = some e := h.blk.cell 4
theorem Laid.fz {w w' : World} {g : Nat} {t : TypeId} {cs : List Value} (h : Laid w w' g t cs) (i : Nat) : w'.frozen? ⟨g, i, none⟩ = false := h.blk.frozen i
theorem Laid.below {B : Nat} {w0 w w' : World} {g : Nat} {t : TypeId} {cs : List Value} (h : Laid w w' g t cs) (hb : Below B w0 w) (hB : B ≤ w.heap.size) (hg : B ≤ g) : Below B w0 w' := hb.grown h.gr hB fun k e => by cases e; exact hg
theorem lay1 {w : World} {g : Nat} {t : TypeId} {a x : Value} (h : Blk w g t [a]) : ∃ w', w.setCell ⟨g, 0, none⟩ x = w' ∧ Laid w w' g t [x] :=
  ⟨_, rfl, h.set_ 0 x, gr_set1 w g 0 x⟩
theorem lay2 {w : World} {g : Nat} {t : TypeId} {a b x y : Value} (h : Blk w g t [a, b]) : ∃ w', (w.setCell ⟨g, 0, none⟩ x).setCell ⟨g, 1, none⟩ y = w' ∧ Laid w w' g t [x, y] :=
  ⟨_, rfl, (h.set_ 0 x).set_ 1 y, gr_set2 w g 0 1 x y⟩
theorem lay3 {w : World} {g : Nat} {t : TypeId} {a b c x y z : Value} (h : Blk w g t [a, b, c]) : ∃ w', ((w.setCell ⟨g, 0, none⟩ x).setCell ⟨g, 1, none⟩ y).setCell ⟨g, 2, none⟩ z = w' ∧ Laid w w' g t [x, y, z] :=
  ⟨_, rfl, ((h.set_ 0 x).set_ 1 y).set_ 2 z, gr_setCell (p := ⟨g, 2, none⟩) (gr_set2 w g 0 1 x y) (.inl rfl) _⟩
theorem lay5 {w : World} {g : Nat} {t : TypeId} {a b c d e x y z u v : Value} (h : Blk w g t [a, b, c, d, e]) : ∃ w', ((((w.setCell ⟨g, 0, none⟩ x).setCell ⟨g, 1, none⟩ y).setCell ⟨g, 2, none⟩ z).setCell ⟨g, 3, none⟩ u).setCell ⟨g, 4, none⟩ v = w' ∧ Laid w w' g t [x, y, z, u, v] :=
  ⟨_, rfl, ((((h.set_ 0 x).set_ 1 y).set_ 2 z).set_ 3 u).set_ 4 v, gr_setCell (p := ⟨g, 4, none⟩) (gr_setCell (p := ⟨g, 3, none⟩) (gr_setCell (p := ⟨g, 2, none⟩) (gr_set2 w g 0 1 x y) (.inl rfl) _) (.inl rfl) _) (.inl rfl) _⟩
theorem Blk.three {w : World} {g : Nat} {t : TypeId} {a b c : Value} (h : Blk w g t [a, b, c]) :
    w.cell? ⟨g, 0, none⟩ = some a ∧ w.cell? ⟨g, 1, none⟩ = some b ∧ w.cell? ⟨g, 2, none⟩ = some c ∧ w.frozen? ⟨g, 0, none⟩ = false ∧ w.frozen? ⟨g, 1, none⟩ = false ∧ w.frozen? ⟨g, 2, none⟩ = false :=
  ⟨h.cell 0, h.cell 1, h.cell 2, h.frozen 0, h.frozen 1, h.frozen 2⟩
theorem Blk.two {w : World} {g : Nat} {t : TypeId} {a b : Value} (h : Blk w g t [a, b]) :
    w.cell? ⟨g, 0, none⟩ = some a ∧ w.cell? ⟨g, 1, none⟩ = some b ∧ w.frozen? ⟨g, 0, none⟩ = false ∧ w.frozen? ⟨g, 1, none⟩ = false :=
  ⟨h.cell 0, h.cell 1, h.frozen 0, h.frozen 1⟩
theorem Blk.five {w : World} {g : Nat} {t : TypeId} {a b c d e : Value} (h : Blk w g t [a, b, c, d, e]) :
    w.cell? ⟨g, 0, none⟩ = some a ∧ w.cell? ⟨g, 1, none⟩ = some b ∧ w.cell? ⟨g, 2, none⟩ = some c ∧ w.cell? ⟨g, 3, none⟩ = some d ∧ w.cell? ⟨g, 4, none⟩ = some e ∧
    w.frozen? ⟨g, 0, none⟩ = false ∧ w.frozen? ⟨g, 1, none⟩ = false ∧ w.frozen? ⟨g, 2, none⟩ = false ∧ w.frozen? ⟨g, 3, none⟩ = false ∧ w.frozen? ⟨g, 4, none⟩ = false :=
  ⟨h.cell 0, h.cell 1, h.cell 2, h.cell 3, h.cell 4, h.frozen 0, h.frozen 1, h.frozen 2, h.frozen 3, h.frozen 4⟩
end Go.Proofs.Ytkamgnihpcafdaa

/- What a value reads as, while only blocks below a bound turn: results that lie in new memory. -/
namespace Go.Proofs.Ytkamgnihpcafdaa
open Go.RowKit
set_option linter.unusedVariables false

/-- Φ holds in every world in which the blocks from B on read as they do here -/
def Sep (B : Nat) (w : World) (Φ : World → Prop) : Prop := ∀ w2 : World, (∀ p : Addr, B ≤ p.block → p.block < w.heap.size → w2.cell? p = w.cell? p) → Φ w2
section
variable {B B' : Nat} {w w' : World} {Φ Ψ : World → Prop}
theorem Sep.out (h : Sep B w Φ) : Φ w := h w fun _ _ _ => rfl
theorem Sep.mono (h : Sep B w Φ) (hB : B' ≤ B) : Sep B' w Φ := fun w2 h2 => h w2 fun p h3 h4 => h2 p (by omega) h4
theorem Sep.of (h : Sep B w Φ) (hs : w.heap.size ≤ w'.heap.size) (hc : ∀ p : Addr, B ≤ p.block → p.block < w.heap.size → w'.cell? p = w.cell? p) : Sep B w' Φ := fun w2 h2 =>
  h w2 fun p h3 h4 => (h2 p h3 (Nat.lt_of_lt_of_le h4 hs)).trans (hc p h3 h4)
theorem Sep.on (h : Sep B w Φ) (hb : Below w.heap.size w w') : Sep B w' Φ := h.of hb.size fun p _ h4 => hb.cell h4
theorem Sep.grown {row : Option Nat} (h : Sep B w Φ) (hg : w.grownBy w' row) (hr : ∀ g, row = some g → g < B) : Sep B w' Φ := h.of hg.size fun p h3 h4 =>
  World.cell?_of_block (hg.block _ h4 fun e => by have := hr _ e.symm; omega)
theorem Sep.setCell (h : Sep B w Φ) {a : Addr} (ha : a.block < B) (u : Value) : Sep B (w.setCell a u) Φ := h.of (by simp [World.setCell]) fun p h3 h4 =>
  World.cell?_of_block (Below.heap_setCell w a u p.block (by omega))
theorem Sep.imp (h : Sep B w Φ) (k : ∀ w2, Φ w2 → Ψ w2) : Sep B w Ψ := fun w2 h2 => k w2 (h w2 h2)
theorem Sep.and (h : Sep B w Φ) (k : Sep B w Ψ) : Sep B w fun w2 => Φ w2 ∧ Ψ w2 := fun w2 h2 => ⟨h w2 h2, k w2 h2⟩
theorem Sep.drew (h : Sep B w Φ) : Sep B w.drew Φ := h.on (bl_drew w)
theorem Sep.drewN (h : Sep B w Φ) (n : Nat) : Sep B (w.drewN n) Φ := h.on (bl_drewN w n)
end
theorem SI.wfs {w : World} {v : Value} {xs : List Int} (h : SI w v xs) (k : Nat) : I64 (xs.getD k 0) := by obtain ⟨_, _, _, h⟩ := h; exact h.wf k
theorem SI.len' {w : World} {v : Value} {xs : List Int} (h : SI w v xs) : xs.length ≤ 17592186044416 := by obtain ⟨_, _, _, h⟩ := h; exact h.len
theorem SS.len' {w : World} {v : Value} {xs : List (List Int)} (h : SS w v xs) : xs.length ≤ 17592186044416 := by obtain ⟨_, _, _, h⟩ := h; exact h.len
theorem SI.moved {w w' : World} {v : Value} {xs : List Int} (h : SI w v xs) (hc : ∀ p : Addr, v.ownBlock = some p.block → p.block < w.heap.size → w'.cell? p = w.cell? p) : SI w' v xs := by
  obtain ⟨A, c, rfl, h⟩ := h
  refine ⟨A, c, rfl, h.len, h.cap, fun k hk => ?_, h.wf⟩
  obtain ⟨ad, e, hcl⟩ := h.cell k hk
  refine ⟨ad, e, ?_⟩
  subst e
  rw [hc (ad.add k) (by rw [block_of_add]; rfl) (World.block_lt_of_cell? _ _ hcl)]
  exact hcl
theorem SI.sep {B : Nat} {w : World} {v : Value} {xs : List Int} (h : SI w v xs) (hn : 0 < xs.length → ∀ g, v.ownBlock = some g → B ≤ g) : Sep B w fun w2 => SI w2 v xs := fun w2 h2 => by
  by_cases h0 : 0 < xs.length
  · exact h.moved fun p hp hl => h2 p (hn h0 _ hp) hl
  · obtain ⟨A, c, rfl, h⟩ := h
    exact ⟨A, c, rfl, h.len, h.cap, fun k hk => absurd hk (by omega), h.wf⟩
theorem OI.sep {B : Nat} {w : World} {v : Value} {xs : List Int} (h : OI B w v xs) (hl : xs.length ≤ 17592186044416) (hw : ∀ k, I64 (xs.getD k 0)) : Sep B w fun w2 => SI w2 v xs :=
  (h.si hl hw).sep fun _ g hg => (h.lt hg).1
theorem SI.nilSep (B : Nat) (w : World) : Sep B w fun w2 => SI w2 (.slice none 0 0) [] := fun w2 _ => SI.none_ w2
theorem SS.nilSep (B : Nat) (w : World) : Sep B w fun w2 => SS w2 (.slice none 0 0) [] := fun w2 _ => SS.none_ w2
theorem OS.sep {B : Nat} {X : Nat → Prop} {w : World} {v : Value} {l : List (List Int)} (h : OS B X w v l) (hX : ∀ g, g < B → X g) (hl : l.length ≤ 17592186044416) : Sep B w fun w2 => SS w2 v l := fun w2 h2 => by
  obtain ⟨us, ho, hi⟩ := h
  have hc := ho.2
  rcases hc with ⟨rfl, h0⟩ | ⟨g, cap, cur, rfl, hB, hg, hn, _, _, _⟩
  · obtain rfl : l = [] := List.eq_nil_of_length_eq_zero h0
    exact SS.none_ w2
  · have hgl := (Array.getElem?_eq_some_iff.1 hg).1
    refine ⟨some ⟨g, 0, none⟩, cap, rfl, hl, hn, fun k hk => ?_⟩
    obtain ⟨u, hu, hs, hx⟩ := hi k hk
    refine ⟨_, u, rfl, ?_, (hs.sep (B := B) fun h0 g' hg' => ?_) w2 h2⟩
    · rw [h2 _ (by rw [block_of_add]; exact hB) (by rw [block_of_add]; exact hgl)]
      exact World.ownsRow.cells ho (g := g) rfl k u hu
    · refine Decidable.byContradiction fun hlt => (hx h0 g' hg').2 (hX g' (by omega))
end Go.Proofs.Ytkamgnihpcafdaa

/- ref09: Canon. -/
namespace Go.Proofs.Ytkamgnihpcafdaa
open Go.RowKit
set_option linter.unusedVariables false
set_option maxRecDepth 100000

/-- rows and pivots come back; the rows may be the beginning of a longer slice -/
def RetLI (w : World) (xss : List (List Int)) (ys : List Int) (e : Ending) (w' : World) : Prop := ∃ u1 u2, e = .returned (.tuple #[u1, u2]) ∧ Sep w.heap.size w' (fun w2 => SS w2 u1 xss) ∧ New w u1 ∧ OI w.heap.size w' u2 ys ∧ Below w.heap.size w w'
theorem SS.takeN {w : World} {A : Option Addr} {n c : Nat} {xss : List (List Int)} (h : SS w (.slice A n c) xss) {k : Nat} (hk : k ≤ xss.length) : SS w (.slice A k c) (xss.take k) := by
  obtain ⟨A', c', e, h⟩ := h
  injection e with e1 e2 e3
  subst e1 e3
  have hl : (xss.take k).length = k := by rw [List.length_take]; omega
  refine ⟨A, c, by rw [hl], by have := h.len; omega, by have := h.cap; omega, fun j hj => ?_⟩
  rw [hl] at hj
  obtain ⟨ad, u, e, hc, hs⟩ := h.cell j (by omega)
  exact ⟨ad, u, e, hc, by rw [show (xss.take k).getD j [] = xss.getD j [] by simp [List.getD, List.getElem?_take, hj]]; exact hs⟩

set_option maxHeartbeats 4000000 in
theorem rCanon_any (w : World) (P M : Int) (cols L : Nat) (mv v : Value) (Mod : List Int) (rows : List (List Int)) (hm : SI w mv Mod) (hv : SS w v rows) (ho : orderF P M ≠ 0) (hmod : ModP P M Mod)
    (hR : Rows (orderF P M) L rows) (hcL : cols ≤ L) (hL : L ≤ 100000) (hn : rows.length ≤ 100000) :
    Calls Try.prog 58 #[.agg #[.int .i64 P, .int .i64 M, mv], v, .int .i64 (cols : Int)] w (RetLI w (canonL (refOps P M Mod) rows cols) (pivL (refOps P M Mod) rows cols)) := by
  have HEL := Lib.hid (fun w' (hb : Below w.heap.size w w') => rElim_any w' P M cols L mv v Mod rows (hm.below hb (Nat.le_refl _)) (hv.below hb (Nat.le_refl _)) ho hmod hR hcL hL hn)
  have hp := elimTo_piv (refOps P M Mod) rows cols
  have hl := elimTo_len (refOps P M Mod) rows cols
  have HCE : Hid (canonL (refOps P M Mod) rows cols = (elimTo (refOps P M Mod) rows cols).1.take (elimTo (refOps P M Mod) rows cols).2.length ∧ pivL (refOps P M Mod) rows cols = (elimTo (refOps P M Mod) rows cols).2) := ⟨rfl, rfl⟩
  obtain ⟨l, hle⟩ : ∃ l, l = (elimTo (refOps P M Mod) rows cols).1 := ⟨_, rfl⟩
  obtain ⟨piv, hpe⟩ : ∃ piv, piv = (elimTo (refOps P M Mod) rows cols).2 := ⟨_, rfl⟩
  rw [← hle] at hl HCE
  rw [← hpe] at hp HCE
  have HLE := Lib.hid hle; have HPE := Lib.hid hpe; clear hle hpe
  obtain ⟨n, hnn⟩ : ∃ n, n = l.length := ⟨_, rfl⟩
  obtain ⟨r, hrr⟩ : ∃ r, r = piv.length := ⟨_, rfl⟩
  have hrn : r ≤ n := by omega
  have hn2 : n ≤ 100000 := by omega
  have HN := Lib.hid hnn; have HR2 := Lib.hid hrr; clear hnn hrr hl hp hm hv ho hmod hR hcL hL hn
  go_enter Try.func58, Try.ntmps58
  go_wp2_with fail
  refine (HEL.out _ (bl_alloc _ _)).mono ?_
  rintro e w1 ⟨u1, u2, rfl, h1, h2, hb1⟩
  rw [← HLE.out] at h1
  rw [← HPE.out] at h2
  obtain ⟨A1, c1, rfl⟩ := h1.form
  obtain ⟨A2, c2, rfl⟩ := h2.form'
  have hnew : New w (.slice A1 l.length c1) := fun g hg => by have := (h1.lt hg).1; rw [World.size_alloc] at this; omega
  have hss := h1.ss (by rw [← HN.out]; omega)
  have hsep := (h1.sep (fun g hg => hg) (by rw [← HN.out]; omega)).mono (B' := w.heap.size) (by rw [World.size_alloc]; omega)
  have hcap : l.length ≤ c1 := by obtain ⟨_, _, e, hs⟩ := hss; injection e with e1 e2 e3; rw [e3]; exact hs.cap
  rw [← HN.out] at hss hsep hnew hcap ⊢
  rw [← HR2.out] at h2 ⊢
  have HSS := Lib.hid hsep; have HNEW := Lib.hid hnew; have H2 := Lib.hid h2
  have HB := Lib.hid (bl_trans (bl_alloc _ _) hb1)
  clear hss hsep hnew h1 h2 hb1
  have hrc : r ≤ c1 := by omega
  go_wp2_with fail
  go_ret2
  have hsz : w.heap.size ≤ (w.alloc (.cells #[.int .i64 P, .int .i64 M, mv] 47)).heap.size := by rw [World.size_alloc]; omega
  rw [HCE.out.2]
  refine ⟨.slice A1 r c1, .slice A2 r c2, rfl, ?_, fun g hg => HNEW.out g (by cases A1 with
    | none => simp [Value.ownBlock] at hg
    | some ad => simpa [Value.ownBlock] using hg), H2.out.mono hsz, HB.out⟩
  rw [HCE.out.1, ← HR2.out]
  exact HSS.out.imp fun w2 h => h.takeN (by rw [← HN.out]; exact hrn)
end Go.Proofs.Ytkamgnihpcafdaa

/- ref10.Check: the rows are canonical. -/
namespace Go.Proofs.Ytkamgnihpcafdaa
open Go.RowKit
set_option linter.unusedVariables false
set_option maxRecDepth 100000

/-- the error of a space -/
noncomputable def spaceE (P M : Int) (Mod : List Int) (cols : Int) (rows : List (List Int)) : Int :=
  if matE P M Mod cols rows ≠ 0 then matE P M Mod cols rows else if canonL (refOps P M Mod) rows cols.toNat = rows then 0 else 5
theorem checkF_zero {P M : Int} {Mod : List Int} (h : checkF P M Mod = 0) : FieldP P M Mod := by
  unfold checkF at h
  split at h
  · assumption
  · cases h
theorem entriesF_zero {q : Int} {l : List Int} (h : entriesF q l = 0) : ∀ k, k < l.length → 0 ≤ l.getD k 0 ∧ l.getD k 0 < q := by
  unfold entriesF at h
  split at h
  · assumption
  · cases h
/-- a matrix without error -/
theorem matE_zero {P M : Int} {Mod : List Int} {cols : Int} {rows : List (List Int)} (h : matE P M Mod cols rows = 0) :
    FieldP P M Mod ∧ 0 ≤ cols ∧ cols ≤ 256 ∧ rows.length ≤ 256 ∧ Rows (orderF P M) cols.toNat rows := by
  unfold matE at h
  split at h
  · rename_i h1; exact absurd h h1
  rename_i h1
  split at h
  · cases h
  rename_i h2
  split at h
  case isFalse => cases h
  rename_i h3
  split at h
  case isFalse => cases h
  rename_i h4
  have hf := checkF_zero (Decidable.not_not.1 h1)
  have hq := (order_ne hf.1).2.2.2.2.1
  refine ⟨hf, by omega, by omega, by omega, fun k hk => ?_⟩
  rw [lensOK, List.all_eq_true] at h3
  rw [entsOK, List.all_eq_true] at h4
  have hm : rows.getD k [] ∈ rows := by
    simp [List.getD, hk]
  have e3 := h3 _ hm
  have e4 := h4 _ hm
  rw [beq_iff_eq] at e3 e4
  refine ⟨by omega, fun i => ?_⟩
  by_cases hi : i < (rows.getD k []).length
  · exact entriesF_zero e4 i hi
  · rw [getD_len (by omega)]
    have := orderF_bounds P M
    have := hf.1
    omega

set_option maxHeartbeats 8000000 in
theorem rSCheck_any (w : World) (P M cols : Int) (mv rv : Value) (Mod : List Int) (rows : List (List Int)) (hm : SI w mv Mod) (hv : SS w rv rows) :
    Calls Try.prog 60 #[.agg #[.int .i64 P, .int .i64 M, mv], .agg #[.int .i64 cols, rv]] w (RetI w (spaceE P M Mod cols rows)) := by
  obtain ⟨A, c, rfl, hv⟩ := hv
  have HM := Lib.hid hm
  have HV := Lib.hid (show SS w (.slice A rows.length c) rows from ⟨A, c, rfl, hv⟩); clear hv hm
  obtain ⟨n, hn⟩ : ∃ n, n = rows.length := ⟨_, rfl⟩
  have HF := Lib.hid (FMBox.mk' w P M mv cols (.slice A n c))
  rw [← hn] at HV ⊢
  have HN := Lib.hid hn; clear hn
  by_cases hme : matE P M Mod cols rows = 0
  case neg =>
    have HE : Hid (spaceE P M Mod cols rows = matE P M Mod cols rows) := by show _ = _; unfold spaceE; rw [if_pos hme]
    have hb : (matE P M Mod cols rows != 0) = true := by rw [bne_iff_ne]; exact hme
    clear hme
    go_enter Try.func60, Try.ntmps60
    go_wp2_with fail
    generalize hw0 : (w.alloc (.cells #[.int .i64 P, .int .i64 M, mv] 47)).alloc (.cells #[.int .i64 cols, .slice A n c] 92) = w0 at *
    have c0 := HF.out.fb.c0; have c1 := HF.out.fb.c1; have c2 := HF.out.fb.c2; have d0 := HF.out.d0; have d1 := HF.out.d1
    go_wp2_with fail
    refine (rMCheck_any _ P M cols mv _ Mod rows (HM.out.below HF.out.fb.bel (Nat.le_refl _)) (HV.out.below HF.out.fb.bel (Nat.le_refl _))).mono ?_
    rintro e w1 ⟨rfl, hb1⟩
    have HB1 := Lib.hid (bl_trans HF.out.fb.bel hb1); clear hb1
    go_wp2_with fail
    go_ret
    exact ⟨by rw [HE.out]; rfl, HB1.out⟩
  obtain ⟨hf, hc0, hc1, hr, hrows⟩ := matE_zero hme
  have HS : Hid (spaceE P M Mod cols rows = if canonL (refOps P M Mod) rows cols.toNat = rows then 0 else 5) := by show _ = _; unfold spaceE; rw [if_neg (by simpa using hme)]
  obtain ⟨C, hC⟩ : ∃ C : Nat, cols = (C : Int) := ⟨cols.toNat, by omega⟩
  subst hC
  rw [Int.toNat_natCast] at hrows HS
  have HME := Lib.hid hme; have HFP := Lib.hid hf; have HRO := Lib.hid hrows
  rw [HN.out.symm] at hr
  clear hme hf hrows
  go_enter Try.func60, Try.ntmps60
  go_wp2_with fail
  generalize hw0 : (w.alloc (.cells #[.int .i64 P, .int .i64 M, mv] 47)).alloc (.cells #[.int .i64 (C : Int), .slice A n c] 92) = w0 at *
  have c0 := HF.out.fb.c0; have c1 := HF.out.fb.c1; have c2 := HF.out.fb.c2; have d0 := HF.out.d0; have d1 := HF.out.d1
  go_wp2_with fail
  refine (rMCheck_any _ P M C mv _ Mod rows (HM.out.below HF.out.fb.bel (Nat.le_refl _)) (HV.out.below HF.out.fb.bel (Nat.le_refl _))).mono ?_
  rintro e w1 ⟨rfl, hb1⟩
  rw [HME.out]
  have HF1 := Lib.hid (HF.out.on hb1); clear hb1 c0 c1 c2 d0 d1
  have c0 := HF1.out.fb.c0; have c1 := HF1.out.fb.c1; have c2 := HF1.out.fb.c2; have d0 := HF1.out.d0; have d1 := HF1.out.d1
  go_wp2_with fail
  refine (rCanon_any _ P M C C mv _ Mod rows (HM.out.below HF1.out.fb.bel (Nat.le_refl _)) (HV.out.below HF1.out.fb.bel (Nat.le_refl _)) HFP.out.1 HFP.out.2.2.1 HRO.out (Nat.le_refl _) (by omega) (by rw [← HN.out]; omega)).mono ?_
  rintro e w2 ⟨u1, u2, rfl, hs, _, _, hb2⟩
  have HS2 := Lib.hid hs.out
  have HF2 := Lib.hid (HF1.out.on hb2); clear hb2 hs c0 c1 c2 d0 d1
  have d1 := HF2.out.d1
  go_wp2_with fail
  refine (rSameRows_any _ _ _ (canonL (refOps P M Mod) rows C) rows HS2.out (HV.out.below HF2.out.fb.bel (Nat.le_refl _))).mono ?_
  rintro e w3 ⟨rfl, hb3⟩
  have HB3 := Lib.hid (bl_trans HF2.out.fb.bel hb3); clear hb3
  by_cases heq : canonL (refOps P M Mod) rows C = rows
  · rw [show decide (canonL (refOps P M Mod) rows C = rows) = true from decide_eq_true heq]
    rw [if_pos heq] at HS
    clear heq
    go_wp2_with fail
    go_ret
    exact ⟨by rw [HS.out]; rfl, HB3.out⟩
  · rw [show decide (canonL (refOps P M Mod) rows C = rows) = false from decide_eq_false heq]
    rw [if_neg heq] at HS
    clear heq
    go_wp2_with fail
    go_ret
    exact ⟨by rw [HS.out]; rfl, HB3.out⟩
end Go.Proofs.Ytkamgnihpcafdaa

/- The field of two elements, as the reference has it, obeys the laws; elimination's words rest, in, combination by spans. -/
namespace Go.Proofs.Ytkamgnihpcafdaa

theorem order21 : orderF 2 1 = 2 := by decide
theorem bit_two (x : Int) : inQ 2 x = 0 ∨ inQ 2 x = 1 := by unfold inQ; split <;> omega
theorem bit_self {x : Int} (h0 : 0 ≤ x) (h1 : x < 2) : inQ 2 x = x := by unfold inQ; rw [if_pos ⟨h0, h1⟩]
theorem dig21 (x : Int) : (digF 2 1 x).getD 0 0 = inQ 2 x := by
  unfold digF
  rw [order21, digitsF_getD (by decide)]
  rcases bit_two x with h | h <;> rw [h] <;> decide
theorem add21 (x y : Int) : addF 2 1 x y = (inQ 2 x + inQ 2 y) % 2 := by
  unfold addF
  have : (1 : Int).toNat = 1 := rfl
  rw [this]
  simp only [rowOf, List.range_succ, List.range_zero, List.nil_append, List.map_cons, List.map_nil, valueF, dig21]
  omega
theorem neg21 (x : Int) : negF 2 1 x = inQ 2 x := by
  unfold negF
  have : (1 : Int).toNat = 1 := rfl
  rw [this]
  simp only [rowOf, List.range_succ, List.range_zero, List.nil_append, List.map_cons, List.map_nil, valueF, dig21]
  rcases bit_two x with h | h <;> rw [h] <;> decide
theorem mul21 (x y : Int) : mulR 2 1 [] x y = inQ 2 x * inQ 2 y := by
  have h1 : (1 : Int).toNat = 1 := rfl
  unfold mulR mulRL
  rw [h1]
  have hc : conv 2 (digF 2 1 x) (digF 2 1 y) 1 1 = [(inQ 2 x * inQ 2 y) % 2] := by
    simp only [conv, convRow, convStep, dig21]
    rcases bit_two x with h | h <;> rcases bit_two y with k | k <;> rw [h, k] <;> decide
  rw [hc]
  simp only [redTo, Nat.sub_self, List.take_succ_cons, List.take_zero, valueF]
  rcases bit_two x with h | h <;> rcases bit_two y with k | k <;> rw [h, k] <;> decide
theorem inv21 (x : Int) : 0 ≤ invF 2 1 [] x ∧ invF 2 1 [] x < 2 := by
  unfold invF
  rw [order21]
  show 0 ≤ invTo 2 1 [] x 2 ∧ invTo 2 1 [] x 2 < 2
  simp only [invTo]
  repeat' split
  all_goals omega
theorem inQ_lt (x : Int) : 0 ≤ inQ 2 x ∧ inQ 2 x < 2 := by rcases bit_two x with h | h <;> rw [h] <;> decide
theorem two_fld : (refOps 2 1 []).Fld 2 := by
  have hI := bit_two
  refine ⟨by have := refOps_lt (P := 2) (M := 1) (by rw [order21]; decide) []; rwa [order21] at this, fun x => ?_, fun x => inv21 x, fun x y => ?_, fun x y z => ?_, fun x h0 h1 => ?_, fun x => ?_, fun x y => ?_, fun x y z => ?_, fun x h0 h1 => ?_, fun x y z => ?_, fun x => ?_, fun x h0 h1 => ?_⟩
  · show 0 ≤ negF 2 1 x ∧ negF 2 1 x < 2
    rw [neg21]; exact inQ_lt x
  · show addF 2 1 x y = addF 2 1 y x
    rw [add21, add21, Int.add_comm]
  · show addF 2 1 (addF 2 1 x y) z = addF 2 1 x (addF 2 1 y z)
    simp only [add21]
    rcases hI x with h | h <;> rcases hI y with k | k <;> rcases hI z with l | l <;> rw [h, k, l] <;> decide
  · show addF 2 1 x 0 = x
    rw [add21, bit_self h0 h1, bit_self (Int.le_refl _) (by omega)]; omega
  · show addF 2 1 x (negF 2 1 x) = 0
    rw [neg21, add21]
    rcases hI x with h | h <;> rw [h] <;> decide
  · show mulR 2 1 [] x y = mulR 2 1 [] y x
    rw [mul21, mul21, Int.mul_comm]
  · show mulR 2 1 [] (mulR 2 1 [] x y) z = mulR 2 1 [] x (mulR 2 1 [] y z)
    simp only [mul21]
    rcases hI x with h | h <;> rcases hI y with k | k <;> rcases hI z with l | l <;> rw [h, k, l] <;> decide
  · show mulR 2 1 [] x 1 = x
    rw [mul21, bit_self h0 h1, bit_self (by omega) (by omega)]; omega
  · show mulR 2 1 [] x (addF 2 1 y z) = addF 2 1 (mulR 2 1 [] x y) (mulR 2 1 [] x z)
    simp only [mul21, add21]
    rcases hI x with h | h <;> rcases hI y with k | k <;> rcases hI z with l | l <;> rw [h, k, l] <;> decide
  · show mulR 2 1 [] x 0 = 0
    rw [mul21]
    rcases hI x with h | h <;> rw [h] <;> decide
  · obtain rfl : x = 1 := by omega
    show mulR 2 1 [] 1 (invF 2 1 [] 1) = 1
    have e : mulR 2 1 [] 1 1 = 1 := by rw [mul21]; decide
    have e0 : mulR 2 1 [] 1 0 = 0 := by rw [mul21]; decide
    have e2 : invF 2 1 [] 1 = 1 := by
      unfold invF
      rw [order21]
      show invTo 2 1 [] 1 2 = 1
      simp [invTo, e]
    rw [e2, e]

section
variable {O : FOps} {q : Int} (hO : O.Fld q)
include hO
omit hO in
theorem Rref.fst {n : Nat} {A : List (List Int)} {p : List Int} (hA : Rref O q n A p) {i : Nat} (hi : i < A.length) : fstNz (A.getD i []) = pvt p i := by
  have h1 := (hA.rows i hi).1
  have h2 := hA.lt i hi
  exact fstNz_eq (by omega) (hA.low i hi) (fun _ => by rw [show (A.getD i []).getD (pvt p i) 0 = 1 from hA.one i hi]; decide)
theorem restTo_getD {n : Nat} {A : List (List Int)} {p : List Int} (hA : Rref O q n A p) {x : List Int} (hx : Rng q x) (hl : x.length = n) (j : Nat) : ∀ i, i ≤ A.length →
    (restTo O A x i).getD j 0 = O.add (x.getD j 0) (sumTo O (fun k => O.mul (O.neg (x.getD (pvt p k) 0)) (ent A k j)) i)
  | 0, _ => (hO.add_zero _ (hx j).1 (hx j).2).symm
  | i + 1, hi => by
    rw [restTo, addToL_getD hO _ (restTo_rng hO.lt A hx i) (by rw [restTo_len, hl, (hA.rows i (by omega)).1]; exact Nat.le_refl _), restTo_getD hA hx hl j i (by omega), hA.fst (by omega), sumTo, hO.add_assoc]
    rfl
theorem inL_span {n : Nat} {A : List (List Int)} {p : List Int} (hA : Rref O q n A p) {x : List Int} (hx : Rng q x) (hl : x.length = n) : inL O A x = true ↔ Span O A fun j => x.getD j 0 := by
  have hr := fun j => restTo_getD hO hA hx hl j A.length (Nat.le_refl _)
  have hn : ∀ j, sumTo O (fun k => O.mul (O.neg (x.getD (pvt p k) 0)) (ent A k j)) A.length = O.neg (sumTo O (fun k => O.mul (x.getD (pvt p k) 0) (ent A k j)) A.length) := fun j => by
    rw [sumTo_neg hO]; exact sumTo_congr fun k _ => hO.neg_mul _ _
  have hrl : (restL O A x).length = x.length := restTo_len _ _ _ _
  rw [hA.mem hO]
  unfold inL
  rw [List.all_eq_true]
  constructor
  · intro h j
    have e : (restL O A x).getD j 0 = 0 := by
      by_cases hj : j < (restL O A x).length
      · have := h (restL O A x)[j] (List.getElem_mem hj)
        rw [beq_iff_eq] at this
        simpa [List.getD, hj] using this
      · exact getD_len (by omega)
    unfold restL at e
    rw [hr j, hn j] at e
    have := hO.neg_unique (hO.neg_lt _) e
    have h2 := congrArg O.neg this
    rw [hO.neg_neg (sumTo_lt hO _ _).1 (sumTo_lt hO _ _).2, hO.neg_neg (hx j).1 (hx j).2] at h2
    exact h2.symm
  · intro h y hy
    obtain ⟨j, hj, rfl⟩ := List.mem_iff_getElem.1 hy
    have e := hr j
    rw [hn j, ← h j, hO.add_neg] at e
    rw [beq_iff_eq]
    unfold restL at hj ⊢
    rw [List.getD_eq_getElem?_getD, List.getElem?_eq_getElem hj] at e
    exact e
theorem combTo_getD {n : Nat} {rows : List (List Int)} (hR : Rows q n rows) (x : List Int) (j : Nat) : ∀ i, i ≤ rows.length → (combTo O x rows n i).getD j 0 = sumTo O (fun k => O.mul (x.getD k 0) (ent rows k j)) i
  | 0, _ => by simp [combTo, sumTo, List.getD, List.getElem?_replicate]; split <;> rfl
  | i + 1, hi => by
    rw [combTo, sumTo]
    by_cases e : x.getD i 0 = 0
    · rw [if_neg (by simpa using e), combTo_getD hR x j i (by omega), e, hO.zero_mul, hO.add_zero _ (sumTo_lt hO _ _).1 (sumTo_lt hO _ _).2]
    · rw [if_pos e, addToL_getD hO _ (combTo_rng hO.lt x rows n i) (by rw [combTo_len, (hR i (by omega)).1]; exact Nat.le_refl _), combTo_getD hR x j i (by omega)]
      rfl
theorem combL_getD {n : Nat} {rows : List (List Int)} (hR : Rows q n rows) {x : List Int} (hx : x.length = rows.length) (j : Nat) : (combL O x rows n).getD j 0 = sumTo O (fun k => O.mul (x.getD k 0) (ent rows k j)) rows.length := by
  unfold combL
  rw [hx, Nat.min_self, combTo_getD hO hR x j _ (Nat.le_refl _)]
theorem combL_span {n : Nat} {rows : List (List Int)} (hR : Rows q n rows) {x : List Int} (hx : x.length = rows.length) : Span O rows fun j => (combL O x rows n).getD j 0 := ⟨fun k => x.getD k 0, combL_getD hO hR hx⟩
end
end Go.Proofs.Ytkamgnihpcafdaa

/- ref12.Field. -/
namespace Go.Proofs.Ytkamgnihpcafdaa
open Go.RowKit
set_option linter.unusedVariables false
set_option maxRecDepth 100000

def RetF (w : World) (P M : Int) (Mod : List Int) (e : Ending) (w' : World) : Prop := ∃ u, e = .returned (.agg #[.int .i64 P, .int .i64 M, u]) ∧ OI w.heap.size w' u Mod ∧ Below w.heap.size w w'

set_option maxHeartbeats 8000000 in
theorem rField_any (w : World) (P M : Int) (mv : Value) (Mod : List Int) (hm : SI w mv Mod) (hl : Mod.length ≤ 100000) :
    Calls Try.prog 59 #[.agg #[.int .i64 P, .int .i64 M, mv]] w (RetF w P M Mod) := by
  have HM := Lib.hid hm; clear hm
  have HF := Lib.hid (FBox.mk' w P M mv)
  go_enter Try.func59, Try.ntmps59
  go_wp2_with fail
  have HF1 := Lib.hid (HF.out.on (bl_alloc _ (.cells #[.int .i64 0, .int .i64 0, .slice none 0 0] 47)))
  have HRB : Hid (Blk ((w.alloc (.cells #[.int .i64 P, .int .i64 M, mv] 47)).alloc (.cells #[.int .i64 0, .int .i64 0, .slice none 0 0] 47)) (w.heap.size + 1) 47 [.int .i64 0, .int .i64 0, .slice none 0 0]) := by
    have := Blk.new (w.alloc (.cells #[.int .i64 P, .int .i64 M, mv] 47)) 47 [.int .i64 0, .int .i64 0, .slice none 0 0]
    rw [World.size_alloc] at this
    exact this
  generalize hw0 : (w.alloc (.cells #[.int .i64 P, .int .i64 M, mv] 47)).alloc (.cells #[.int .i64 0, .int .i64 0, .slice none 0 0] 47) = w0 at *
  have c0 := HF1.out.c0; have c1 := HF1.out.c1; have c2 := HF1.out.c2
  have HE0 : Hid (OI w0.heap.size (w0.alloc (.cells #[] 3)).drew (.slice (some ⟨w0.heap.size, 0, none⟩) 0 0) []) := hid' (show OI w0.heap.size (w0.alloc (.cells #[] 3)).drew (.slice (some ⟨w0.heap.size, 0, none⟩) 0 0) [] from OI.empty (B := w0.heap.size) w0 (Nat.le_refl _))
  have HB0 : Hid (Below w0.heap.size w0 (w0.alloc (.cells #[] 3)).drew) := hid' (bl_trans (bl_alloc w0 (.cells #[] 3)) (bl_drew _))
  have HX0 := Lib.hid (HM.out.below (bl_trans HF1.out.bel HB0.out) (Nat.le_refl _))
  have T1 : Hid (([] : List Int).length + Mod.length ≤ 17592186044416) := by show _ ≤ _; simp; omega
  have T3 : Hid (w0.heap.size ≤ (w0.alloc (.cells #[] 3)).drew.heap.size) := HB0.out.size
  go_region_held3 (fun w' => w'.cell? ⟨w.heap.size, 0, none⟩ = some (.int .i64 P) ∧ w'.cell? ⟨w.heap.size, 1, none⟩ = some (.int .i64 M) ∧ w'.cell? ⟨w.heap.size, 2, none⟩ = some mv) (go_keep)
    (first
      | (refine step_catI rfl _ _ rfl w0.heap.size _ _ rfl HE0.out _ Mod rfl HX0.out T1.out T3.out ?_; intro v2 w2 ho hg hv2; obtain ⟨A2, k2, rfl⟩ := ho.form'; have HB2 := Lib.hid (HE0.out.bgrown HB0.out T3.out hg); have HF2 := Lib.hid (HF1.out.on HB2.out); have HRB2 := Lib.hid (HRB.out.belowS HB2.out); have g0 := HF2.out.c0; have g1 := HF2.out.c1; have g2 := HF2.out.c2; have r0 := HRB2.out.cell 0; have r1 := HRB2.out.cell 1; have r2 := HRB2.out.cell 2; have f0 := HRB2.out.frozen 0; have f1 := HRB2.out.frozen 1; have f2 := HRB2.out.frozen 2; have HO2 := Lib.hid ho; clear ho hg hv2))
  go_wp2_with fail
  obtain ⟨w3, h3, HL⟩ := lay3 (x := .int .i64 P) (y := .int .i64 M) (z := .slice A2 Mod.length k2) HRB2.out
  rw [h3]
  have q0 := HL.c0; have q1 := HL.c1; have q2 := HL.c2
  refine bodyPost_ret (v := .agg #[.int .i64 P, .int .i64 M, .slice A2 Mod.length k2]) (by simp [results, Try.results59, go_sem, q0, q1, q2]) rfl ?_
  have hlt := HRB.out.lt
  have hs1 := HF1.out.bel.size
  have hs2 := HF2.out.bel.size
  refine ⟨_, rfl, (HO2.out.mono hs1).grown HL.gr (fun g hg e => ?_), HL.below HF2.out.bel hs2 (by omega)⟩
  have h1 := (HO2.out.lt hg).1
  cases e
  omega
end Go.Proofs.Ytkamgnihpcafdaa
