/- Texts of a claim, merged: words, plain facts and walks that the last of its texts uses. -/
import Derived.Test.YtmejijekcfhonaaGreatQ1
import Derived.Test.YtmejijekcfhonaaGreatQ2
import Derived.Test.YtmejijekcfhonaaGreatQ3
import Derived.Deep.CutRange
import Derived.Deep.RegionWith
set_option linter.unusedSimpArgs false
set_option linter.unusedVariables false

/- ref09: Eliminate, Canon. -/
namespace Go.Proofs.YtmejijekcfhonaaGreat
open Go.RowKit
set_option linter.unusedVariables false
set_option maxRecDepth 100000

/-- rows and pivots come back -/
def RetSI (w : World) (xss : List (List Int)) (ys : List Int) (e : Ending) (w' : World) : Prop := ∃ u1 u2, e = .returned (.tuple #[u1, u2]) ∧ OS w.heap.size (fun g => g < w.heap.size) w' u1 xss ∧ OI w.heap.size w' u2 ys ∧ Below w.heap.size w w'

theorem elimTo_next {O : FOps} {rows : List (List Int)} {c : Nat} {l : List (List Int)} {piv : List Int} {k : Nat} (hl : (elimTo O rows c) = (l, piv)) (hlt : piv.length < l.length) (hk : findK l c l.length (l.length - piv.length) piv.length = k) :
    elimTo O rows (c + 1) = if k = l.length then (l, piv) else (stepL O c l piv.length k, piv ++ [(c : Int)]) := by
  rw [elimTo, hl]
  show (if piv.length < l.length then _ else _) = _
  rw [if_pos hlt]
  show (if findK l c l.length (l.length - piv.length) piv.length = l.length then _ else _) = _
  rw [hk]
theorem elimTo_done {O : FOps} {rows : List (List Int)} {c : Nat} {l : List (List Int)} {piv : List Int} (hl : (elimTo O rows c) = (l, piv)) (hlt : ¬ piv.length < l.length) : ∀ d, c ≤ d → elimTo O rows d = (l, piv)
  | 0, h => by obtain rfl : c = 0 := by omega
               exact hl
  | d + 1, h => by
    by_cases e : c = d + 1
    · rw [← e]; exact hl
    · have ih := elimTo_done hl hlt d (by omega)
      rw [elimTo, ih]
      show (if piv.length < l.length then _ else _) = _
      rw [if_neg hlt]

set_option maxHeartbeats 4000000 in
theorem rElim_nil (w : World) (P M cols : Int) (mv v : Value) (Mod : List Int) (hv : SS w v []) :
    Calls Tryz.prog 60 #[.agg #[.int .i64 P, .int .i64 M, mv], v, .int .i64 cols] w (RetSI w [] []) := by
  obtain ⟨A, c, rfl, hv⟩ := hv
  have HV := Lib.hid (show SS w (.slice A ([] : List (List Int)).length c) [] from ⟨A, c, rfl, hv⟩); clear hv
  have hl0 : ([] : List (List Int)).length = 0 := rfl
  rw [hl0] at HV ⊢
  clear hl0
  go_enter Tryz.func60, Tryz.ntmps60
  go_wp2_with fail
  refine (rCopy_any _ _ [] (HV.out.below (bl_alloc _ _) (Nat.le_refl _)) (by simp) (by simp)).mono ?_
  rintro e w1 ⟨u, rfl, ho, hb⟩
  obtain ⟨A1, c1, rfl⟩ := ho.form
  have HO := Lib.hid ho; have HB := Lib.hid (bl_trans (bl_alloc _ _) hb)
  have hsz := hb.size
  clear ho hb
  go_wp2_with fail
  go_loop [9, 10, 11] (fun u a x => u = .slice none 0 0 ∧ a = .int .i64 0 ∧ x = .int .i64 0) (fun _ _ _ => 0)
  case atStart => exact ⟨rfl, rfl, rfl⟩
  case round =>
    obtain ⟨rfl, rfl, rfl⟩ := hrel
    by_cases h0 : 0 < cols
    all_goals
      go_wp2_with fail
      go_ret2
      exact ⟨_, _, rfl, (HO.out.mono (B' := w.heap.size) (by rw [World.size_alloc]; omega)).names (fun g _ hg => by rw [World.size_alloc]; exact Nat.lt_succ_of_lt hg), OI.nil _ _, HB.out⟩

theorem elimTo_ok {O : FOps} {q : Int} (hO : O.Lt q) {L : Nat} {rows : List (List Int)} (hR : Rows q L rows) (c : Nat) {l : List (List Int)} {piv : List Int} (h : elimTo O rows c = (l, piv)) : Rows q L l ∧ l.length = rows.length ∧ piv.length ≤ rows.length ∧ piv.length ≤ c := by
  have h1 := Rows.elim hO hR c
  have h2 := elimTo_len O rows c
  have h3 := elimTo_piv O rows c
  rw [h] at h1 h2 h3
  exact ⟨h1, h2, h3.1, h3.2⟩

set_option maxHeartbeats 40000000 in
theorem rElim_cons (w : World) (P M : Int) (cols L : Nat) (mv v : Value) (Mod : List Int) (rows : List (List Int)) (hm : SI w mv Mod) (hv : SS w v rows) (ho : orderF P M ≠ 0) (hmod : ModP P M Mod)
    (hR : Rows (orderF P M) L rows) (hcL : cols ≤ L) (hL : L ≤ 100000) (hpos : 0 < rows.length) (hn : rows.length ≤ 100000) :
    Calls Tryz.prog 60 #[.agg #[.int .i64 P, .int .i64 M, mv], v, .int .i64 (cols : Int)] w (RetSI w (elimTo (refOps P M Mod) rows cols).1 (elimTo (refOps P M Mod) rows cols).2) := by
  have HV := Lib.hid hv; clear hv
  have HM := Lib.hid hm; clear hm
  have HMOD := Lib.hid hmod; clear hmod
  have HLT := Lib.hid (refOps_lt ho Mod)
  obtain ⟨hP2, hP3, hM1, hM8, hq, hqq⟩ := order_ne ho
  clear hq hqq hM1 hM8 hP2 hP3
  have hob := orderF_bounds P M
  have HO := Lib.hid ho; clear ho
  obtain ⟨O, hO⟩ : ∃ O, O = refOps P M Mod := ⟨_, rfl⟩
  rw [← hO] at HLT ⊢
  have HOE := Lib.hid hO; clear hO
  obtain ⟨q, hq⟩ : ∃ q, q = orderF P M := ⟨_, rfl⟩
  rw [← hq] at HLT hR hob
  have HQE := Lib.hid hq; clear hq
  obtain ⟨hq0, hq1⟩ := hob
  have HR := Lib.hid hR; clear hR
  obtain ⟨n, hnn⟩ : ∃ n, n = rows.length := ⟨_, rfl⟩
  rw [← hnn] at hpos hn
  have HN := Lib.hid hnn; clear hnn
  have HF := Lib.hid (FBox.mk' w P M mv)
  go_enter Tryz.func60, Tryz.ntmps60
  go_wp2_with fail
  obtain ⟨w0, hw0⟩ : ∃ w0, w0 = w.alloc (.cells #[.int .i64 P, .int .i64 M, mv] 24) := ⟨_, rfl⟩
  rw [← hw0] at HF ⊢
  clear hw0
  refine (rCopy_any _ _ rows (HV.out.below HF.out.bel (Nat.le_refl _)) (by rw [← HN.out]; omega) (fun k hk => by have := (HR.out k hk).1; omega)).mono ?_
  rintro e w1 ⟨v1, rfl, ho1, hb1⟩
  obtain ⟨g, cc, rfl, hg1, hg2⟩ := ho1.formP (by rw [← HN.out]; exact hpos)
  rw [← HN.out] at ho1 ⊢
  have HEL0 : Hid (EL w0.heap.size w0 w1 (.slice (some ⟨g, 0, none⟩) n cc) (.slice none 0 0) rows [] (fun g => g < w0.heap.size)) := ⟨ho1, OI.nil _ _, fun g hg => by simp [Value.ownBlock] at hg, fun g hg => by have := hb1.size; show g < _; omega, fun g hg => hg, hb1⟩
  clear ho1 hb1
  have hF0 := HF.out.lt
  go_wp2_with fail
  go_loopw [9, 10, 11] (fun u a x wr => ∃ (c at_ : Nat) (l : List (List Int)) (piv : List Int) (X : Nat → Prop), c ≤ cols ∧ x = .int .i64 (c : Int) ∧ a = .int .i64 (at_ : Int) ∧ Hid (at_ = piv.length) ∧ Hid (elimTo O rows c = (l, piv)) ∧ Hid (EL w0.heap.size w0 wr (.slice (some ⟨g, 0, none⟩) n cc) u l piv X)) (fun _ _ x _ => (cols - intOf x).toNat)
  case atStart => exact ⟨0, 0, rows, [], _, Nat.zero_le _, rfl, rfl, rfl, rfl, HEL0⟩
  case round =>
    clear HEL0
    obtain ⟨c, a, l, piv, X, hc, rfl, rfl, HA, HE, HEL⟩ := hrel
    have hok := elimTo_ok HLT.out HR.out c HE.out
    have HLN : Hid (l.length = n) := by rw [HN.out]; exact hok.2.1
    have HLR := Lib.hid hok.1
    have han : a ≤ n := by have := hok.2.2.1; rw [← HN.out, ← HA.out] at this; exact this
    clear hok
    by_cases hcl : c < cols
    case neg =>
      obtain rfl : cols = c := by omega
      go_wp2_with fail
      go_ret2
      rw [HE.out]
      exact ⟨_, _, rfl, (HEL.out.os.mono (by omega)).names (fun g' _ hg' => HEL.out.low g' (by omega)), HEL.out.oi.mono (by omega), bl_trans HF.out.bel HEL.out.bel⟩
    by_cases hal : a < n
    case neg =>
      have HDN : Hid (elimTo O rows cols = (l, piv)) := elimTo_done HE.out (by rw [HLN.out, ← HA.out]; exact hal) cols (by omega)
      have hna : n ≤ a := by omega
      go_wp2_with fail
      go_ret2
      rw [HDN.out]
      exact ⟨_, _, rfl, (HEL.out.os.mono (by omega)).names (fun g' _ hg' => HEL.out.low g' (by omega)), HEL.out.oi.mono (by omega), bl_trans HF.out.bel HEL.out.bel⟩
    have hcLL : c < L := by omega
    go_wp2_with fail
    go_loop [12] (fun x => ∃ k : Nat, a ≤ k ∧ k ≤ n ∧ x = .int .i64 (k : Int) ∧ Hid (findK l c n (n - a) a = findK l c n (n - k) k)) (fun x => (n - intOf x).toNat)
    case atStart => exact ⟨a, Nat.le_refl _, by omega, rfl, rfl⟩
    case round =>
      obtain ⟨k, hak, hkn, rfl, HK⟩ := hrel
      by_cases hkl : k < n
      · obtain ⟨ad, rc, x, hh, hx, HX, HSI⟩ := HEL.out.os.elt (k := k) (j := c) (by rw [HLN.out]; exact hkl) (by rw [(HLR.out k (by rw [HLN.out]; exact hkl)).1]; exact hcLL)
        rw [(HLR.out k (by rw [HLN.out]; exact hkl)).1] at hh
        by_cases hx0 : x = 0
        · have hxb : (x == 0) = true := by rw [beq_iff_eq]; exact hx0
          have HX0 := Lib.hid hx0; clear hx0
          go_wp2_with fail
          exact ⟨⟨k + 1, by omega, by omega, rfl, by
            rw [HK.out, show n - k = (n - (k + 1)) + 1 by omega, findK, if_pos (by rw [HX.out]; exact HX0.out)]; rfl⟩, by simp only [intOf]; omega⟩
        · have hxb : (x == 0) = false := by rw [beq_eq_false_iff_ne]; exact hx0
          have HKE : Hid (findK l c l.length (l.length - piv.length) piv.length = k) := by
            show _ = _
            rw [HLN.out, ← HA.out, HK.out, show n - k = (n - (k + 1)) + 1 by omega, findK, if_neg (by rw [HX.out]; exact hx0)]
          have hkb : (((k : Nat) : Int) == (n : Int)) = false := by rw [beq_eq_false_iff_ne]; omega
          have HNX : Hid (elimTo O rows (c + 1) = (stepL O c l piv.length k, piv ++ [(c : Int)])) := by
            show _ = _
            rw [elimTo_next HE.out (by rw [HLN.out, ← HA.out]; exact hal) HKE.out, if_neg (by rw [HLN.out]; omega)]
          clear hx0
          obtain ⟨ad2, rc2, x2, hh2, hx2, HX2, HSI2⟩ := HEL.out.os.elt (k := a) (j := c) (by rw [HLN.out]; exact hal) (by rw [(HLR.out a (by rw [HLN.out]; exact hal)).1]; exact hcLL)
          rw [(HLR.out a (by rw [HLN.out]; exact hal)).1] at hh2
          have fa := HEL.out.os.frozen a
          have fk := HEL.out.os.frozen k
          have HHH := Lib.hid hh; have HHH2 := Lib.hid hh2
          obtain ⟨z, hz⟩ : ∃ z, (wr.setCell ⟨g, a, none⟩ (.slice (some ad) L rc)).cell? ⟨g, k, none⟩ = some z := by
            by_cases hak2 : a = k
            · exact ⟨_, by rw [hak2]; exact World.cell?_setCell_same _ _ _ hh⟩
            · exact ⟨_, cell_other hh (fun e => hak2 (by injection e with e1 e2; exact e2.symm))⟩
          go_wp2_with fail
          go_region
          obtain ⟨ws, hws⟩ : ∃ ws, ws = ((wr.setCell ⟨g, a, none⟩ (.slice (some ad) L rc)).setCell ⟨g, k, none⟩ (.slice (some ad2) L rc2)).drew := ⟨_, rfl⟩
          have HES : Hid (EL w0.heap.size w0 ws (.slice (some ⟨g, 0, none⟩) n cc) u9 (swapL l a k) piv X) := by
            have r1 := HEL.out.os.row (k := k) (by rw [HLN.out]; exact hkl)
            have r2 := HEL.out.os.row (k := a) (by rw [HLN.out]; exact hal)
            obtain ⟨y1, hy1, hs1, hx1⟩ := r1
            obtain ⟨y2, hy2, hs2, hx2'⟩ := r2
            rw [HHH.out] at hy1
            rw [HHH2.out] at hy2
            obtain rfl := Option.some.inj hy1
            obtain rfl := Option.some.inj hy2
            have h1 := HEL.out.setRow (Nat.le_refl _) a hs1 hx1
            have h2 := h1.setRow (Nat.le_refl _) k (hs2.grown (gr_set1 wr g a _) (fun h0 g' hg' e => (hx2' h0 g' hg').1 (Option.some.inj e).symm)) hx2'
            rw [hws]
            exact h2.drew
          rw [← hws]
          clear hws hh hx hh2 hx2 hz fa fk
          have HSL : Hid ((swapL l a k).length = n) := by show _ = _; rw [swapL_len, HLN.out]
          have HSR := Lib.hid (HLR.out.swap (a := a) (b := k) (by rw [HLN.out]; exact hal) (by rw [HLN.out]; exact hkl))
          obtain ⟨ls, hls⟩ : ∃ ls, ls = swapL l a k := ⟨_, rfl⟩
          rw [← hls] at HES HSL HSR
          have HLS := Lib.hid hls; clear hls
          obtain ⟨ad3, rc3, x3, hh3, hx3, HX3, HSI3⟩ := HES.out.os.elt (k := a) (j := c) (by rw [HSL.out]; exact hal) (by rw [(HSR.out a (by rw [HSL.out]; exact hal)).1]; exact hcLL)
          rw [(HSR.out a (by rw [HSL.out]; exact hal)).1] at hh3 HSI3
          go_upto_if 69 with (fail)
          go_cut [] from 16 to 134 (fun wc => EL w0.heap.size w0 wc (.slice (some ⟨g, 0, none⟩) n cc) u9 (monicL O c a ls) piv X)
          case first =>
            by_cases hx31 : x3 = 1
            · have hb31 : (x3 != 1) = false := by simp [hx31]
              have HMO : Hid (monicL O c a ls = ls) := by show _ = _; unfold monicL; rw [if_neg (by rw [HX3.out]; simpa using hx31)]
              clear hx31
              go_wp2_with fail
              go_meet
              case rel => rw [HMO.out]; exact HES.out
            · have hb31 : (x3 != 1) = true := by simp [hx31]
              have HMO : Hid (monicL O c a ls = ls.set a (scaleL (refOps P M Mod) (invF P M Mod x3) (ls.getD a []))) := by show _ = _; unfold monicL; rw [if_pos (by rw [HX3.out]; exact hx31), HX3.out, HOE.out]; rfl
              clear hx31
              obtain ⟨row, hrow⟩ : ∃ row, row = ls.getD a [] := ⟨_, rfl⟩
              rw [← hrow] at HMO HSI3
              have HRL : Hid (row.length = L) := by show _ = _; rw [hrow]; exact (HSR.out a (by rw [HSL.out]; exact hal)).1
              clear hrow
              have HFS := Lib.hid (HF.out.on HES.out.bel)
              have c0 := HFS.out.c0; have c1 := HFS.out.c1; have c2 := HFS.out.c2
              have HH3 := Lib.hid hh3; have HX33 := Lib.hid hx3
              go_wp2_with fail
              refine Drawn.start (S := (fun w' => w'.cell? ⟨w.heap.size, 0, none⟩ = some (.int .i64 P) ∧ w'.cell? ⟨w.heap.size, 1, none⟩ = some (.int .i64 M) ∧ w'.cell? ⟨w.heap.size, 2, none⟩ = some mv ∧ w'.cell? (ad3.add c) = some (.int .i64 x3) ∧ w'.cell? ⟨g, a, none⟩ = some (.slice (some ad3) L rc3))) (by kernel_rfl) (⟨HFS.out.drew.c0, HFS.out.drew.c1, HFS.out.drew.c2, hx3, hh3⟩) (fun hHeld => ?_)
              change Drawn _ _ _ _ 19 _ _ _
              refine Drawn.take (i := 0) (v := ?_) rfl (by kernel_rfl) (by kernel_rfl) (by kernel_rfl) (by kernel_rfl) (fun _ _ _ h => h) (Or.inl ⟨by rfl, ?_⟩) hHeld ?_
              rotate_left
              · intro w' hSw; (try dsimp only at hSw); first | (go_simp; done) | (go_simp; with_reducible rfl)
              try simp only [Act.put, List.setIfInBounds_toArray, List.set_cons_zero, List.set_cons_succ]
              refine Drawn.take (i := 1) (v := ?_) rfl (by kernel_rfl) (by kernel_rfl) (by kernel_rfl) (by kernel_rfl) (fun _ _ _ h => h) (Or.inl ⟨by rfl, ?_⟩) hHeld ?_
              rotate_left
              · intro w' hSw; (try dsimp only at hSw); first | (go_simp; done) | (go_simp; with_reducible rfl)
              try simp only [Act.put, List.setIfInBounds_toArray, List.set_cons_zero, List.set_cons_succ]
              refine Drawn.take (i := 2) (v := ?_) rfl (by kernel_rfl) (by kernel_rfl) (by kernel_rfl) (by kernel_rfl) (fun _ _ _ h => h) (Or.inl ⟨by rfl, ?_⟩) hHeld ?_
              rotate_left
              · intro w' hSw; (try dsimp only at hSw); first | (go_simp; done) | (go_simp; with_reducible rfl)
              try simp only [Act.put, List.setIfInBounds_toArray, List.set_cons_zero, List.set_cons_succ]
              refine Drawn.take (i := 3) (v := ?_) rfl (by kernel_rfl) (by kernel_rfl) (by kernel_rfl) (by kernel_rfl) (fun _ _ _ h => h) (Or.inl ⟨by rfl, ?_⟩) hHeld ?_
              rotate_left
              · intro w' hSw; (try dsimp only at hSw); first | (go_simp; done) | (go_simp; with_reducible rfl)
              try simp only [Act.put, List.setIfInBounds_toArray, List.set_cons_zero, List.set_cons_succ]
              refine Drawn.take (i := 4) (v := ?_) rfl (by kernel_rfl) (by kernel_rfl) (by kernel_rfl) (by kernel_rfl) (fun _ _ _ h => h) (Or.inl ⟨by rfl, ?_⟩) hHeld ?_
              rotate_left
              · intro w' hSw; (try dsimp only at hSw); first | (go_simp; done) | (go_simp; with_reducible rfl)
              try simp only [Act.put, List.setIfInBounds_toArray, List.set_cons_zero, List.set_cons_succ]
              refine Drawn.take (i := 5) (v := ?_) rfl (by kernel_rfl) (by kernel_rfl) (by kernel_rfl) (by kernel_rfl) (fun _ _ _ h => h) (Or.inl ⟨by rfl, ?_⟩) hHeld ?_
              rotate_left
              · intro w' hSw; (try dsimp only at hSw); first | (go_simp; done) | (go_simp; with_reducible rfl)
              try simp only [Act.put, List.setIfInBounds_toArray, List.set_cons_zero, List.set_cons_succ]
              refine Drawn.take (i := 6) (v := ?_) rfl (by kernel_rfl) (by kernel_rfl) (by kernel_rfl) (by kernel_rfl) (fun _ _ _ h => h) (Or.inl ⟨by rfl, ?_⟩) hHeld ?_
              rotate_left
              · intro w' hSw; (try dsimp only at hSw); first | (go_simp; done) | (go_simp; with_reducible rfl)
              try simp only [Act.put, List.setIfInBounds_toArray, List.set_cons_zero, List.set_cons_succ]
              refine Drawn.take (i := 7) (v := ?_) rfl (by kernel_rfl) (by kernel_rfl) (by kernel_rfl) (by kernel_rfl) (fun _ _ _ h => h) (Or.inl ⟨by rfl, ?_⟩) hHeld ?_
              rotate_left
              · intro w' hSw; (try dsimp only at hSw); first | (go_simp; done) | (go_simp; with_reducible rfl)
              try simp only [Act.put, List.setIfInBounds_toArray, List.set_cons_zero, List.set_cons_succ]
              refine Drawn.take (i := 8) (v := ?_) rfl (by kernel_rfl) (by kernel_rfl) (by kernel_rfl) (by kernel_rfl) (fun _ _ _ h => h) (Or.inl ⟨by rfl, ?_⟩) hHeld ?_
              rotate_left
              · intro w' hSw; (try dsimp only at hSw); first | (go_simp; done) | (go_simp; with_reducible rfl)
              try simp only [Act.put, List.setIfInBounds_toArray, List.set_cons_zero, List.set_cons_succ]
              refine Drawn.take (i := 9) (v := ?_) rfl (by kernel_rfl) (by kernel_rfl) (by kernel_rfl) (by kernel_rfl) (fun _ _ _ h => h) (Or.inl ⟨by rfl, ?_⟩) hHeld ?_
              rotate_left
              · intro w' hSw; (try dsimp only at hSw); first | (go_simp; done) | (go_simp; with_reducible rfl)
              try simp only [Act.put, List.setIfInBounds_toArray, List.set_cons_zero, List.set_cons_succ]
              refine Drawn.take (i := 10) (v := ?_) rfl (by kernel_rfl) (by kernel_rfl) (by kernel_rfl) (by kernel_rfl) (fun _ _ _ h => h) (Or.inl ⟨by rfl, ?_⟩) hHeld ?_
              rotate_left
              · intro w' hSw; (try dsimp only at hSw); first | (go_simp; done) | (go_simp; with_reducible rfl)
              try simp only [Act.put, List.setIfInBounds_toArray, List.set_cons_zero, List.set_cons_succ]
              refine Drawn.take (i := 12) (v := ?_) rfl (by kernel_rfl) (by kernel_rfl) (by kernel_rfl) (by kernel_rfl) (fun _ _ _ h => h) (Or.inl ⟨by rfl, ?_⟩) hHeld ?_
              rotate_left
              · intro w' hSw; (try dsimp only at hSw); first | (go_simp; done) | (go_simp; with_reducible rfl)
              try simp only [Act.put, List.setIfInBounds_toArray, List.set_cons_zero, List.set_cons_succ]
              refine Drawn.take (i := 13) (v := ?_) rfl (by kernel_rfl) (by kernel_rfl) (by kernel_rfl) (by kernel_rfl) (fun _ _ _ h => h) (Or.inl ⟨by rfl, ?_⟩) hHeld ?_
              rotate_left
              · intro w' hSw; (try dsimp only at hSw); first | (go_simp; done) | (go_simp; with_reducible rfl)
              try simp only [Act.put, List.setIfInBounds_toArray, List.set_cons_zero, List.set_cons_succ]
              refine Drawn.take (i := 14) (v := ?_) rfl (by kernel_rfl) (by kernel_rfl) (by kernel_rfl) (by kernel_rfl) (fun _ _ _ h => h) (Or.inl ⟨by rfl, ?_⟩) hHeld ?_
              rotate_left
              · intro w' hSw; (try dsimp only at hSw); first | (go_simp; done) | (go_simp; with_reducible rfl)
              try simp only [Act.put, List.setIfInBounds_toArray, List.set_cons_zero, List.set_cons_succ]
              refine Drawn.take (i := 15) (v := ?_) rfl (by kernel_rfl) (by kernel_rfl) (by kernel_rfl) (by kernel_rfl) (fun _ _ _ h => h) (Or.inl ⟨by rfl, ?_⟩) hHeld ?_
              rotate_left
              · intro w' hSw; (try dsimp only at hSw); first | (go_simp; done) | (go_simp; with_reducible rfl)
              try simp only [Act.put, List.setIfInBounds_toArray, List.set_cons_zero, List.set_cons_succ]
              refine Drawn.only (i := 11) (by kernel_rfl) rfl (fun K hK => ?_)
              go_simp
              (refine (rInv_any _ P M x3 mv Mod (HM.out.below HFS.out.drew.bel (Nat.le_refl _)) HO.out HMOD.out).mono ?_; rintro e w3 ⟨rfl, hb3⟩; have HB3 := Lib.hid (bl_trans (bl_drew ws) hb3); have HF3 := Lib.hid (HFS.out.on HB3.out); have hh4 := cell_below HB3.out HH3.out; have hx4 := cell_below HB3.out HX33.out; have HSI4 := Lib.hid (HSI3.out.below HB3.out (Nat.le_refl _)); have HE4 := Lib.hid (HES.out.on HB3.out); clear hb3)
              refine hK.out _ _ (fun _ => ⟨HF3.out.c0, HF3.out.c1, HF3.out.c2, hx4, hh4⟩) (fun hHeld2 => ?_)
              clear hK K
              replace hHeld := hHeld2 (by decide)
              clear hHeld2
              try simp only [Act.put, List.setIfInBounds_toArray, List.set_cons_zero, List.set_cons_succ]
              refine Drawn.only (i := 16) (by kernel_rfl) rfl (fun K hK => ?_)
              go_simp
              (refine (rScale_any _ P M _ mv _ Mod row (HM.out.below HF3.out.bel (Nat.le_refl _)) HSI4.out (by rw [HRL.out]; omega) HO.out HMOD.out).mono ?_; rintro e w4 ⟨y, rfl, hy, hb4⟩; obtain ⟨yA, yc, rfl⟩ := hy.form'; have HY := Lib.hid hy; have HE5 := Lib.hid (HE4.out.on hb4); have HF5 := Lib.hid (HF3.out.on hb4); have hh5 := cell_below hb4 hh4; have hx5 := cell_below hb4 hx4; have hf5 := HE5.out.os.frozen a; clear hb4 hy)
              refine hK.out _ _ (fun _ => ⟨HF5.out.c0, HF5.out.c1, HF5.out.c2, hx5, hh5⟩) (fun hHeld2 => ?_)
              clear hK K
              replace hHeld := hHeld2 (by decide)
              clear hHeld2
              try simp only [Act.put, List.setIfInBounds_toArray, List.set_cons_zero, List.set_cons_succ]
              refine Drawn.take (i := 17) (v := ?_) rfl (by kernel_rfl) (by kernel_rfl) (by kernel_rfl) (by kernel_rfl) (fun _ _ _ h => h) (Or.inl ⟨by rfl, ?_⟩) hHeld ?_
              rotate_left
              · intro w' hSw; (try dsimp only at hSw); first | (go_simp; done) | (go_simp; with_reducible rfl)
              try simp only [Act.put, List.setIfInBounds_toArray, List.set_cons_zero, List.set_cons_succ]
              refine Drawn.only (i := 18) (by kernel_rfl) rfl (fun K hK => ?_)
              go_simp
              refine hK.out _ _ (fun h => absurd rfl h) (fun _ => ?_)
              clear hK K
              refine Drawn.done (by kernel_rfl) ?_
              try simp only [Act.put, List.setIfInBounds_toArray, List.set_cons_zero, List.set_cons_succ]
              go_wp2_with fail
              go_meet
              case rel =>
                rw [HMO.out]
                have hsr := Rows.scale (refOps_lt HO.out Mod) (invF P M Mod x3) row
                exact HE5.out.setRow (Nat.le_refl _) a (HY.out.si (by rw [hsr.1, HRL.out]; omega) (fun j => by have := hsr.2 j; have hob := orderF_bounds P M; exact I64.of_small (by omega) (by omega))) (HE4.out.fresh HY.out)
          case rest =>
            have HEM := Lib.hid hcut; clear hcut
            have HML : Hid ((monicL O c a ls).length = n) := by show _ = _; rw [monicL_len, HSL.out]
            have HMR := Lib.hid (Rows.monic HLT.out HSR.out c (a := a) (by rw [HSL.out]; exact hal))
            have HNX2 : Hid (elimTo O rows (c + 1) = (clearTo O c a (monicL O c a ls) n, piv ++ [(c : Int)])) := by
              show _ = _
              rw [HNX.out, ← HA.out]
              unfold stepL
              rw [← HLS.out, HLN.out]
            obtain ⟨lm, hlm⟩ : ∃ lm, lm = monicL O c a ls := ⟨_, rfl⟩
            rw [← hlm] at HEM HML HMR HNX2
            clear hlm hh3 hx3 HES
            go_wp2_with fail
            go_loopw [13] (fun x wr => ∃ i : Nat, i ≤ n ∧ x = .int .i64 (i : Int) ∧ Hid (EL w0.heap.size w0 wr (.slice (some ⟨g, 0, none⟩) n cc) u9 (clearTo O c a lm i) piv X)) (fun x _ => (n - intOf x).toNat)
            case atStart => exact ⟨0, Nat.zero_le _, rfl, HEM⟩
            case round =>
              clear HEM
              obtain ⟨i, hi, rfl, HEI⟩ := hrel
              have HIL : Hid ((clearTo O c a lm i).length = n) := by show _ = _; rw [clearTo_len, HML.out]
              have HIR := Lib.hid (Rows.clear HLT.out HMR.out c a i (by rw [HML.out]; exact hi))
              by_cases hltn : i < n
              · obtain ⟨adi, rci, y, hhi, hyy, HYE, HSIi⟩ := HEI.out.os.elt (k := i) (j := c) (by rw [HIL.out]; exact hltn) (by rw [(HIR.out i (by rw [HIL.out]; exact hltn)).1]; exact hcLL)
                obtain ⟨ri, hri⟩ : ∃ ri, ri = (clearTo O c a lm i).getD i [] := ⟨_, rfl⟩
                rw [← hri] at hhi HYE HSIi
                have HRI : Hid (ri.length = L) := by show _ = _; rw [hri]; exact (HIR.out i (by rw [HIL.out]; exact hltn)).1
                rw [HRI.out] at hhi HSIi
                by_cases hia : i = a
                · have hib : (((i : Nat) : Int) != (a : Int)) = false := by rw [bne_eq_false_iff_eq]; omega
                  have HCN : Hid (clearTo O c a lm (i + 1) = clearTo O c a lm i) := by show _ = _; rw [clearTo, if_neg (fun h => h.1 hia)]
                  clear hia hri
                  go_wp2_with fail
                  exact ⟨⟨i + 1, by omega, rfl, by rw [HCN.out]; exact HEI⟩, by simp only [intOf]; omega⟩
                · have hib : (((i : Nat) : Int) != (a : Int)) = true := by rw [bne_iff_ne]; omega
                  by_cases hy0 : y = 0
                  · have hyb : (y != 0) = false := by simp [hy0]
                    have HCN : Hid (clearTo O c a lm (i + 1) = clearTo O c a lm i) := by show _ = _; rw [clearTo, if_neg (fun h => h.2 (by rw [← hri, HYE.out]; exact hy0))]
                    clear hia hri hy0
                    go_wp2_with fail
                    exact ⟨⟨i + 1, by omega, rfl, by rw [HCN.out]; exact HEI⟩, by simp only [intOf]; omega⟩
                  · have hyb : (y != 0) = true := by simp [hy0]
                    obtain ⟨ra, hra⟩ : ∃ ra, ra = (clearTo O c a lm i).getD a [] := ⟨_, rfl⟩
                    have HRA : Hid (ra.length = L) := by show _ = _; rw [hra]; exact (HIR.out a (by rw [HIL.out]; exact hal)).1
                    have HCN : Hid (clearTo O c a lm (i + 1) = (clearTo O c a lm i).set i (addToL (refOps P M Mod) ri (negF P M y) ra)) := by
                      show _ = _
                      rw [clearTo, if_pos ⟨hia, by rw [← hri, HYE.out]; exact hy0⟩, ← hri, ← hra, HYE.out, HOE.out]; rfl
                    obtain ⟨ada, rca, _, hha, _, _, HSIa⟩ := HEI.out.os.elt (k := a) (j := c) (by rw [HIL.out]; exact hal) (by rw [← hra, HRA.out]; exact hcLL)
                    rw [← hra, HRA.out] at hha HSIa
                    have hadd := Rows.addTo (refOps_lt HO.out Mod) (v := ri) (by rw [hri, ← HQE.out]; exact (HIR.out i (by rw [HIL.out]; exact hltn)).2) (negF P M y) ra
                    have HADD := Lib.hid hadd
                    clear hia hri hy0 hra hadd
                    have HFS := Lib.hid (HF.out.on HEI.out.bel)
                    have c0 := HFS.out.c0; have c1 := HFS.out.c1; have c2 := HFS.out.c2
                    have HHI := Lib.hid hhi; have HHA := Lib.hid hha; have HYY := Lib.hid hyy
                    go_wp2_with fail
                    refine Drawn.start (S := (fun w' => w'.cell? ⟨w.heap.size, 0, none⟩ = some (.int .i64 P) ∧ w'.cell? ⟨w.heap.size, 1, none⟩ = some (.int .i64 M) ∧ w'.cell? ⟨w.heap.size, 2, none⟩ = some mv ∧ w'.cell? (adi.add c) = some (.int .i64 y) ∧ w'.cell? ⟨g, i, none⟩ = some (.slice (some adi) L rci) ∧ w'.cell? ⟨g, a, none⟩ = some (.slice (some ada) L rca))) (by kernel_rfl) (⟨HFS.out.drew.c0, HFS.out.drew.c1, HFS.out.drew.c2, hyy, hhi, hha⟩) (fun hHeld => ?_)
                    change Drawn _ _ _ _ 23 _ _ _
                    refine Drawn.take (i := 0) (v := ?_) rfl (by kernel_rfl) (by kernel_rfl) (by kernel_rfl) (by kernel_rfl) (fun _ _ _ h => h) (Or.inl ⟨by rfl, ?_⟩) hHeld ?_
                    rotate_left
                    · intro w' hSw; (try dsimp only at hSw); first | (go_simp; done) | (go_simp; with_reducible rfl)
                    try simp only [Act.put, List.setIfInBounds_toArray, List.set_cons_zero, List.set_cons_succ]
                    refine Drawn.take (i := 1) (v := ?_) rfl (by kernel_rfl) (by kernel_rfl) (by kernel_rfl) (by kernel_rfl) (fun _ _ _ h => h) (Or.inl ⟨by rfl, ?_⟩) hHeld ?_
                    rotate_left
                    · intro w' hSw; (try dsimp only at hSw); first | (go_simp; done) | (go_simp; with_reducible rfl)
                    try simp only [Act.put, List.setIfInBounds_toArray, List.set_cons_zero, List.set_cons_succ]
                    refine Drawn.take (i := 2) (v := ?_) rfl (by kernel_rfl) (by kernel_rfl) (by kernel_rfl) (by kernel_rfl) (fun _ _ _ h => h) (Or.inl ⟨by rfl, ?_⟩) hHeld ?_
                    rotate_left
                    · intro w' hSw; (try dsimp only at hSw); first | (go_simp; done) | (go_simp; with_reducible rfl)
                    try simp only [Act.put, List.setIfInBounds_toArray, List.set_cons_zero, List.set_cons_succ]
                    refine Drawn.take (i := 3) (v := ?_) rfl (by kernel_rfl) (by kernel_rfl) (by kernel_rfl) (by kernel_rfl) (fun _ _ _ h => h) (Or.inl ⟨by rfl, ?_⟩) hHeld ?_
                    rotate_left
                    · intro w' hSw; (try dsimp only at hSw); first | (go_simp; done) | (go_simp; with_reducible rfl)
                    try simp only [Act.put, List.setIfInBounds_toArray, List.set_cons_zero, List.set_cons_succ]
                    refine Drawn.take (i := 4) (v := ?_) rfl (by kernel_rfl) (by kernel_rfl) (by kernel_rfl) (by kernel_rfl) (fun _ _ _ h => h) (Or.inl ⟨by rfl, ?_⟩) hHeld ?_
                    rotate_left
                    · intro w' hSw; (try dsimp only at hSw); first | (go_simp; done) | (go_simp; with_reducible rfl)
                    try simp only [Act.put, List.setIfInBounds_toArray, List.set_cons_zero, List.set_cons_succ]
                    refine Drawn.take (i := 5) (v := ?_) rfl (by kernel_rfl) (by kernel_rfl) (by kernel_rfl) (by kernel_rfl) (fun _ _ _ h => h) (Or.inl ⟨by rfl, ?_⟩) hHeld ?_
                    rotate_left
                    · intro w' hSw; (try dsimp only at hSw); first | (go_simp; done) | (go_simp; with_reducible rfl)
                    try simp only [Act.put, List.setIfInBounds_toArray, List.set_cons_zero, List.set_cons_succ]
                    refine Drawn.take (i := 6) (v := ?_) rfl (by kernel_rfl) (by kernel_rfl) (by kernel_rfl) (by kernel_rfl) (fun _ _ _ h => h) (Or.inl ⟨by rfl, ?_⟩) hHeld ?_
                    rotate_left
                    · intro w' hSw; (try dsimp only at hSw); first | (go_simp; done) | (go_simp; with_reducible rfl)
                    try simp only [Act.put, List.setIfInBounds_toArray, List.set_cons_zero, List.set_cons_succ]
                    refine Drawn.take (i := 7) (v := ?_) rfl (by kernel_rfl) (by kernel_rfl) (by kernel_rfl) (by kernel_rfl) (fun _ _ _ h => h) (Or.inl ⟨by rfl, ?_⟩) hHeld ?_
                    rotate_left
                    · intro w' hSw; (try dsimp only at hSw); first | (go_simp; done) | (go_simp; with_reducible rfl)
                    try simp only [Act.put, List.setIfInBounds_toArray, List.set_cons_zero, List.set_cons_succ]
                    refine Drawn.take (i := 8) (v := ?_) rfl (by kernel_rfl) (by kernel_rfl) (by kernel_rfl) (by kernel_rfl) (fun _ _ _ h => h) (Or.inl ⟨by rfl, ?_⟩) hHeld ?_
                    rotate_left
                    · intro w' hSw; (try dsimp only at hSw); first | (go_simp; done) | (go_simp; with_reducible rfl)
                    try simp only [Act.put, List.setIfInBounds_toArray, List.set_cons_zero, List.set_cons_succ]
                    refine Drawn.take (i := 9) (v := ?_) rfl (by kernel_rfl) (by kernel_rfl) (by kernel_rfl) (by kernel_rfl) (fun _ _ _ h => h) (Or.inl ⟨by rfl, ?_⟩) hHeld ?_
                    rotate_left
                    · intro w' hSw; (try dsimp only at hSw); first | (go_simp; done) | (go_simp; with_reducible rfl)
                    try simp only [Act.put, List.setIfInBounds_toArray, List.set_cons_zero, List.set_cons_succ]
                    refine Drawn.take (i := 10) (v := ?_) rfl (by kernel_rfl) (by kernel_rfl) (by kernel_rfl) (by kernel_rfl) (fun _ _ _ h => h) (Or.inl ⟨by rfl, ?_⟩) hHeld ?_
                    rotate_left
                    · intro w' hSw; (try dsimp only at hSw); first | (go_simp; done) | (go_simp; with_reducible rfl)
                    try simp only [Act.put, List.setIfInBounds_toArray, List.set_cons_zero, List.set_cons_succ]
                    refine Drawn.take (i := 11) (v := ?_) rfl (by kernel_rfl) (by kernel_rfl) (by kernel_rfl) (by kernel_rfl) (fun _ _ _ h => h) (Or.inl ⟨by rfl, ?_⟩) hHeld ?_
                    rotate_left
                    · intro w' hSw; (try dsimp only at hSw); first | (go_simp; done) | (go_simp; with_reducible rfl)
                    try simp only [Act.put, List.setIfInBounds_toArray, List.set_cons_zero, List.set_cons_succ]
                    refine Drawn.take (i := 12) (v := ?_) rfl (by kernel_rfl) (by kernel_rfl) (by kernel_rfl) (by kernel_rfl) (fun _ _ _ h => h) (Or.inl ⟨by rfl, ?_⟩) hHeld ?_
                    rotate_left
                    · intro w' hSw; (try dsimp only at hSw); first | (go_simp; done) | (go_simp; with_reducible rfl)
                    try simp only [Act.put, List.setIfInBounds_toArray, List.set_cons_zero, List.set_cons_succ]
                    refine Drawn.take (i := 13) (v := ?_) rfl (by kernel_rfl) (by kernel_rfl) (by kernel_rfl) (by kernel_rfl) (fun _ _ _ h => h) (Or.inl ⟨by rfl, ?_⟩) hHeld ?_
                    rotate_left
                    · intro w' hSw; (try dsimp only at hSw); first | (go_simp; done) | (go_simp; with_reducible rfl)
                    try simp only [Act.put, List.setIfInBounds_toArray, List.set_cons_zero, List.set_cons_succ]
                    refine Drawn.take (i := 14) (v := ?_) rfl (by kernel_rfl) (by kernel_rfl) (by kernel_rfl) (by kernel_rfl) (fun _ _ _ h => h) (Or.inl ⟨by rfl, ?_⟩) hHeld ?_
                    rotate_left
                    · intro w' hSw; (try dsimp only at hSw); first | (go_simp; done) | (go_simp; with_reducible rfl)
                    try simp only [Act.put, List.setIfInBounds_toArray, List.set_cons_zero, List.set_cons_succ]
                    refine Drawn.take (i := 16) (v := ?_) rfl (by kernel_rfl) (by kernel_rfl) (by kernel_rfl) (by kernel_rfl) (fun _ _ _ h => h) (Or.inl ⟨by rfl, ?_⟩) hHeld ?_
                    rotate_left
                    · intro w' hSw; (try dsimp only at hSw); first | (go_simp; done) | (go_simp; with_reducible rfl)
                    try simp only [Act.put, List.setIfInBounds_toArray, List.set_cons_zero, List.set_cons_succ]
                    refine Drawn.take (i := 17) (v := ?_) rfl (by kernel_rfl) (by kernel_rfl) (by kernel_rfl) (by kernel_rfl) (fun _ _ _ h => h) (Or.inl ⟨by rfl, ?_⟩) hHeld ?_
                    rotate_left
                    · intro w' hSw; (try dsimp only at hSw); first | (go_simp; done) | (go_simp; with_reducible rfl)
                    try simp only [Act.put, List.setIfInBounds_toArray, List.set_cons_zero, List.set_cons_succ]
                    refine Drawn.take (i := 18) (v := ?_) rfl (by kernel_rfl) (by kernel_rfl) (by kernel_rfl) (by kernel_rfl) (fun _ _ _ h => h) (Or.inl ⟨by rfl, ?_⟩) hHeld ?_
                    rotate_left
                    · intro w' hSw; (try dsimp only at hSw); first | (go_simp; done) | (go_simp; with_reducible rfl)
                    try simp only [Act.put, List.setIfInBounds_toArray, List.set_cons_zero, List.set_cons_succ]
                    refine Drawn.take (i := 19) (v := ?_) rfl (by kernel_rfl) (by kernel_rfl) (by kernel_rfl) (by kernel_rfl) (fun _ _ _ h => h) (Or.inl ⟨by rfl, ?_⟩) hHeld ?_
                    rotate_left
                    · intro w' hSw; (try dsimp only at hSw); first | (go_simp; done) | (go_simp; with_reducible rfl)
                    try simp only [Act.put, List.setIfInBounds_toArray, List.set_cons_zero, List.set_cons_succ]
                    refine Drawn.only (i := 15) (by kernel_rfl) rfl (fun K hK => ?_)
                    go_simp
                    (refine (rNeg_any _ P M y mv HO.out).mono ?_; rintro e w3 ⟨rfl, hb3⟩; have HB3 := Lib.hid (bl_trans (bl_drew wr) hb3); have HF3 := Lib.hid (HFS.out.on HB3.out); have hi4 := cell_below HB3.out HHI.out; have ha4 := cell_below HB3.out HHA.out; have hy4 := cell_below HB3.out HYY.out; have HSI4 := Lib.hid (HSIi.out.below HB3.out (Nat.le_refl _)); have HSA4 := Lib.hid (HSIa.out.below HB3.out (Nat.le_refl _)); have HE4 := Lib.hid (HEI.out.on HB3.out); clear hb3)
                    refine hK.out _ _ (fun _ => ⟨HF3.out.c0, HF3.out.c1, HF3.out.c2, hy4, hi4, ha4⟩) (fun hHeld2 => ?_)
                    clear hK K
                    replace hHeld := hHeld2 (by decide)
                    clear hHeld2
                    try simp only [Act.put, List.setIfInBounds_toArray, List.set_cons_zero, List.set_cons_succ]
                    refine Drawn.only (i := 20) (by kernel_rfl) rfl (fun K hK => ?_)
                    go_simp
                    (refine (rAddTo_any _ P M _ mv _ _ Mod ri ra (HM.out.below HF3.out.bel (Nat.le_refl _)) HSI4.out HSA4.out (by rw [HRI.out]; omega) (by rw [HRI.out, HRA.out]; exact Nat.le_refl _) HO.out HMOD.out).mono ?_; rintro e w4 ⟨z, rfl, hz, hb4⟩; obtain ⟨zA, zc, rfl⟩ := hz.form'; have HZ := Lib.hid hz; have HE5 := Lib.hid (HE4.out.on hb4); have HF5 := Lib.hid (HF3.out.on hb4); have hi5 := cell_below hb4 hi4; have ha5 := cell_below hb4 ha4; have hy5 := cell_below hb4 hy4; have hf5 := HE5.out.os.frozen i; clear hb4 hz)
                    refine hK.out _ _ (fun _ => ⟨HF5.out.c0, HF5.out.c1, HF5.out.c2, hy5, hi5, ha5⟩) (fun hHeld2 => ?_)
                    clear hK K
                    replace hHeld := hHeld2 (by decide)
                    clear hHeld2
                    try simp only [Act.put, List.setIfInBounds_toArray, List.set_cons_zero, List.set_cons_succ]
                    refine Drawn.take (i := 21) (v := ?_) rfl (by kernel_rfl) (by kernel_rfl) (by kernel_rfl) (by kernel_rfl) (fun _ _ _ h => h) (Or.inl ⟨by rfl, ?_⟩) hHeld ?_
                    rotate_left
                    · intro w' hSw; (try dsimp only at hSw); first | (go_simp; done) | (go_simp; with_reducible rfl)
                    try simp only [Act.put, List.setIfInBounds_toArray, List.set_cons_zero, List.set_cons_succ]
                    refine Drawn.only (i := 22) (by kernel_rfl) rfl (fun K hK => ?_)
                    go_simp
                    refine hK.out _ _ (fun h => absurd rfl h) (fun _ => ?_)
                    clear hK K
                    refine Drawn.done (by kernel_rfl) ?_
                    try simp only [Act.put, List.setIfInBounds_toArray, List.set_cons_zero, List.set_cons_succ]
                    go_wp2_with fail
                    refine ⟨⟨i + 1, by omega, rfl, ?_⟩, by simp only [intOf]; omega⟩
                    rw [HCN.out]
                    exact HE5.out.setRow (Nat.le_refl _) i (HZ.out.si (by rw [HADD.out.1, HRI.out]; omega) (fun j => by have := HADD.out.2 j; have hob := orderF_bounds P M; exact I64.of_small (by omega) (by omega))) (HE4.out.fresh HZ.out)
              · obtain rfl : n = i := by omega
                have HPL : Hid (piv.length + [(c : Int)].length ≤ 17592186044416) := by show _ ≤ _; rw [← HA.out, List.length_singleton]; omega
                have HOI1 := Lib.hid (HEI.out.oi.alloc (.cells #[.int .i64 (c : Int)] 3))
                have HSC : Hid (SI (wr.alloc (.cells #[.int .i64 (c : Int)] 3)) (.slice (some ⟨wr.heap.size, 0, none⟩) 1 1) [(c : Int)]) := SI.lit wr [(c : Int)] (by simp) (fun j => by
                  rcases j with _ | j
                  · exact I64.of_small (by show _ ≤ (c : Int); omega) (by show (c : Int) ≤ _; omega)
                  · exact I64.zero)
                have HUP : Hid (w0.heap.size ≤ (wr.alloc (.cells #[.int .i64 (c : Int)] 3)).heap.size) := up_alloc HEI.out.bel.size _
                go_wp2_with (at_builtin; go_must (refine wpList_catI rfl _ _ rfl w0.heap.size _ piv rfl HOI1.out _ [(c : Int)] rfl HSC.out HPL.out HUP.out ?_); (intro v5 w5 ho hg hv); have HE6 := Lib.hid (HEI.out.push (Nat.le_refl _) ho hg hv); clear ho hg hv)
                exact ⟨⟨c + 1, a + 1, _, _, _, by omega, rfl, rfl, by show _ = _; rw [List.length_append, List.length_singleton, HA.out], HNX2.out, HE6⟩, by simp only [intOf]; omega⟩
      · obtain rfl : n = k := by omega
        have HKE : Hid (findK l c l.length (l.length - piv.length) piv.length = n) := by
          show _ = _
          rw [HLN.out, ← HA.out, HK.out, Nat.sub_self, findK]
        have hkb : (((n : Nat) : Int) == (n : Int)) = true := by simp
        have HNX : Hid (elimTo O rows (c + 1) = (l, piv)) := by
          show _ = _
          rw [elimTo_next HE.out (by rw [HLN.out, ← HA.out]; exact hal) HKE.out, if_pos HLN.out.symm]
        go_wp2_with fail
        exact ⟨⟨c + 1, a, l, piv, X, by omega, rfl, rfl, HA, HNX, HEL⟩, by simp only [intOf]; omega⟩

theorem rElim_any (w : World) (P M : Int) (cols L : Nat) (mv v : Value) (Mod : List Int) (rows : List (List Int)) (hm : SI w mv Mod) (hv : SS w v rows) (ho : orderF P M ≠ 0) (hmod : ModP P M Mod)
    (hR : Rows (orderF P M) L rows) (hcL : cols ≤ L) (hL : L ≤ 100000) (hn : rows.length ≤ 100000) :
    Calls Tryz.prog 60 #[.agg #[.int .i64 P, .int .i64 M, mv], v, .int .i64 (cols : Int)] w (RetSI w (elimTo (refOps P M Mod) rows cols).1 (elimTo (refOps P M Mod) rows cols).2) := by
  rcases Nat.eq_zero_or_pos rows.length with h | h
  · obtain rfl := List.eq_nil_of_length_eq_zero h
    have e : ∀ c, elimTo (refOps P M Mod) [] c = ([], []) := fun c => by
      induction c with
      | zero => rfl
      | succ c ih => rw [elimTo, ih]; rfl
    rw [e]
    exact rElim_nil w P M _ mv v Mod hv
  · exact rElim_cons w P M cols L mv v Mod rows hm hv ho hmod hR hcL hL h hn
end Go.Proofs.YtmejijekcfhonaaGreat

/- Words for structs that a call stores into a block of its own, field by field. -/
namespace Go.Proofs.YtmejijekcfhonaaGreat
open Go.RowKit
set_option linter.unusedVariables false

/-- the world behind the stores, under a name of its own -/
structure Laid (w w' : World) (g : Nat) (t : TypeId) (cs : List Value) : Prop where
  blk : Blk w' g t cs
  gr : w.grownBy w' (some g)
theorem Laid.c0 {w w' : World} {g : Nat} {t : TypeId} {a : Value} {cs : List Value} (h : Laid w w' g t (a :: cs)) : w'.cell? ⟨g, 0, none⟩ = some a := h.blk.cell 0
theorem Laid.c1 {w w' : World} {g : Nat} {t : TypeId} {a b : Value} {cs : List Value} (h : Laid w w' g t (a :: b :: cs)) : w'.cell? ⟨g, 1, none⟩ = some b := h.blk.cell 1
theorem Laid.c2 {w w' : World} {g : Nat} {t : TypeId} {a b c : Value} {cs : List Value} (h : Laid w w' g t (a :: b :: c :: cs)) : w'.cell? ⟨g, 2, none⟩ = some c := h.blk.cell 2
theorem Laid.c3 {w w' : World} {g : Nat} {t : TypeId} {a b c d : Value} {cs : List Value} (h : Laid w w' g t (a :: b :: c :: d :: cs)) : w'.cell? ⟨g, 3, none⟩ = some d := h.blk.cell 3
theorem Laid.c4 {w w' : World} {g : Nat} {t : TypeId} {a b c d e : Value} {cs : List Value} (h : Laid w w' g t (a :: b :: c :: d :: e :: cs)) : w'.cell? ⟨g, 4, none⟩ = some e := h.blk.cell 4
theorem Laid.fz {w w' : World} {g : Nat} {t : TypeId} {cs : List Value} (h : Laid w w' g t cs) (i : Nat) : w'.frozen? ⟨g, i, none⟩ = false := h.blk.frozen i
theorem Laid.below {B : Nat} {w0 w w' : World} {g : Nat} {t : TypeId} {cs : List Value} (h : Laid w w' g t cs) (hb : Below B w0 w) (hB : B ≤ w.heap.size) (hg : B ≤ g) : Below B w0 w' := hb.grown h.gr hB fun k e => by cases e; exact hg
theorem lay1 {w : World} {g : Nat} {t : TypeId} {a x : Value} (h : Blk w g t [a]) : ∃ w', w.setCell ⟨g, 0, none⟩ x = w' ∧ Laid w w' g t [x] :=
  ⟨_, rfl, h.set_ 0 x, gr_set1 w g 0 x⟩
theorem lay2 {w : World} {g : Nat} {t : TypeId} {a b x y : Value} (h : Blk w g t [a, b]) : ∃ w', (w.setCell ⟨g, 0, none⟩ x).setCell ⟨g, 1, none⟩ y = w' ∧ Laid w w' g t [x, y] :=
  ⟨_, rfl, (h.set_ 0 x).set_ 1 y, gr_set2 w g 0 1 x y⟩
theorem lay3 {w : World} {g : Nat} {t : TypeId} {a b c x y z : Value} (h : Blk w g t [a, b, c]) : ∃ w', ((w.setCell ⟨g, 0, none⟩ x).setCell ⟨g, 1, none⟩ y).setCell ⟨g, 2, none⟩ z = w' ∧ Laid w w' g t [x, y, z] :=
  ⟨_, rfl, ((h.set_ 0 x).set_ 1 y).set_ 2 z, gr_setCell (p := ⟨g, 2, none⟩) (gr_set2 w g 0 1 x y) (.inl rfl) _⟩
theorem lay5 {w : World} {g : Nat} {t : TypeId} {a b c d e x y z u v : Value} (h : Blk w g t [a, b, c, d, e]) : ∃ w', ((((w.setCell ⟨g, 0, none⟩ x).setCell ⟨g, 1, none⟩ y).setCell ⟨g, 2, none⟩ z).setCell ⟨g, 3, none⟩ u).setCell ⟨g, 4, none⟩ v = w' ∧ Laid w w' g t [x, y, z, u, v] :=
  ⟨_, rfl, ((((h.set_ 0 x).set_ 1 y).set_ 2 z).set_ 3 u).set_ 4 v, gr_setCell (p := ⟨g, 4, none⟩) (gr_setCell (p := ⟨g, 3, none⟩) (gr_setCell (p := ⟨g, 2, none⟩) (gr_set2 w g 0 1 x y) (.inl rfl) _) (.inl rfl) _) (.inl rfl) _⟩
theorem Blk.three {w : World} {g : Nat} {t : TypeId} {a b c : Value} (h : Blk w g t [a, b, c]) :
    w.cell? ⟨g, 0, none⟩ = some a ∧ w.cell? ⟨g, 1, none⟩ = some b ∧ w.cell? ⟨g, 2, none⟩ = some c ∧ w.frozen? ⟨g, 0, none⟩ = false ∧ w.frozen? ⟨g, 1, none⟩ = false ∧ w.frozen? ⟨g, 2, none⟩ = false :=
  ⟨h.cell 0, h.cell 1, h.cell 2, h.frozen 0, h.frozen 1, h.frozen 2⟩
theorem Blk.two {w : World} {g : Nat} {t : TypeId} {a b : Value} (h : Blk w g t [a, b]) :
    w.cell? ⟨g, 0, none⟩ = some a ∧ w.cell? ⟨g, 1, none⟩ = some b ∧ w.frozen? ⟨g, 0, none⟩ = false ∧ w.frozen? ⟨g, 1, none⟩ = false :=
  ⟨h.cell 0, h.cell 1, h.frozen 0, h.frozen 1⟩
theorem Blk.five {w : World} {g : Nat} {t : TypeId} {a b c d e : Value} (h : Blk w g t [a, b, c, d, e]) :
    w.cell? ⟨g, 0, none⟩ = some a ∧ w.cell? ⟨g, 1, none⟩ = some b ∧ w.cell? ⟨g, 2, none⟩ = some c ∧ w.cell? ⟨g, 3, none⟩ = some d ∧ w.cell? ⟨g, 4, none⟩ = some e ∧
    w.frozen? ⟨g, 0, none⟩ = false ∧ w.frozen? ⟨g, 1, none⟩ = false ∧ w.frozen? ⟨g, 2, none⟩ = false ∧ w.frozen? ⟨g, 3, none⟩ = false ∧ w.frozen? ⟨g, 4, none⟩ = false :=
  ⟨h.cell 0, h.cell 1, h.cell 2, h.cell 3, h.cell 4, h.frozen 0, h.frozen 1, h.frozen 2, h.frozen 3, h.frozen 4⟩
end Go.Proofs.YtmejijekcfhonaaGreat

/- What a value reads as, while only blocks below a bound turn: results that lie in new memory. -/
namespace Go.Proofs.YtmejijekcfhonaaGreat
open Go.RowKit
set_option linter.unusedVariables false

/-- Φ holds in every world in which the blocks from B on read as they do here -/
def Sep (B : Nat) (w : World) (Φ : World → Prop) : Prop := ∀ w2 : World, (∀ p : Addr, B ≤ p.block → p.block < w.heap.size → w2.cell? p = w.cell? p) → Φ w2
section
variable {B B' : Nat} {w w' : World} {Φ Ψ : World → Prop}
theorem Sep.out (h : Sep B w Φ) : Φ w := h w fun _ _ _ => rfl
theorem Sep.mono (h : Sep B w Φ) (hB : B' ≤ B) : Sep B' w Φ := fun w2 h2 => h w2 fun p h3 h4 => h2 p (by omega) h4
theorem Sep.of (h : Sep B w Φ) (hs : w.heap.size ≤ w'.heap.size) (hc : ∀ p : Addr, B ≤ p.block → p.block < w.heap.size → w'.cell? p = w.cell? p) : Sep B w' Φ := fun w2 h2 =>
  h w2 fun p h3 h4 => (h2 p h3 (Nat.lt_of_lt_of_le h4 hs)).trans (hc p h3 h4)
theorem Sep.on (h : Sep B w Φ) (hb : Below w.heap.size w w') : Sep B w' Φ := h.of hb.size fun p _ h4 => hb.cell h4
theorem Sep.grown {row : Option Nat} (h : Sep B w Φ) (hg : w.grownBy w' row) (hr : ∀ g, row = some g → g < B) : Sep B w' Φ := h.of hg.size fun p h3 h4 =>
  World.cell?_of_block (hg.block _ h4 fun e => by have := hr _ e.symm; omega)
theorem Sep.setCell (h : Sep B w Φ) {a : Addr} (ha : a.block < B) (u : Value) : Sep B (w.setCell a u) Φ := h.of (by simp [World.setCell]) fun p h3 h4 =>
  World.cell?_of_block (Below.heap_setCell w a u p.block (by omega))
theorem Sep.imp (h : Sep B w Φ) (k : ∀ w2, Φ w2 → Ψ w2) : Sep B w Ψ := fun w2 h2 => k w2 (h w2 h2)
theorem Sep.and (h : Sep B w Φ) (k : Sep B w Ψ) : Sep B w fun w2 => Φ w2 ∧ Ψ w2 := fun w2 h2 => ⟨h w2 h2, k w2 h2⟩
theorem Sep.drew (h : Sep B w Φ) : Sep B w.drew Φ := h.on (bl_drew w)
theorem Sep.drewN (h : Sep B w Φ) (n : Nat) : Sep B (w.drewN n) Φ := h.on (bl_drewN w n)
end
theorem SI.wfs {w : World} {v : Value} {xs : List Int} (h : SI w v xs) (k : Nat) : I64 (xs.getD k 0) := by obtain ⟨_, _, _, h⟩ := h; exact h.wf k
theorem SI.len' {w : World} {v : Value} {xs : List Int} (h : SI w v xs) : xs.length ≤ 17592186044416 := by obtain ⟨_, _, _, h⟩ := h; exact h.len
theorem SS.len' {w : World} {v : Value} {xs : List (List Int)} (h : SS w v xs) : xs.length ≤ 17592186044416 := by obtain ⟨_, _, _, h⟩ := h; exact h.len
theorem SI.moved {w w' : World} {v : Value} {xs : List Int} (h : SI w v xs) (hc : ∀ p : Addr, v.ownBlock = some p.block → p.block < w.heap.size → w'.cell? p = w.cell? p) : SI w' v xs := by
  obtain ⟨A, c, rfl, h⟩ := h
  refine ⟨A, c, rfl, h.len, h.cap, fun k hk => ?_, h.wf⟩
  obtain ⟨ad, e, hcl⟩ := h.cell k hk
  refine ⟨ad, e, ?_⟩
  subst e
  rw [hc (ad.add k) (by rw [block_of_add]; rfl) (World.block_lt_of_cell? _ _ hcl)]
  exact hcl
theorem SI.sep {B : Nat} {w : World} {v : Value} {xs : List Int} (h : SI w v xs) (hn : 0 < xs.length → ∀ g, v.ownBlock = some g → B ≤ g) : Sep B w fun w2 => SI w2 v xs := fun w2 h2 => by
  by_cases h0 : 0 < xs.length
  · exact h.moved fun p hp hl => h2 p (hn h0 _ hp) hl
  · obtain ⟨A, c, rfl, h⟩ := h
    exact ⟨A, c, rfl, h.len, h.cap, fun k hk => absurd hk (by omega), h.wf⟩
theorem OI.sep {B : Nat} {w : World} {v : Value} {xs : List Int} (h : OI B w v xs) (hl : xs.length ≤ 17592186044416) (hw : ∀ k, I64 (xs.getD k 0)) : Sep B w fun w2 => SI w2 v xs :=
  (h.si hl hw).sep fun _ g hg => (h.lt hg).1
theorem SI.nilSep (B : Nat) (w : World) : Sep B w fun w2 => SI w2 (.slice none 0 0) [] := fun w2 _ => SI.none_ w2
theorem SS.nilSep (B : Nat) (w : World) : Sep B w fun w2 => SS w2 (.slice none 0 0) [] := fun w2 _ => SS.none_ w2
theorem OS.sep {B : Nat} {X : Nat → Prop} {w : World} {v : Value} {l : List (List Int)} (h : OS B X w v l) (hX : ∀ g, g < B → X g) (hl : l.length ≤ 17592186044416) : Sep B w fun w2 => SS w2 v l := fun w2 h2 => by
  obtain ⟨us, ho, hi⟩ := h
  have hc := ho.2
  rcases hc with ⟨rfl, h0⟩ | ⟨g, cap, cur, rfl, hB, hg, hn, _, _, _⟩
  · obtain rfl : l = [] := List.eq_nil_of_length_eq_zero h0
    exact SS.none_ w2
  · have hgl := (Array.getElem?_eq_some_iff.1 hg).1
    refine ⟨some ⟨g, 0, none⟩, cap, rfl, hl, hn, fun k hk => ?_⟩
    obtain ⟨u, hu, hs, hx⟩ := hi k hk
    refine ⟨_, u, rfl, ?_, (hs.sep (B := B) fun h0 g' hg' => ?_) w2 h2⟩
    · rw [h2 _ (by rw [block_of_add]; exact hB) (by rw [block_of_add]; exact hgl)]
      exact World.ownsRow.cells ho (g := g) rfl k u hu
    · refine Decidable.byContradiction fun hlt => (hx h0 g' hg').2 (hX g' (by omega))
end Go.Proofs.YtmejijekcfhonaaGreat

/- ref09: Canon. -/
namespace Go.Proofs.YtmejijekcfhonaaGreat
open Go.RowKit
set_option linter.unusedVariables false
set_option maxRecDepth 100000

/-- rows and pivots come back; the rows may be the beginning of a longer slice -/
def RetLI (w : World) (xss : List (List Int)) (ys : List Int) (e : Ending) (w' : World) : Prop := ∃ u1 u2, e = .returned (.tuple #[u1, u2]) ∧ Sep w.heap.size w' (fun w2 => SS w2 u1 xss) ∧ OS w.heap.size (fun g => g < w.heap.size) w' u1 xss ∧ OI w.heap.size w' u2 ys ∧ Below w.heap.size w w'
/-- the beginning of a slice of the call's own -/
theorem OS.takeN {B : Nat} {X : Nat → Prop} {w : World} {A : Option Addr} {n c : Nat} {l : List (List Int)} (h : OS B X w (.slice A n c) l) {k : Nat} (hk : k ≤ l.length) : OS B X w (.slice A k c) (l.take k) := by
  obtain ⟨us, ho, hi⟩ := h
  have hul : us.length = l.length := by have := ho.1; omega
  have hl : (l.take k).length = k := by rw [List.length_take]; omega
  have hob : ∀ g, (Value.slice A k c).ownBlock = some g → (Value.slice A n c).ownBlock = some g := fun g hg => by
    cases A with
    | none => simp [Value.ownBlock] at hg
    | some ad => simpa [Value.ownBlock] using hg
  refine ⟨us.take k, ⟨by rw [hl, List.length_take]; omega, ?_⟩, fun i hi' => ?_⟩
  · rcases ho.2 with ⟨e, h0⟩ | ⟨g, cap, cur, e, hg, hc, hn, hm, hs, ht⟩
    · injection e with e1 e2 e3
      subst e1 e3
      refine .inl ⟨?_, by rw [hl]; omega⟩
      rw [show k = 0 by omega]
    · injection e with e1 e2 e3
      subst e1 e3
      refine .inr ⟨g, c, cur, by rw [hl], hg, hc, by rw [hl]; omega, hm, hs, ?_⟩
      rw [← ht, List.take_take, hl, Nat.min_eq_left (by omega), Nat.mul_one]
  · rw [hl] at hi'
    obtain ⟨y, hy, hs, hx⟩ := hi i (by omega)
    have hgd : (l.take k).getD i [] = l.getD i [] := by simp [List.getD, List.getElem?_take, hi']
    rw [hgd]
    exact ⟨y, by rw [List.getElem?_take, if_pos hi']; exact hy, hs, fun h0 g' hg' => ⟨fun e => (hx h0 g' hg').1 (hob g' e), (hx h0 g' hg').2⟩⟩
theorem SS.takeN {w : World} {A : Option Addr} {n c : Nat} {xss : List (List Int)} (h : SS w (.slice A n c) xss) {k : Nat} (hk : k ≤ xss.length) : SS w (.slice A k c) (xss.take k) := by
  obtain ⟨A', c', e, h⟩ := h
  injection e with e1 e2 e3
  subst e1 e3
  have hl : (xss.take k).length = k := by rw [List.length_take]; omega
  refine ⟨A, c, by rw [hl], by have := h.len; omega, by have := h.cap; omega, fun j hj => ?_⟩
  rw [hl] at hj
  obtain ⟨ad, u, e, hc, hs⟩ := h.cell j (by omega)
  exact ⟨ad, u, e, hc, by rw [show (xss.take k).getD j [] = xss.getD j [] by simp [List.getD, List.getElem?_take, hj]]; exact hs⟩

set_option maxHeartbeats 4000000 in
theorem rCanon_any (w : World) (P M : Int) (cols L : Nat) (mv v : Value) (Mod : List Int) (rows : List (List Int)) (hm : SI w mv Mod) (hv : SS w v rows) (ho : orderF P M ≠ 0) (hmod : ModP P M Mod)
    (hR : Rows (orderF P M) L rows) (hcL : cols ≤ L) (hL : L ≤ 100000) (hn : rows.length ≤ 100000) :
    Calls Tryz.prog 38 #[.agg #[.int .i64 P, .int .i64 M, mv], v, .int .i64 (cols : Int)] w (RetLI w (canonL (refOps P M Mod) rows cols) (pivL (refOps P M Mod) rows cols)) := by
  have HEL := Lib.hid (fun w' (hb : Below w.heap.size w w') => rElim_any w' P M cols L mv v Mod rows (hm.below hb (Nat.le_refl _)) (hv.below hb (Nat.le_refl _)) ho hmod hR hcL hL hn)
  have hp := elimTo_piv (refOps P M Mod) rows cols
  have hl := elimTo_len (refOps P M Mod) rows cols
  have HCE : Hid (canonL (refOps P M Mod) rows cols = (elimTo (refOps P M Mod) rows cols).1.take (elimTo (refOps P M Mod) rows cols).2.length ∧ pivL (refOps P M Mod) rows cols = (elimTo (refOps P M Mod) rows cols).2) := ⟨rfl, rfl⟩
  obtain ⟨l, hle⟩ : ∃ l, l = (elimTo (refOps P M Mod) rows cols).1 := ⟨_, rfl⟩
  obtain ⟨piv, hpe⟩ : ∃ piv, piv = (elimTo (refOps P M Mod) rows cols).2 := ⟨_, rfl⟩
  rw [← hle] at hl HCE
  rw [← hpe] at hp HCE
  have HLE := Lib.hid hle; have HPE := Lib.hid hpe; clear hle hpe
  obtain ⟨n, hnn⟩ : ∃ n, n = l.length := ⟨_, rfl⟩
  obtain ⟨r, hrr⟩ : ∃ r, r = piv.length := ⟨_, rfl⟩
  have hrn : r ≤ n := by omega
  have hn2 : n ≤ 100000 := by omega
  have HN := Lib.hid hnn; have HR2 := Lib.hid hrr; clear hnn hrr hl hp hm hv ho hmod hR hcL hL hn
  go_enter Tryz.func38, Tryz.ntmps38
  go_wp2_with fail
  refine (HEL.out _ (bl_alloc _ _)).mono ?_
  rintro e w1 ⟨u1, u2, rfl, h1, h2, hb1⟩
  rw [← HLE.out] at h1
  rw [← HPE.out] at h2
  obtain ⟨A1, c1, rfl⟩ := h1.form
  obtain ⟨A2, c2, rfl⟩ := h2.form'
  have hnew : OS w.heap.size (fun g => g < w.heap.size) w1 (.slice A1 l.length c1) l := (h1.names (fun g _ hg => by rw [World.size_alloc]; omega)).mono (by rw [World.size_alloc]; omega)
  have hss := h1.ss (by rw [← HN.out]; omega)
  have hsep := (h1.sep (fun g hg => hg) (by rw [← HN.out]; omega)).mono (B' := w.heap.size) (by rw [World.size_alloc]; omega)
  have hcap : l.length ≤ c1 := by obtain ⟨_, _, e, hs⟩ := hss; injection e with e1 e2 e3; rw [e3]; exact hs.cap
  rw [← HN.out] at hss hsep hnew hcap ⊢
  rw [← HR2.out] at h2 ⊢
  have HSS := Lib.hid hsep; have HNEW := Lib.hid hnew; have H2 := Lib.hid h2
  have HB := Lib.hid (bl_trans (bl_alloc _ _) hb1)
  clear hss hsep hnew h1 h2 hb1
  have hrc : r ≤ c1 := by omega
  go_wp2_with fail
  go_ret2
  have hsz : w.heap.size ≤ (w.alloc (.cells #[.int .i64 P, .int .i64 M, mv] 24)).heap.size := by rw [World.size_alloc]; omega
  rw [HCE.out.2]
  refine ⟨.slice A1 r c1, .slice A2 r c2, rfl, ?_, ?_, H2.out.mono hsz, HB.out⟩
  · rw [HCE.out.1, ← HR2.out]
    exact HSS.out.imp fun w2 h => h.takeN (by rw [← HN.out]; exact hrn)
  · rw [HCE.out.1, ← HR2.out]
    exact HNEW.out.takeN (by rw [← HN.out]; exact hrn)
end Go.Proofs.YtmejijekcfhonaaGreat

/- ref10.Check: the rows are canonical. -/
namespace Go.Proofs.YtmejijekcfhonaaGreat
open Go.RowKit
set_option linter.unusedVariables false
set_option maxRecDepth 100000

/-- the error of a space -/
noncomputable def spaceE (P M : Int) (Mod : List Int) (cols : Int) (rows : List (List Int)) : Int :=
  if matE P M Mod cols rows ≠ 0 then matE P M Mod cols rows else if canonL (refOps P M Mod) rows cols.toNat = rows then 0 else 5
theorem checkF_zero {P M : Int} {Mod : List Int} (h : checkF P M Mod = 0) : FieldP P M Mod := by
  unfold checkF at h
  split at h
  · assumption
  · cases h
theorem entriesF_zero {q : Int} {l : List Int} (h : entriesF q l = 0) : ∀ k, k < l.length → 0 ≤ l.getD k 0 ∧ l.getD k 0 < q := by
  unfold entriesF at h
  split at h
  · assumption
  · cases h
/-- a matrix without error -/
theorem matE_zero {P M : Int} {Mod : List Int} {cols : Int} {rows : List (List Int)} (h : matE P M Mod cols rows = 0) :
    FieldP P M Mod ∧ 0 ≤ cols ∧ cols ≤ 256 ∧ rows.length ≤ 256 ∧ Rows (orderF P M) cols.toNat rows := by
  unfold matE at h
  split at h
  · rename_i h1; exact absurd h h1
  rename_i h1
  split at h
  · cases h
  rename_i h2
  split at h
  case isFalse => cases h
  rename_i h3
  split at h
  case isFalse => cases h
  rename_i h4
  have hf := checkF_zero (Decidable.not_not.1 h1)
  have hq := (order_ne hf.1).2.2.2.2.1
  refine ⟨hf, by omega, by omega, by omega, fun k hk => ?_⟩
  rw [lensOK, List.all_eq_true] at h3
  rw [entsOK, List.all_eq_true] at h4
  have hm : rows.getD k [] ∈ rows := by
    simp [List.getD, hk]
  have e3 := h3 _ hm
  have e4 := h4 _ hm
  rw [beq_iff_eq] at e3 e4
  refine ⟨by omega, fun i => ?_⟩
  by_cases hi : i < (rows.getD k []).length
  · exact entriesF_zero e4 i hi
  · rw [getD_len (by omega)]
    have := orderF_bounds P M
    have := hf.1
    omega

set_option maxHeartbeats 8000000 in
theorem rSCheck_any (w : World) (P M cols : Int) (mv rv : Value) (Mod : List Int) (rows : List (List Int)) (hm : SI w mv Mod) (hv : SS w rv rows) :
    Calls Tryz.prog 51 #[.agg #[.int .i64 P, .int .i64 M, mv], .agg #[.int .i64 cols, rv]] w (RetI w (spaceE P M Mod cols rows)) := by
  obtain ⟨A, c, rfl, hv⟩ := hv
  have HM := Lib.hid hm
  have HV := Lib.hid (show SS w (.slice A rows.length c) rows from ⟨A, c, rfl, hv⟩); clear hv hm
  obtain ⟨n, hn⟩ : ∃ n, n = rows.length := ⟨_, rfl⟩
  have HF := Lib.hid (FMBox.mk' w P M mv cols (.slice A n c))
  rw [← hn] at HV ⊢
  have HN := Lib.hid hn; clear hn
  by_cases hme : matE P M Mod cols rows = 0
  case neg =>
    have HE : Hid (spaceE P M Mod cols rows = matE P M Mod cols rows) := by show _ = _; unfold spaceE; rw [if_pos hme]
    have hb : (matE P M Mod cols rows != 0) = true := by rw [bne_iff_ne]; exact hme
    clear hme
    go_enter Tryz.func51, Tryz.ntmps51
    go_wp2_with fail
    generalize hw0 : (w.alloc (.cells #[.int .i64 P, .int .i64 M, mv] 24)).alloc (.cells #[.int .i64 cols, .slice A n c] 27) = w0 at *
    have c0 := HF.out.fb.c0; have c1 := HF.out.fb.c1; have c2 := HF.out.fb.c2; have d0 := HF.out.d0; have d1 := HF.out.d1
    go_wp2_with fail
    refine (rMCheck_any _ P M cols mv _ Mod rows (HM.out.below HF.out.fb.bel (Nat.le_refl _)) (HV.out.below HF.out.fb.bel (Nat.le_refl _))).mono ?_
    rintro e w1 ⟨rfl, hb1⟩
    have HB1 := Lib.hid (bl_trans HF.out.fb.bel hb1); clear hb1
    go_wp2_with fail
    go_ret
    exact ⟨by rw [HE.out]; rfl, HB1.out⟩
  obtain ⟨hf, hc0, hc1, hr, hrows⟩ := matE_zero hme
  have HS : Hid (spaceE P M Mod cols rows = if canonL (refOps P M Mod) rows cols.toNat = rows then 0 else 5) := by show _ = _; unfold spaceE; rw [if_neg (by simpa using hme)]
  obtain ⟨C, hC⟩ : ∃ C : Nat, cols = (C : Int) := ⟨cols.toNat, by omega⟩
  subst hC
  rw [Int.toNat_natCast] at hrows HS
  have HME := Lib.hid hme; have HFP := Lib.hid hf; have HRO := Lib.hid hrows
  rw [HN.out.symm] at hr
  clear hme hf hrows
  go_enter Tryz.func51, Tryz.ntmps51
  go_wp2_with fail
  generalize hw0 : (w.alloc (.cells #[.int .i64 P, .int .i64 M, mv] 24)).alloc (.cells #[.int .i64 (C : Int), .slice A n c] 27) = w0 at *
  have c0 := HF.out.fb.c0; have c1 := HF.out.fb.c1; have c2 := HF.out.fb.c2; have d0 := HF.out.d0; have d1 := HF.out.d1
  go_wp2_with fail
  refine (rMCheck_any _ P M C mv _ Mod rows (HM.out.below HF.out.fb.bel (Nat.le_refl _)) (HV.out.below HF.out.fb.bel (Nat.le_refl _))).mono ?_
  rintro e w1 ⟨rfl, hb1⟩
  rw [HME.out]
  have HF1 := Lib.hid (HF.out.on hb1); clear hb1 c0 c1 c2 d0 d1
  have c0 := HF1.out.fb.c0; have c1 := HF1.out.fb.c1; have c2 := HF1.out.fb.c2; have d0 := HF1.out.d0; have d1 := HF1.out.d1
  go_wp2_with fail
  refine (rCanon_any _ P M C C mv _ Mod rows (HM.out.below HF1.out.fb.bel (Nat.le_refl _)) (HV.out.below HF1.out.fb.bel (Nat.le_refl _)) HFP.out.1 HFP.out.2.2.1 HRO.out (Nat.le_refl _) (by omega) (by rw [← HN.out]; omega)).mono ?_
  rintro e w2 ⟨u1, u2, rfl, hs, _, _, hb2⟩
  have HS2 := Lib.hid hs.out
  have HF2 := Lib.hid (HF1.out.on hb2); clear hb2 hs c0 c1 c2 d0 d1
  have d1 := HF2.out.d1
  go_wp2_with fail
  refine (rSameRows_any _ _ _ (canonL (refOps P M Mod) rows C) rows HS2.out (HV.out.below HF2.out.fb.bel (Nat.le_refl _))).mono ?_
  rintro e w3 ⟨rfl, hb3⟩
  have HB3 := Lib.hid (bl_trans HF2.out.fb.bel hb3); clear hb3
  by_cases heq : canonL (refOps P M Mod) rows C = rows
  · rw [show decide (canonL (refOps P M Mod) rows C = rows) = true from decide_eq_true heq]
    rw [if_pos heq] at HS
    clear heq
    go_wp2_with fail
    go_ret
    exact ⟨by rw [HS.out]; rfl, HB3.out⟩
  · rw [show decide (canonL (refOps P M Mod) rows C = rows) = false from decide_eq_false heq]
    rw [if_neg heq] at HS
    clear heq
    go_wp2_with fail
    go_ret
    exact ⟨by rw [HS.out]; rfl, HB3.out⟩
end Go.Proofs.YtmejijekcfhonaaGreat

/- Linear algebra on lists of rows over operations that obey the laws of a field: sums, spans, what elimination keeps and what it ends in. No program in sight. -/
namespace Go.Proofs.YtmejijekcfhonaaGreat

/-- the laws of a field on the ints from 0 to q - 1; an operand that is none of these counts as 0 -/
structure FOps.Fld (O : FOps) (q : Int) : Prop where
  lt : O.Lt q
  neg_lt : ∀ x, 0 ≤ O.neg x ∧ O.neg x < q
  inv_lt : ∀ x, 0 ≤ O.inv x ∧ O.inv x < q
  add_comm : ∀ x y, O.add x y = O.add y x
  add_assoc : ∀ x y z, O.add (O.add x y) z = O.add x (O.add y z)
  add_zero : ∀ x, 0 ≤ x → x < q → O.add x 0 = x
  add_neg : ∀ x, O.add x (O.neg x) = 0
  mul_comm : ∀ x y, O.mul x y = O.mul y x
  mul_assoc : ∀ x y z, O.mul (O.mul x y) z = O.mul x (O.mul y z)
  mul_one : ∀ x, 0 ≤ x → x < q → O.mul x 1 = x
  mul_add : ∀ x y z, O.mul x (O.add y z) = O.add (O.mul x y) (O.mul x z)
  mul_zero : ∀ x, O.mul x 0 = 0
  mul_inv : ∀ x, 0 < x → x < q → O.mul x (O.inv x) = 1

section
variable {O : FOps} {q : Int} (hO : O.Fld q)
include hO
theorem FOps.Fld.zero_add {x : Int} (h0 : 0 ≤ x) (h1 : x < q) : O.add 0 x = x := by rw [hO.add_comm]; exact hO.add_zero x h0 h1
theorem FOps.Fld.zero_mul (x : Int) : O.mul 0 x = 0 := by rw [hO.mul_comm]; exact hO.mul_zero x
theorem FOps.Fld.one_mul {x : Int} (h0 : 0 ≤ x) (h1 : x < q) : O.mul 1 x = x := by rw [hO.mul_comm]; exact hO.mul_one x h0 h1
theorem FOps.Fld.zero_zero : O.add 0 0 = 0 := hO.add_zero 0 (by omega) (by have := hO.lt.pos; omega)
theorem FOps.Fld.add_mul (x y z : Int) : O.mul (O.add x y) z = O.add (O.mul x z) (O.mul y z) := by rw [hO.mul_comm, hO.mul_add, hO.mul_comm z x, hO.mul_comm z y]
theorem FOps.Fld.neg_add (x : Int) : O.add (O.neg x) x = 0 := by rw [hO.add_comm]; exact hO.add_neg x
theorem FOps.Fld.add_cancel {x y z : Int} (hy : 0 ≤ y ∧ y < q) (hz : 0 ≤ z ∧ z < q) (h : O.add x y = O.add x z) : y = z := by
  have e : O.add (O.neg x) (O.add x y) = O.add (O.neg x) (O.add x z) := by rw [h]
  rw [← hO.add_assoc, ← hO.add_assoc, hO.neg_add, hO.zero_add hy.1 hy.2, hO.zero_add hz.1 hz.2] at e
  exact e
theorem FOps.Fld.neg_unique {x y : Int} (hy : 0 ≤ y ∧ y < q) (h : O.add x y = 0) : y = O.neg x :=
  hO.add_cancel hy (hO.neg_lt x) (x := x) (by rw [h, hO.add_neg])
theorem FOps.Fld.neg_mul (x y : Int) : O.mul (O.neg x) y = O.neg (O.mul x y) :=
  hO.neg_unique (hO.lt.mul _ _) (by rw [← hO.add_mul, hO.add_neg, hO.zero_mul])
theorem FOps.Fld.neg_zero : O.neg 0 = 0 := (hO.neg_unique (x := 0) (y := 0) ⟨by omega, by have := hO.lt.pos; omega⟩ hO.zero_zero).symm
theorem FOps.Fld.neg_neg {x : Int} (h0 : 0 ≤ x) (h1 : x < q) : O.neg (O.neg x) = x := (hO.neg_unique ⟨h0, h1⟩ (hO.neg_add x)).symm
theorem FOps.Fld.neg_add2 (x y : Int) : O.neg (O.add x y) = O.add (O.neg x) (O.neg y) := by
  refine (hO.neg_unique (hO.lt.add _ _) ?_).symm
  rw [hO.add_comm (O.neg x), hO.add_assoc, ← hO.add_assoc y, hO.add_neg, hO.zero_add (hO.neg_lt _).1 (hO.neg_lt _).2, hO.add_neg]
theorem FOps.Fld.add4 (a b c d : Int) : O.add (O.add a b) (O.add c d) = O.add (O.add a c) (O.add b d) := by
  rw [hO.add_assoc, hO.add_assoc, ← hO.add_assoc b, ← hO.add_assoc c, hO.add_comm b]
theorem FOps.Fld.mul_eq_zero {x y : Int} (hx : 0 ≤ x ∧ x < q) (hy : 0 ≤ y ∧ y < q) (h : O.mul x y = 0) : x = 0 ∨ y = 0 := by
  by_cases e : x = 0
  · exact .inl e
  · right
    have := hO.mul_inv x (by omega) hx.2
    have e2 : O.mul (O.inv x) (O.mul x y) = 0 := by rw [h, hO.mul_zero]
    rw [← hO.mul_assoc, hO.mul_comm (O.inv x), this, hO.one_mul hy.1 hy.2] at e2
    exact e2

/-- a sum -/
def sumTo (O : FOps) (f : Nat → Int) : Nat → Int
  | 0 => 0
  | n + 1 => O.add (sumTo O f n) (f n)
omit hO in
theorem sumTo_congr {f g : Nat → Int} : ∀ {n : Nat}, (∀ i, i < n → f i = g i) → sumTo O f n = sumTo O g n
  | 0, _ => rfl
  | n + 1, h => by rw [sumTo, sumTo, sumTo_congr fun i hi => h i (by omega), h n (by omega)]
theorem sumTo_lt (f : Nat → Int) : ∀ n, 0 ≤ sumTo O f n ∧ sumTo O f n < q
  | 0 => ⟨Int.le_refl _, by have := hO.lt.pos; show (0 : Int) < q; omega⟩
  | n + 1 => hO.lt.add _ _
theorem sumTo_add (f g : Nat → Int) : ∀ n, sumTo O (fun i => O.add (f i) (g i)) n = O.add (sumTo O f n) (sumTo O g n)
  | 0 => hO.zero_zero.symm
  | n + 1 => by rw [sumTo, sumTo, sumTo, sumTo_add f g n, hO.add4]
theorem mul_sumTo (a : Int) (f : Nat → Int) : ∀ n, O.mul a (sumTo O f n) = sumTo O (fun i => O.mul a (f i)) n
  | 0 => hO.mul_zero a
  | n + 1 => by rw [sumTo, sumTo, hO.mul_add, mul_sumTo a f n]
theorem sumTo_mul (a : Int) (f : Nat → Int) (n : Nat) : O.mul (sumTo O f n) a = sumTo O (fun i => O.mul (f i) a) n := by
  rw [hO.mul_comm, mul_sumTo hO]; exact sumTo_congr fun i _ => hO.mul_comm _ _
theorem sumTo_zero {f : Nat → Int} : ∀ {n : Nat}, (∀ i, i < n → f i = 0) → sumTo O f n = 0
  | 0, _ => rfl
  | n + 1, h => by rw [sumTo, sumTo_zero fun i hi => h i (by omega), h n (by omega), hO.zero_zero]
theorem sumTo_neg (f : Nat → Int) : ∀ n, O.neg (sumTo O f n) = sumTo O (fun i => O.neg (f i)) n
  | 0 => hO.neg_zero
  | n + 1 => by rw [sumTo, sumTo, hO.neg_add2, sumTo_neg f n]
theorem sumTo_single {f : Nat → Int} {k : Nat} (hk : 0 ≤ f k ∧ f k < q) : ∀ {n : Nat}, k < n → (∀ i, i < n → i ≠ k → f i = 0) → sumTo O f n = f k
  | 0, h, _ => absurd h (by omega)
  | n + 1, h, h0 => by
    rw [sumTo]
    by_cases e : k = n
    · subst e
      rw [sumTo_zero hO fun i hi => h0 i (by omega) (by omega), hO.zero_add hk.1 hk.2]
    · rw [sumTo_single hk (by omega) fun i hi => h0 i (by omega), h0 n (by omega) (fun h => e h.symm), hO.add_zero _ hk.1 hk.2]
theorem sumTo_swap (f : Nat → Nat → Int) (m : Nat) : ∀ n, sumTo O (fun i => sumTo O (fun j => f i j) m) n = sumTo O (fun j => sumTo O (fun i => f i j) n) m
  | 0 => (sumTo_zero hO fun _ _ => rfl).symm
  | n + 1 => by
    rw [sumTo, sumTo_swap f m n, ← sumTo_add hO]
    exact sumTo_congr fun j _ => rfl

/-- an entry of rows -/
def ent (rows : List (List Int)) (i j : Nat) : Int := (rows.getD i []).getD j 0
/-- x is a combination of the rows -/
def Span (O : FOps) (rows : List (List Int)) (x : Nat → Int) : Prop := ∃ a : Nat → Int, ∀ j, x j = sumTo O (fun i => O.mul (a i) (ent rows i j)) rows.length
theorem Span.zero (rows : List (List Int)) : Span O rows fun _ => 0 := ⟨fun _ => 0, fun j => (sumTo_zero hO fun i _ => hO.zero_mul _).symm⟩
theorem Span.add {rows : List (List Int)} {x y : Nat → Int} (hx : Span O rows x) (hy : Span O rows y) : Span O rows fun j => O.add (x j) (y j) := by
  obtain ⟨a, ha⟩ := hx
  obtain ⟨b, hb⟩ := hy
  refine ⟨fun i => O.add (a i) (b i), fun j => ?_⟩
  dsimp only
  rw [ha j, hb j, ← sumTo_add hO]
  exact sumTo_congr fun i _ => (hO.add_mul _ _ _).symm
theorem Span.smul {rows : List (List Int)} {x : Nat → Int} (c : Int) (hx : Span O rows x) : Span O rows fun j => O.mul c (x j) := by
  obtain ⟨a, ha⟩ := hx
  refine ⟨fun i => O.mul c (a i), fun j => ?_⟩
  dsimp only
  rw [ha j, mul_sumTo hO]
  exact sumTo_congr fun i _ => (hO.mul_assoc _ _ _).symm
theorem Span.sum {rows : List (List Int)} {x : Nat → Nat → Int} : ∀ {n : Nat}, (∀ i, i < n → Span O rows (x i)) → Span O rows fun j => sumTo O (fun i => x i j) n
  | 0, _ => Span.zero hO rows
  | n + 1, h => (Span.sum fun i hi => h i (by omega)).add hO (h n (by omega))
theorem Span.row {rows : List (List Int)} {k : Nat} (hk : k < rows.length) (hr : ∀ j, 0 ≤ ent rows k j ∧ ent rows k j < q) : Span O rows (ent rows k) := by
  refine ⟨fun i => if i = k then 1 else 0, fun j => ?_⟩
  rw [sumTo_single hO (k := k) (by dsimp only; rw [if_pos rfl, hO.one_mul (hr j).1 (hr j).2]; exact hr j) hk (fun i _ hne => by dsimp only; rw [if_neg hne, hO.zero_mul])]
  dsimp only
  rw [if_pos rfl, hO.one_mul (hr j).1 (hr j).2]
omit hO in
theorem Span.congr {rows : List (List Int)} {x y : Nat → Int} (hx : Span O rows x) (h : ∀ j, y j = x j) : Span O rows y := by
  obtain ⟨a, ha⟩ := hx
  exact ⟨a, fun j => (h j).trans (ha j)⟩
theorem Span.lt {rows : List (List Int)} {x : Nat → Int} (hx : Span O rows x) (j : Nat) : 0 ≤ x j ∧ x j < q := by
  obtain ⟨a, ha⟩ := hx
  rw [ha j]; exact sumTo_lt hO _ _
/-- all rows of A lie in the span of B -/
def Inside (O : FOps) (A B : List (List Int)) : Prop := ∀ i, i < A.length → Span O B (ent A i)
theorem Span.trans {A B : List (List Int)} (h : Inside O A B) {x : Nat → Int} (hx : Span O A x) : Span O B x := by
  obtain ⟨a, ha⟩ := hx
  exact (Span.sum hO (x := fun i j => O.mul (a i) (ent A i j)) fun i hi => (h i hi).smul hO (a i)).congr ha
theorem Inside.trans {A B C : List (List Int)} (h : Inside O A B) (k : Inside O B C) : Inside O A C := fun i hi => (h i hi).trans hO k
/-- rows with entries of the field -/
def RowsR (q : Int) (A : List (List Int)) : Prop := ∀ i j, 0 ≤ ent A i j ∧ ent A i j < q
omit hO in
theorem Rows.r {n : Nat} {A : List (List Int)} (h : Rows q n A) (hq : 0 < q) : RowsR q A := fun i j => by
  unfold ent
  by_cases hi : i < A.length
  · exact (h i hi).2 j
  · simp [List.getD, List.getElem?_eq_none (show A.length ≤ i by omega)]; exact hq
theorem Inside.refl {A : List (List Int)} (h : RowsR q A) : Inside O A A := fun i hi => Span.row hO hi (h i)
omit hO in
theorem ent_set {l : List (List Int)} {k : Nat} {r : List Int} (hk : k < l.length) (i j : Nat) : ent (l.set k r) i j = if k = i then r.getD j 0 else ent l i j := by
  unfold ent
  rw [getD_setL]
  by_cases e : k = i
  · subst e; rw [if_pos ⟨rfl, hk⟩, if_pos rfl]
  · rw [if_neg (fun h => e h.1), if_neg e]
omit hO in
theorem ent_ge {l : List (List Int)} {i : Nat} (h : l.length ≤ i) (j : Nat) : ent l i j = 0 := by
  unfold ent; rw [List.getD_eq_getElem?_getD (l := l), List.getElem?_eq_none h]; rfl
omit hO in
theorem ent_wide {n : Nat} {l : List (List Int)} (h : Rows q n l) {i j : Nat} (hj : n ≤ j) : ent l i j = 0 := by
  by_cases hi : i < l.length
  · unfold ent; exact getD_len (by rw [(h i hi).1]; exact hj)
  · exact ent_ge (by omega) j
/-- one row is replaced: the span stays, if the new row lies in the old span and the old row in the new one -/
theorem set_inside {l : List (List Int)} (hl : RowsR q l) {k : Nat} (hk : k < l.length) {r : List Int} (h : Span O l fun j => r.getD j 0) : Inside O (l.set k r) l := fun i hi => by
  rw [List.length_set] at hi
  by_cases e : k = i
  · subst e; exact h.congr fun j => by rw [ent_set hk, if_pos rfl]
  · exact (Span.row hO hi (hl i)).congr fun j => by rw [ent_set hk, if_neg e]
theorem inside_set {l : List (List Int)} {k : Nat} (hk : k < l.length) {r : List Int} (hr : RowsR q (l.set k r)) (h : Span O (l.set k r) (ent l k)) : Inside O l (l.set k r) := fun i hi => by
  by_cases e : k = i
  · subst e; exact h
  · exact (Span.row hO (k := i) (by rw [List.length_set]; exact hi) (hr i)).congr fun j => by rw [ent_set hk, if_neg e]
theorem addToL_getD {v u : List Int} (a : Int) (hv : ∀ i, 0 ≤ v.getD i 0 ∧ v.getD i 0 < q) (hl : u.length ≤ v.length) (j : Nat) : (addToL O v a u).getD j 0 = O.add (v.getD j 0) (O.mul a (u.getD j 0)) := by
  by_cases hj : j < v.length
  · rw [addToL, rowOf_getD hj]
    by_cases e : u.getD j 0 = 0
    · rw [if_neg (by simpa using e), e, hO.mul_zero, hO.add_zero _ (hv j).1 (hv j).2]
    · rw [if_pos e]
  · rw [getD_len (by rw [addToL_len]; omega), getD_len (a := v) (by omega), getD_len (a := u) (by omega), hO.mul_zero, hO.zero_zero]
theorem scaleL_getD (a : Int) (v : List Int) (j : Nat) : (scaleL O a v).getD j 0 = O.mul a (v.getD j 0) := by
  by_cases hj : j < v.length
  · rw [scaleL, rowOf_getD hj]
  · unfold scaleL
    rw [getD_len (by rw [rowOf_len]; omega), getD_len (a := v) (by omega), hO.mul_zero]

/-- both lists of rows have one span -/
def Alike (O : FOps) (A B : List (List Int)) : Prop := Inside O A B ∧ Inside O B A
theorem Alike.refl {A : List (List Int)} (h : RowsR q A) : Alike O A A := ⟨Inside.refl hO h, Inside.refl hO h⟩
theorem Alike.trans {A B C : List (List Int)} (h : Alike O A B) (k : Alike O B C) : Alike O A C := ⟨h.1.trans hO k.1, k.2.trans hO h.2⟩
theorem Alike.span {A B : List (List Int)} (h : Alike O A B) (x : Nat → Int) : Span O A x ↔ Span O B x := ⟨Span.trans hO h.1, Span.trans hO h.2⟩
omit hO in
theorem ent_swap {l : List (List Int)} {a b : Nat} (ha : a < l.length) (hb : b < l.length) (i j : Nat) : ent (swapL l a b) i j = if b = i then ent l a j else if a = i then ent l b j else ent l i j := by
  unfold swapL
  rw [ent_set (by rw [List.length_set]; exact hb), ent_set ha]
  rfl
theorem swap_alike {n : Nat} {l : List (List Int)} (h : Rows q n l) {a b : Nat} (ha : a < l.length) (hb : b < l.length) : Alike O (swapL l a b) l := by
  have hr := h.r (by have := hO.lt.pos; omega)
  have hs := (h.swap ha hb).r (by have := hO.lt.pos; omega)
  constructor
  · intro i hi
    rw [swapL_len] at hi
    by_cases e : b = i
    · exact (Span.row hO ha (hr a)).congr fun j => by rw [ent_swap ha hb, if_pos e]
    · by_cases e2 : a = i
      · exact (Span.row hO hb (hr b)).congr fun j => by rw [ent_swap ha hb, if_neg e, if_pos e2]
      · exact (Span.row hO hi (hr i)).congr fun j => by rw [ent_swap ha hb, if_neg e, if_neg e2]
  · intro i hi
    by_cases e : b = i
    · refine (Span.row hO (k := a) (by rw [swapL_len]; exact ha) (hs a)).congr fun j => ?_
      rw [ent_swap ha hb]
      by_cases e2 : b = a
      · rw [if_pos e2, ← e, e2]
      · rw [if_neg e2, if_pos rfl, e]
    · by_cases e2 : a = i
      · exact (Span.row hO (k := b) (by rw [swapL_len]; exact hb) (hs b)).congr fun j => by rw [ent_swap ha hb, if_pos rfl, e2]
      · exact (Span.row hO (k := i) (by rw [swapL_len]; exact hi) (hs i)).congr fun j => by rw [ent_swap ha hb, if_neg e, if_neg e2]
theorem monic_alike {n : Nat} {l : List (List Int)} (h : Rows q n l) (c : Nat) {a : Nat} (ha : a < l.length) (h0 : ent l a c ≠ 0) : Alike O (monicL O c a l) l := by
  have hr := h.r (by have := hO.lt.pos; omega)
  have hm := (Rows.monic hO.lt h c ha).r (by have := hO.lt.pos; omega)
  revert hm
  unfold monicL
  split
  · intro hm
    have hx := hr a c
    have hi := hO.mul_inv (ent l a c) (by omega) hx.2
    refine ⟨set_inside hO hr ha (((Span.row hO ha (hr a)).smul hO (O.inv (ent l a c))).congr fun j => by rw [scaleL_getD hO]; rfl), inside_set hO ha hm ?_⟩
    refine ((Span.row hO (k := a) (by rw [List.length_set]; exact ha) (hm a)).smul hO (ent l a c)).congr fun j => ?_
    rw [ent_set ha, if_pos rfl, scaleL_getD hO, ← hO.mul_assoc]
    rw [show O.mul (ent l a c) (O.inv ((l.getD a []).getD c 0)) = 1 from hi]
    exact (hO.one_mul (hr a j).1 (hr a j).2).symm
  · intro _
    exact Alike.refl hO hr
theorem ent_monic (c : Nat) {a : Nat} {l : List (List Int)} (ha : a < l.length) (i j : Nat) :
    ent (monicL O c a l) i j = if a = i ∧ ent l a c ≠ 1 then O.mul (O.inv (ent l a c)) (ent l a j) else ent l i j := by
  unfold monicL
  by_cases e : ent l a c = 1
  · rw [if_neg (show ¬ (l.getD a []).getD c 0 ≠ 1 from fun h => h e), if_neg (fun h => h.2 e)]
  · rw [if_pos (show (l.getD a []).getD c 0 ≠ 1 from e), ent_set ha]
    by_cases e2 : a = i
    · rw [if_pos e2, if_pos ⟨e2, e⟩, scaleL_getD hO]; rfl
    · rw [if_neg e2, if_neg (fun h => e2 h.1)]
/-- one step of the clearing -/
theorem clear_step {n : Nat} {l : List (List Int)} (h : Rows q n l) (c : Nat) {a i : Nat} (ha : a < l.length) (hi : i < l.length) (hne : i ≠ a) :
    (∀ k j, ent (l.set i (addToL O (l.getD i []) (O.neg (ent l i c)) (l.getD a []))) k j = if i = k then O.add (ent l i j) (O.mul (O.neg (ent l i c)) (ent l a j)) else ent l k j) ∧
    Alike O (l.set i (addToL O (l.getD i []) (O.neg (ent l i c)) (l.getD a []))) l := by
  have hr := h.r (by have := hO.lt.pos; omega)
  have hE : ∀ j, (addToL O (l.getD i []) (O.neg (ent l i c)) (l.getD a [])).getD j 0 = O.add (ent l i j) (O.mul (O.neg (ent l i c)) (ent l a j)) := fun j =>
    addToL_getD hO _ (h i hi).2 (by rw [(h i hi).1, (h a ha).1]; exact Nat.le_refl _) j
  have hm : RowsR q (l.set i (addToL O (l.getD i []) (O.neg (ent l i c)) (l.getD a []))) := fun k j => by
    rw [ent_set hi]
    split
    · rw [hE]; exact hO.lt.add _ _
    · exact hr k j
  have hA : ∀ j, ent (l.set i (addToL O (l.getD i []) (O.neg (ent l i c)) (l.getD a []))) a j = ent l a j := fun j => by rw [ent_set hi, if_neg hne]
  refine ⟨fun k j => ?_, set_inside hO hr hi (((Span.row hO hi (hr i)).add hO ((Span.row hO ha (hr a)).smul hO (O.neg (ent l i c)))).congr hE), inside_set hO hi hm ?_⟩
  · rw [ent_set hi, hE]
  · refine ((Span.row hO (k := i) (by rw [List.length_set]; exact hi) (hm i)).add hO ((Span.row hO (k := a) (by rw [List.length_set]; exact ha) (hm a)).smul hO (ent l i c))).congr fun j => ?_
    rw [hA, ent_set hi, if_pos rfl, hE, hO.add_assoc, ← hO.add_mul, hO.neg_add, hO.zero_mul, hO.add_zero _ (hr i j).1 (hr i j).2]
theorem clear_keep {n : Nat} {l : List (List Int)} (h : Rows q n l) (c : Nat) {a : Nat} (ha : a < l.length) : ∀ i, i ≤ l.length →
    Alike O (clearTo O c a l i) l ∧ ∀ k j, ent (clearTo O c a l i) k j = if k < i ∧ k ≠ a ∧ ent l k c ≠ 0 then O.add (ent l k j) (O.mul (O.neg (ent l k c)) (ent l a j)) else ent l k j
  | 0, _ => ⟨Alike.refl hO (h.r (by have := hO.lt.pos; omega)), fun k j => by rw [if_neg (fun h => absurd h.1 (by omega))]; rfl⟩
  | i + 1, hi => by
    obtain ⟨h1, h2⟩ := clear_keep h c ha i (by omega)
    have hR := Rows.clear hO.lt h c a i (by omega)
    have hl := clearTo_len O c a l i
    have e0 : ∀ j, ent (clearTo O c a l i) i j = ent l i j := fun j => by rw [h2 i j, if_neg (fun h => absurd h.1 (by omega))]
    have ea : ∀ j, ent (clearTo O c a l i) a j = ent l a j := fun j => by rw [h2 a j, if_neg (fun h => h.2.1 rfl)]
    rw [clearTo]
    by_cases hc : i ≠ a ∧ ((clearTo O c a l i).getD i []).getD c 0 ≠ 0
    · rw [if_pos hc]
      have hc2 : ent l i c ≠ 0 := by rw [← e0]; exact hc.2
      obtain ⟨g1, g2⟩ := clear_step hO hR c (a := a) (i := i) (by rw [hl]; exact ha) (by rw [hl]; omega) hc.1
      refine ⟨g2.trans hO h1, fun k j => ?_⟩
      rw [show ((clearTo O c a l i).getD i []).getD c 0 = ent (clearTo O c a l i) i c from rfl, g1 k j]
      by_cases e : i = k
      · subst e
        rw [if_pos rfl, if_pos ⟨by omega, hc.1, hc2⟩, e0, e0, ea]
      · rw [if_neg e, h2 k j]
        by_cases hk : k < i ∧ k ≠ a ∧ ent l k c ≠ 0
        · rw [if_pos hk, if_pos ⟨by omega, hk.2⟩]
        · rw [if_neg hk, if_neg (fun h => hk ⟨by omega, h.2⟩)]
    · rw [if_neg hc]
      refine ⟨h1, fun k j => ?_⟩
      rw [h2 k j]
      by_cases e : i = k
      · subst e
        rw [if_neg (fun h => absurd h.1 (by omega)), if_neg (fun h => hc ⟨h.2.1, by rw [show ((clearTo O c a l i).getD i []).getD c 0 = ent (clearTo O c a l i) i c from rfl, e0]; exact h.2.2⟩)]
      · by_cases hk : k < i ∧ k ≠ a ∧ ent l k c ≠ 0
        · rw [if_pos hk, if_pos ⟨by omega, hk.2⟩]
        · rw [if_neg hk, if_neg (fun h => hk ⟨by omega, h.2⟩)]
end
end Go.Proofs.YtmejijekcfhonaaGreat

/- Reduced echelon form: what elimination ends in, its uniqueness, and words held against it. No program in sight. -/
namespace Go.Proofs.YtmejijekcfhonaaGreat

def pvt (p : List Int) (i : Nat) : Nat := (p.getD i 0).toNat
/-- the rows l are in reduced echelon form over the first c columns, with the pivots p -/
structure Ech (l : List (List Int)) (p : List Int) (c : Nat) : Prop where
  len : p.length ≤ l.length
  nn : ∀ i, i < p.length → p.getD i 0 = (pvt p i : Int)
  lt : ∀ i, i < p.length → pvt p i < c
  inc : ∀ i k, i < k → k < p.length → pvt p i < pvt p k
  one : ∀ i, i < p.length → ent l i (pvt p i) = 1
  off : ∀ i, i < p.length → ∀ k, k ≠ i → ent l k (pvt p i) = 0
  low : ∀ i, i < p.length → ∀ j, j < pvt p i → ent l i j = 0
  rest : ∀ k, p.length ≤ k → ∀ j, j < c → ent l k j = 0
theorem findK_spec (l : List (List Int)) (c n : Nat) : ∀ f k, k + f = n → (findK l c n f k = n ∧ ∀ i, k ≤ i → i < n → ent l i c = 0) ∨ (findK l c n f k < n ∧ k ≤ findK l c n f k ∧ ent l (findK l c n f k) c ≠ 0)
  | 0, k, h => .inl ⟨by unfold findK; omega, fun i h1 h2 => by omega⟩
  | f + 1, k, h => by
    unfold findK
    by_cases e : (l.getD k []).getD c 0 = 0
    · rw [if_pos e]
      rcases findK_spec l c n f (k + 1) (by omega) with ⟨h1, h2⟩ | ⟨h1, h2, h3⟩
      · refine .inl ⟨h1, fun i h4 h5 => ?_⟩
        by_cases ei : i = k
        · subst ei; exact e
        · exact h2 i (by omega) h5
      · exact .inr ⟨h1, by omega, h3⟩
    · rw [if_neg e]
      exact .inr ⟨by omega, Nat.le_refl _, e⟩
theorem pvt_snoc {p : List Int} {c i : Nat} : pvt (p ++ [(c : Int)]) i = if i < p.length then pvt p i else if i = p.length then c else 0 := by
  unfold pvt
  by_cases h : i < p.length
  · rw [if_pos h]; simp [List.getD, List.getElem?_append_left h]
  · rw [if_neg h]
    by_cases e : i = p.length
    · subst e; simp [List.getD]
    · rw [if_neg e]
      rw [List.getD_eq_getElem?_getD, List.getElem?_eq_none (by simp; omega)]; rfl
section
variable {O : FOps} {q : Int} (hO : O.Fld q)
include hO
/-- what one column of the elimination makes of the rows -/
theorem step_ech {n : Nat} {l : List (List Int)} {p : List Int} {c k : Nat} (h : Rows q n l) (he : Ech l p c) (ha : p.length < l.length) (hk1 : p.length ≤ k) (hk2 : k < l.length) (hk0 : ent l k c ≠ 0) :
    Ech (stepL O c l p.length k) (p ++ [(c : Int)]) (c + 1) ∧ Alike O (stepL O c l p.length k) l := by
  have hq := hO.lt.pos
  have hr := h.r (by omega)
  have hS := h.swap ha hk2
  have hSl := swapL_len l p.length k
  have hSr := hS.r (by omega)
  have hSA := swap_alike hO h ha hk2
  have eS := fun i j => ent_swap (l := l) ha hk2 i j
  have hsa : ∀ j, ent (swapL l p.length k) p.length j = ent l k j := fun j => by
    rw [eS]
    by_cases e : k = p.length
    · rw [if_pos e, e]
    · rw [if_neg e, if_pos rfl]
  have hM := Rows.monic hO.lt hS c (a := p.length) (by rw [hSl]; exact ha)
  have hMl := monicL_len O c p.length (swapL l p.length k)
  have hMr := hM.r (by omega)
  have hMA := monic_alike hO hS c (a := p.length) (by rw [hSl]; exact ha) (by rw [hsa]; exact hk0)
  have eM := fun i j => ent_monic hO c (a := p.length) (l := swapL l p.length k) (by rw [hSl]; exact ha) i j
  -- the pivot's row
  have hac : ent (monicL O c p.length (swapL l p.length k)) p.length c = 1 := by
    rw [eM, hsa]
    by_cases e : ent l k c = 1
    · rw [if_neg (fun h => h.2 e)]; exact e
    · rw [if_pos ⟨rfl, e⟩, hO.mul_comm]
      have := hr k c
      exact hO.mul_inv _ (by omega) this.2
  have hal : ∀ j, j < c → ent (monicL O c p.length (swapL l p.length k)) p.length j = 0 := fun j hj => by
    rw [eM, hsa, hsa, he.rest k hk1 j hj, hO.mul_zero]; split <;> rfl
  have hlow : ∀ i j, j < c → ent (monicL O c p.length (swapL l p.length k)) i j = ent l i j := fun i j hj => by
    by_cases e : p.length = i
    · subst e; rw [hal j hj, he.rest _ (Nat.le_refl _) j hj]
    · rw [eM, if_neg (fun h => e h.1), eS]
      by_cases e2 : k = i
      · subst e2; rw [if_pos rfl, he.rest _ (Nat.le_refl _) j hj, he.rest _ hk1 j hj]
      · rw [if_neg e2, if_neg e]
  have hML : (monicL O c p.length (swapL l p.length k)).length = l.length := by rw [hMl, hSl]
  obtain ⟨hCA, eC⟩ := clear_keep hO hM c (a := p.length) (by rw [hML]; exact ha) l.length (by rw [hML]; exact Nat.le_refl _)
  have hstep : stepL O c l p.length k = clearTo O c p.length (monicL O c p.length (swapL l p.length k)) l.length := rfl
  rw [← hstep] at hCA eC
  have el : ∀ i j, j < c → ent (stepL O c l p.length k) i j = ent l i j := fun i j hj => by
    rw [eC, hal j hj, hO.mul_zero, hO.add_zero _ (hMr i j).1 (hMr i j).2, hlow i j hj]
    split <;> rfl
  have ea : ∀ j, ent (stepL O c l p.length k) p.length j = ent (monicL O c p.length (swapL l p.length k)) p.length j := fun j => by rw [eC, if_neg (fun h => h.2.1 rfl)]
  have e0 : ∀ i, i ≠ p.length → ent (stepL O c l p.length k) i c = 0 := fun i hi => by
    rw [eC]
    by_cases e : ent (monicL O c p.length (swapL l p.length k)) i c = 0
    · rw [if_neg (fun h => h.2.2 e), e]
    · have hil : i < l.length := by
        refine Decidable.byContradiction fun hge => e ?_
        exact ent_ge (by rw [hML]; omega) c
      rw [if_pos ⟨hil, hi, e⟩, hac, hO.mul_one _ (hO.neg_lt _).1 (hO.neg_lt _).2, hO.add_neg]
  have hlen := stepL_len O c l p.length k
  refine ⟨⟨by rw [List.length_append, List.length_singleton, hlen]; omega, fun i hi => ?_, fun i hi => ?_, fun i i2 h1 h2 => ?_, fun i hi => ?_, fun i hi k' hne => ?_, fun i hi j hj => ?_, fun i hi j hj => ?_⟩, hCA.trans hO (hMA.trans hO hSA)⟩
  · rw [List.length_append, List.length_singleton] at hi
    rw [pvt_snoc]
    by_cases e : i < p.length
    · rw [if_pos e, ← he.nn i e]; simp [List.getD, List.getElem?_append_left e]
    · obtain rfl : i = p.length := by omega
      rw [if_neg e, if_pos rfl]; simp [List.getD]
  · rw [List.length_append, List.length_singleton] at hi
    rw [pvt_snoc]
    by_cases e : i < p.length
    · rw [if_pos e]; have := he.lt i e; omega
    · rw [if_neg e, if_pos (by omega)]; omega
  · rw [List.length_append, List.length_singleton] at h2
    rw [pvt_snoc, pvt_snoc, if_pos (by omega : i < p.length)]
    by_cases e : i2 < p.length
    · rw [if_pos e]; exact he.inc i i2 h1 e
    · rw [if_neg e, if_pos (by omega)]; exact he.lt i (by omega)
  · rw [List.length_append, List.length_singleton] at hi
    rw [pvt_snoc]
    by_cases e : i < p.length
    · rw [if_pos e, el i _ (he.lt i e), he.one i e]
    · obtain rfl : i = p.length := by omega
      rw [if_neg e, if_pos rfl, ea, hac]
  · rw [List.length_append, List.length_singleton] at hi
    rw [pvt_snoc]
    by_cases e : i < p.length
    · rw [if_pos e, el k' _ (he.lt i e), he.off i e k' hne]
    · obtain rfl : i = p.length := by omega
      rw [if_neg e, if_pos rfl, e0 k' hne]
  · rw [List.length_append, List.length_singleton] at hi
    rw [pvt_snoc] at hj
    by_cases e : i < p.length
    · rw [if_pos e] at hj
      rw [el i j (by have := he.lt i e; omega), he.low i e j hj]
    · obtain rfl : i = p.length := by omega
      rw [if_neg e, if_pos rfl] at hj
      rw [ea, hal j hj]
  · rw [List.length_append, List.length_singleton] at hi
    by_cases e : j < c
    · rw [el i j e, he.rest i (by omega) j e]
    · obtain rfl : j = c := by omega
      exact e0 i (by omega)
theorem elim_ech {n : Nat} {rows : List (List Int)} (h : Rows q n rows) : ∀ c, Ech (elimTo O rows c).1 (elimTo O rows c).2 c ∧ Alike O (elimTo O rows c).1 rows
  | 0 => ⟨⟨Nat.zero_le _, fun i hi => absurd hi (by simp [elimTo]), fun i hi => absurd hi (by simp [elimTo]), fun i k _ hi => absurd hi (by simp [elimTo]), fun i hi => absurd hi (by simp [elimTo]), fun i hi => absurd hi (by simp [elimTo]), fun i hi => absurd hi (by simp [elimTo]), fun k _ j hj => absurd hj (by omega)⟩, Alike.refl hO (h.r (by have := hO.lt.pos; omega))⟩
  | c + 1 => by
    obtain ⟨he, hA⟩ := elim_ech h c
    have hR := Rows.elim hO.lt h c
    have hpl := he.len
    rw [elimTo]
    by_cases hlt : (elimTo O rows c).2.length < (elimTo O rows c).1.length
    · rw [if_pos hlt]
      rcases findK_spec (elimTo O rows c).1 c (elimTo O rows c).1.length ((elimTo O rows c).1.length - (elimTo O rows c).2.length) (elimTo O rows c).2.length (by omega) with ⟨h1, h2⟩ | ⟨h1, h2, h3⟩
      · rw [if_pos h1]
        refine ⟨⟨he.len, he.nn, fun i hi => by have := he.lt i hi; omega, he.inc, he.one, he.off, he.low, fun k hk j hj => ?_⟩, hA⟩
        by_cases e : j < c
        · exact he.rest k hk j e
        · obtain rfl : j = c := by omega
          by_cases hkl : k < (elimTo O rows j).1.length
          · exact h2 k hk hkl
          · exact ent_ge (by omega) j
      · rw [if_neg (by omega)]
        obtain ⟨g1, g2⟩ := step_ech hO hR he hlt h2 h1 h3
        exact ⟨g1, g2.trans hO hA⟩
    · rw [if_neg hlt]
      refine ⟨⟨he.len, he.nn, fun i hi => by have := he.lt i hi; omega, he.inc, he.one, he.off, he.low, fun k hk j hj => ?_⟩, hA⟩
      exact ent_ge (by omega) j

/-- rows in reduced echelon form, without zero rows -/
structure Rref (O : FOps) (q : Int) (n : Nat) (A : List (List Int)) (p : List Int) : Prop where
  rows : Rows q n A
  len : p.length = A.length
  nn : ∀ i, i < A.length → p.getD i 0 = (pvt p i : Int)
  lt : ∀ i, i < A.length → pvt p i < n
  inc : ∀ i k, i < k → k < A.length → pvt p i < pvt p k
  one : ∀ i, i < A.length → ent A i (pvt p i) = 1
  off : ∀ i, i < A.length → ∀ k, k ≠ i → ent A k (pvt p i) = 0
  low : ∀ i, i < A.length → ∀ j, j < pvt p i → ent A i j = 0
omit hO in
theorem ent_take {l : List (List Int)} {r i : Nat} (h : i < r) (j : Nat) : ent (l.take r) i j = ent l i j := by
  unfold ent; congr 1; simp [List.getD, List.getElem?_take, h]
theorem canon_rref {n : Nat} {rows : List (List Int)} (h : Rows q n rows) : Rref O q n (canonL O rows n) (pivL O rows n) ∧ Alike O (canonL O rows n) rows := by
  obtain ⟨he, hA⟩ := elim_ech hO h n
  have hR := Rows.elim hO.lt h n
  have hq := hO.lt.pos
  have hl : (canonL O rows n).length = (elimTo O rows n).2.length := by unfold canonL; rw [List.length_take]; have := he.len; omega
  have eC : ∀ i j, i < (elimTo O rows n).2.length → ent (canonL O rows n) i j = ent (elimTo O rows n).1 i j := fun i j hi => ent_take hi j
  have eZ : ∀ i j, (elimTo O rows n).2.length ≤ i → ent (elimTo O rows n).1 i j = 0 := fun i j hi => by
    by_cases hj : j < n
    · exact he.rest i hi j hj
    · exact ent_wide hR (by omega)
  have hRC : Rows q n (canonL O rows n) := fun k hk => by
    rw [hl] at hk
    have e : (canonL O rows n).getD k [] = (elimTo O rows n).1.getD k [] := by unfold canonL; simp [List.getD, List.getElem?_take, hk]
    rw [e]; exact hR k (by have := he.len; omega)
  refine ⟨⟨hRC, hl.symm, fun i hi => he.nn i (by omega), fun i hi => he.lt i (by omega), fun i k h1 h2 => he.inc i k h1 (by omega), fun i hi => ?_, fun i hi k hne => ?_, fun i hi j hj => ?_⟩, Alike.trans hO ⟨fun i hi => ?_, fun i hi => ?_⟩ hA⟩
  · rw [eC _ _ (by omega)]; exact he.one i (by omega)
  · by_cases hk : k < (elimTo O rows n).2.length
    · rw [eC _ _ hk]; exact he.off i (by omega) k hne
    · exact ent_ge (by omega) _
  · rw [eC _ _ (by omega)]; exact he.low i (by omega) j hj
  · exact (Span.row hO (by have := he.len; omega) (hR.r (by omega) i)).congr fun j => eC i j (by omega)
  · by_cases hk : i < (elimTo O rows n).2.length
    · exact (Span.row hO (by omega) (hRC.r (by omega) i)).congr fun j => (eC i j hk).symm
    · exact (Span.zero hO _).congr fun j => eZ i j (by omega)

section
variable {n : Nat} {A : List (List Int)} {p : List Int} (hA : Rref O q n A p)
include hA
theorem Rref.r : RowsR q A := hA.rows.r (by have := hO.lt.pos; omega)
/-- at a pivot a combination is its coefficient -/
theorem Rref.coef {a : Nat → Int} {i : Nat} (hi : i < A.length) (ha : 0 ≤ a i ∧ a i < q) : sumTo O (fun k => O.mul (a k) (ent A k (pvt p i))) A.length = a i := by
  have e : O.mul (a i) (ent A i (pvt p i)) = a i := by rw [hA.one i hi, hO.mul_one _ ha.1 ha.2]
  rw [sumTo_single hO (k := i) (by rw [e]; exact ha) hi (fun k _ hne => by rw [hA.off i hi k hne, hO.mul_zero]), e]
/-- a word lies in the span just if it is the combination that its entries at the pivots give -/
theorem Rref.mem {x : Nat → Int} : Span O A x ↔ ∀ j, x j = sumTo O (fun i => O.mul (x (pvt p i)) (ent A i j)) A.length := by
  constructor
  · rintro ⟨a, ha⟩ j
    rw [ha j]
    refine sumTo_congr fun i hi => ?_
    -- the coefficient counts only as an element
    have h1 : x (pvt p i) = O.mul (a i) 1 := by
      rw [ha]
      have e : O.mul (a i) (ent A i (pvt p i)) = O.mul (a i) 1 := by rw [hA.one i hi]
      rw [sumTo_single hO (k := i) (hO.lt.mul _ _) hi (fun k _ hne => by rw [hA.off i hi k hne, hO.mul_zero]), e]
    rw [h1, hO.mul_assoc, hO.one_mul (hA.r hO i j).1 (hA.r hO i j).2]
  · intro h
    exact ⟨fun i => x (pvt p i), h⟩
omit hO in
theorem Rref.first {i : Nat} (hi : i < A.length) (hq : 0 < q) : (A.getD i []).length = n ∧ (∀ j, j < pvt p i → (A.getD i []).getD j 0 = 0) ∧ (A.getD i []).getD (pvt p i) 0 = 1 ∧ pvt p i < n :=
  ⟨(hA.rows i hi).1, hA.low i hi, hA.one i hi, hA.lt i hi⟩
/-- the first entry of a word of the span that is not 0 stands at a pivot -/
theorem Rref.lead {x : Nat → Int} (hx : Span O A x) {k : Nat} (h0 : ∀ j, j < k → x j = 0) (hk : x k ≠ 0) : ∃ i, i < A.length ∧ pvt p i = k := by
  refine Decidable.byContradiction fun hno => hk ?_
  rw [(hA.mem hO).1 hx k]
  refine sumTo_zero hO fun i hi => ?_
  by_cases hlt : pvt p i < k
  · rw [h0 _ hlt, hO.zero_mul]
  · have hne : pvt p i ≠ k := fun e => hno ⟨i, hi, e⟩
    rw [hA.low i hi k (by omega), hO.mul_zero]
end
/-- two lists of numbers that rise and hold the same numbers are one -/
theorem rref_unique {n : Nat} {A B : List (List Int)} {p p' : List Int} (hA : Rref O q n A p) (hB : Rref O q n B p') (h : Alike O A B) : A = B := by
  have key : ∀ {A B : List (List Int)} {p p' : List Int}, Rref O q n A p → Rref O q n B p' → Inside O A B → ∀ i, i < A.length → ∃ k, k < B.length ∧ pvt p' k = pvt p i := by
    intro A B p p' hA hB hI i hi
    exact hB.lead hO (hI i hi) (fun j hj => hA.low i hi j hj) (by rw [hA.one i hi]; decide)
  have k1 := key hA hB h.1
  have k2 := key hB hA h.2
  have inj : ∀ {A : List (List Int)} {p : List Int}, Rref O q n A p → ∀ i k, i < A.length → k < A.length → pvt p i = pvt p k → i = k := by
    intro A p hA i k hi hk e
    rcases Nat.lt_trichotomy i k with hl | hl | hl
    · have := hA.inc i k hl hk; omega
    · exact hl
    · have := hA.inc k i hl hi; omega
  have order : ∀ {A B : List (List Int)} {p p' : List Int}, Rref O q n A p → Rref O q n B p' → (∀ i, i < A.length → ∃ k, k < B.length ∧ pvt p' k = pvt p i) → (∀ i, i < B.length → ∃ k, k < A.length ∧ pvt p k = pvt p' i) → ∀ i, i < A.length → i < B.length ∧ pvt p' i = pvt p i := by
    intro A B p p' hA hB k1 k2 i
    induction i using Nat.strongRecOn with
    | ind i ih =>
      intro hi
      obtain ⟨k, hk, e⟩ := k1 i hi
      have hik : i ≤ k := by
        refine Decidable.byContradiction fun hlt => ?_
        obtain ⟨_, e2⟩ := ih k (by omega) (by omega)
        have := inj hA k i (by omega) hi (by omega)
        omega
      by_cases hk2 : i = k
      · subst hk2; exact ⟨hk, e⟩
      · exfalso
        have hiB : i < B.length := by omega
        have hlt := hB.inc i k (by omega) hk
        obtain ⟨m, hm, e3⟩ := k2 i hiB
        have hmi : m < i := by
          refine Decidable.byContradiction fun hge => ?_
          by_cases e4 : m = i
          · subst e4; omega
          · have := hA.inc i m (by omega) hm; omega
        obtain ⟨_, e5⟩ := ih m hmi hm
        have := hB.inc m i hmi hiB
        omega
  have o1 := order hA hB k1 k2
  have hle : A.length ≤ B.length := by
    refine Decidable.byContradiction fun hlt => ?_
    have := o1 B.length (by omega); omega
  have o2 := order hB hA k2 k1
  have hle2 : B.length ≤ A.length := by
    refine Decidable.byContradiction fun hlt => ?_
    have := o2 A.length (by omega); omega
  have hl : A.length = B.length := by omega
  have hent : ∀ i, i < A.length → ∀ j, ent A i j = ent B i j := by
    intro i hi j
    rw [(hB.mem hO).1 (h.1 i hi) j]
    have e : O.mul (ent A i (pvt p' i)) (ent B i j) = ent B i j := by rw [(o1 i hi).2, hA.one i hi, hO.one_mul (hB.r hO i j).1 (hB.r hO i j).2]
    rw [sumTo_single hO (k := i) (by rw [e]; exact hB.r hO i j) (by omega) (fun k hk hne => by rw [(o1 k (by omega)).2, hA.off k (by omega) i (fun e => hne e.symm), hO.zero_mul]), e]
  refine List.ext_getElem hl fun i h1 h2 => ?_
  have e1 := (hA.rows i h1).1
  have e2 := (hB.rows i h2).1
  have hen := hent i h1
  unfold ent at hen
  simp only [List.getD_eq_getElem?_getD (l := A), List.getD_eq_getElem?_getD (l := B), List.getElem?_eq_getElem h1, List.getElem?_eq_getElem h2, Option.getD_some] at e1 e2 hen
  refine List.ext_getElem (by omega) fun j h3 h4 => ?_
  have := hen j
  simpa [List.getD, h3, h4] using this
theorem canon_eq {n : Nat} {A B : List (List Int)} (hA : Rows q n A) (hB : Rows q n B) (h : Alike O A B) : canonL O A n = canonL O B n := by
  obtain ⟨h1, h2⟩ := canon_rref hO hA
  obtain ⟨h3, h4⟩ := canon_rref hO hB
  exact rref_unique hO h1 h3 (h2.trans hO (h.trans hO ⟨h4.2, h4.1⟩))
theorem canon_self {n : Nat} {A : List (List Int)} {p : List Int} (hA : Rref O q n A p) : canonL O A n = A := by
  obtain ⟨h1, h2⟩ := canon_rref hO hA.rows
  exact rref_unique hO h1 hA h2
end
end Go.Proofs.YtmejijekcfhonaaGreat
