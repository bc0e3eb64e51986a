/- Texts of a claim, merged: words, plain facts and walks that the last of its texts uses. -/
import Derived.Test.YtodgdoglhecolaaGreatZA1
import Derived.Test.YtodgdoglhecolaaGreatZA2
import Derived.IntWalk
import Derived.Laws.CopyOwn
set_option linter.unusedSimpArgs false
set_option linter.unusedVariables false

namespace Go.Proofs.YtodgdoglhecolaaGreat
open Go.RowKit
def Sep (B : Nat) (w : World) (Φ : World → Prop) : Prop := ∀ w2 : World, (∀ p : Addr, B ≤ p.block → p.block < w.heap.size → w2.cell? p = w.cell? p) → Φ w2
section
variable {B B' : Nat} {w w' : World} {Φ Ψ : World → Prop}
theorem Sep.out (h : Sep B w Φ) : Φ w := h w fun _ _ _ => rfl
theorem Sep.mono (h : Sep B w Φ) (hB : B' ≤ B) : Sep B' w Φ := fun w2 h2 => h w2 fun p h3 h4 => h2 p (by omega) h4
theorem Sep.of (h : Sep B w Φ) (hs : w.heap.size ≤ w'.heap.size) (hc : ∀ p : Addr, B ≤ p.block → p.block < w.heap.size → w'.cell? p = w.cell? p) : Sep B w' Φ := fun w2 h2 =>
 h w2 fun p h3 h4 => (h2 p h3 (Nat.lt_of_lt_of_le h4 hs)).trans (hc p h3 h4)
theorem Sep.on (h : Sep B w Φ) (hb : Below w.heap.size w w') : Sep B w' Φ := h.of hb.size fun p _ h4 => hb.cell h4
theorem Sep.grown {row : Option Nat} (h : Sep B w Φ) (hg : w.grownBy w' row) (hr : ∀ g, row = some g → g < B) : Sep B w' Φ := h.of hg.size fun p h3 h4 =>
 World.cell?_of_block (hg.block _ h4 fun e => by have := hr _ e.symm; omega)
theorem Sep.imp (h : Sep B w Φ) (k : ∀ w2, Φ w2 → Ψ w2) : Sep B w Ψ := fun w2 h2 => k w2 (h w2 h2)
theorem Sep.and (h : Sep B w Φ) (k : Sep B w Ψ) : Sep B w fun w2 => Φ w2 ∧ Ψ w2 := fun w2 h2 => ⟨h w2 h2, k w2 h2⟩
end
theorem SI.wfs {w : World} {v : Value} {xs : List Int} (h : SI w v xs) (k : Nat) : I64 (xs.getD k 0) := by obtain ⟨_, _, _, h⟩ := h; exact h.wf k
theorem SI.len' {w : World} {v : Value} {xs : List Int} (h : SI w v xs) : xs.length ≤ 17592186044416 := by obtain ⟨_, _, _, h⟩ := h; exact h.len
theorem SS.len' {w : World} {v : Value} {xs : List (List Int)} (h : SS w v xs) : xs.length ≤ 17592186044416 := by obtain ⟨_, _, _, h⟩ := h; exact h.len
theorem SI.moved {w w' : World} {v : Value} {xs : List Int} (h : SI w v xs) (hc : ∀ p : Addr, v.ownBlock = some p.block → p.block < w.heap.size → w'.cell? p = w.cell? p) : SI w' v xs := by
 obtain ⟨A, c, rfl, h⟩ := h
 refine ⟨A, c, rfl, h.len, h.cap, fun k hk => ?_, h.wf⟩
 obtain ⟨ad, e, hcl⟩ := h.cell k hk
 refine ⟨ad, e, ?_⟩
 subst e
 rw [hc (ad.add k) (by rw [block_of_add]; rfl) (World.block_lt_of_cell? _ _ hcl)]
 exact hcl
theorem SI.sep {B : Nat} {w : World} {v : Value} {xs : List Int} (h : SI w v xs) (hn : 0 < xs.length → ∀ g, v.ownBlock = some g → B ≤ g) : Sep B w fun w2 => SI w2 v xs := fun w2 h2 => by
 by_cases h0 : 0 < xs.length
 ·exact h.moved fun p hp hl => h2 p (hn h0 _ hp) hl
 ·obtain ⟨A, c, rfl, h⟩ := h
  exact ⟨A, c, rfl, h.len, h.cap, fun k hk => absurd hk (by omega), h.wf⟩
theorem OI.sep {B : Nat} {w : World} {v : Value} {xs : List Int} (h : OI B w v xs) (hl : xs.length ≤ 17592186044416) (hw : ∀ k, I64 (xs.getD k 0)) : Sep B w fun w2 => SI w2 v xs :=
 (h.si hl hw).sep fun _ g hg => (h.lt hg).1
theorem SI.nilSep (B : Nat) (w : World) : Sep B w fun w2 => SI w2 (.slice none 0 0) [] := fun w2 _ => SI.none_ w2
theorem SS.nilSep (B : Nat) (w : World) : Sep B w fun w2 => SS w2 (.slice none 0 0) [] := fun w2 _ => SS.none_ w2
theorem OS.sep {B : Nat} {X : Nat → Prop} {w : World} {v : Value} {l : List (List Int)} (h : OS B X w v l) (hX : ∀ g, g < B → X g) (hl : l.length ≤ 17592186044416) : Sep B w fun w2 => SS w2 v l := fun w2 h2 => by
 obtain ⟨us, ho, hi⟩ := h
 have hc := ho.2
 rcases hc with ⟨rfl, h0⟩ | ⟨g, cap, cur, rfl, hB, hg, hn, _, _, _⟩
 ·obtain rfl : l = [] := List.eq_nil_of_length_eq_zero h0
  exact SS.none_ w2
 ·have hgl := (Array.getElem?_eq_some_iff.1 hg).1
  refine ⟨some ⟨g, 0, none⟩, cap, rfl, hl, hn, fun k hk => ?_⟩
  obtain ⟨u, hu, hs, hx⟩ := hi k hk
  refine ⟨_, u, rfl, ?_, (hs.sep (B := B) fun h0 g' hg' => ?_) w2 h2⟩
  ·rw [h2 _ (by rw [block_of_add]; exact hB) (by rw [block_of_add]; exact hgl)]
   exact World.ownsRow.cells ho (g := g) rfl k u hu
  ·refine Decidable.byContradiction fun hlt => (hx h0 g' hg').2 (hX g' (by omega))
set_option maxRecDepth 100000
theorem sizeInt : (Tryz.prog.info? 3).map (·.size) = some 1 := by
 obtain ⟨i, hi, hz⟩ := Option.map_eq_some_iff.1 Tryz.infoInt
 simp only [Prod.mk.injEq] at hz
 rw [hi]; simp [hz.2.1]
theorem shift_splice {o : List Int} {N e : Nat} (hl : o.length = N) (he : e + 1 = N) : splice (o.map (Value.int .i64)) 1 ((o.take e).map (Value.int .i64)) = (o.take 1 ++ o.take e).map (Value.int .i64) := by
 unfold splice
 rw [List.map_append, List.map_take (l := o) (i := 1)]
 congr 1
 rw [List.drop_eq_nil_of_le (by simp; omega), List.append_nil]
theorem shift_set {o : List Int} {N e : Nat} (hl : o.length = N) (he : e + 1 = N) : (o.take 1 ++ o.take e).set 0 0 = shiftF N o := by
 refine List.ext_getElem (by simp [shiftF]; omega) fun i h1 h2 => ?_
 simp only [List.length_set, List.length_append, List.length_take] at h1
 by_cases h : i = 0
 ·subst h; simp [shiftF]
 ·obtain ⟨j, rfl⟩ : ∃ j, i = j + 1 := ⟨i - 1, by omega⟩
  rw [List.getElem_set_ne (by omega), List.getElem_append_right (by simp; omega)]
  have hj : j < o.length := by omega
  simp [shiftF, List.getD, hj, show min 1 o.length = 1 by omega]
set_option maxHeartbeats 8000000 in
theorem multiply_any (w : World) (P M x y : Int) (mv : Value) (Mod : List Int) (h : SI w mv Mod) (hs : ShapeP P M Mod) (hx0 : 0 ≤ x) (hx1 : x < orderF P M) (hy0 : 0 ≤ y) (hy1 : y < orderF P M) :
   Calls Tryz.prog 146 #[.agg #[.int .i64 P, .int .i64 M, mv], .int .i64 x, .int .i64 y] w (RetI w (mulF P M Mod x y)) := by
 obtain ⟨hP2, hP3, hM1, hM8, hq, hqq⟩ := order_ne hs.1
 have hx2 : x ≤ 256 := by omega
 have hy2 : y ≤ 256 := by omega
 have HS := Lib.hid hs; clear hs
 have HQ := Lib.hid hq; clear hq
 clear hqq hx1 hy1
 have HM0 := Lib.hid h; clear h
 obtain ⟨N, hN⟩ : ∃ N : Nat, (N : Int) = M := ⟨M.toNat, by omega⟩
 have hNt : M.toNat = N := by omega
 have HMF : Hid (mulF P M Mod x y = valueF P (mulL P (lowF M Mod) (digitsF x P N) N (digitsF y P N))) := by
   have : mulF P M Mod x y = valueF P (mulL P (lowF M Mod) (digitsF x P N) N (digitsF y P N)) := by unfold mulF; rw [hNt]
   exact this
 have HPN : Hid (P ^ N ≤ 256) := by rw [← hNt]; exact HQ
 subst hN
 have hN1 : 1 ≤ N := by omega
 have hN8 : N ≤ 8 := by omega
 have HF := Lib.hid (FBox.mk' w P N mv)
 obtain ⟨A, hA⟩ : ∃ A, A = digitsF x P N := ⟨_, rfl⟩
 obtain ⟨B, hB⟩ : ∃ B, B = digitsF y P N := ⟨_, rfl⟩
 rw [← hA, ← hB] at HMF
 have HA := Lib.hid hA; have HB := Lib.hid hB; clear hA hB hNt
 have HAL : Hid (A.length = N) := by show _ = _; rw [HA.out, digitsF_len]
 have HBL : Hid (B.length = N) := by show _ = _; rw [HB.out, digitsF_len]
 have HAR : Hid (Rng P A) := fun k => by rw [HA.out]; exact digitsF_range hP2 k
 have HBR : Hid (Rng P B) := fun k => by rw [HB.out]; exact digitsF_range hP2 k
 have hmk := fun (w : World) => run_mkI N (by omega) w
 go_enter Tryz.func146, Tryz.ntmps146
 go_wp2_with fail
 obtain ⟨w0, hw0⟩ : ∃ w0, w0 = w.alloc (.cells #[.int .i64 P, .int .i64 (N : Int), mv] 24) := ⟨_, rfl⟩
 rw [← hw0] at HF ⊢
 clear hw0
 have c0 := HF.out.c0; have c1 := HF.out.c1; have c2 := HF.out.c2
 refine Kept.start (S := fun w' => w'.cell? ⟨w.heap.size, 0, none⟩ = some (.int .i64 P) ∧ w'.cell? ⟨w.heap.size, 1, none⟩ = some (.int .i64 (N : Int)) ∧ w'.cell? ⟨w.heap.size, 2, none⟩ = some mv) (by kernel_rfl) (⟨c0, c1, c2⟩) (fun hHeld => ?_)
 change Kept _ _ _ _ 14 _ _ _
 refine Kept.tk 0 (v := ?_) rfl ?_ hHeld ?_
 rotate_left
 · intro w' h; (try dsimp only at h); go_simp <;> with_reducible rfl
 try simp only [tda, tdb, tdc, Act.put, tdd, tde, tdf]
 refine Kept.tk 1 (v := ?_) rfl ?_ hHeld ?_
 rotate_left
 · intro w' h; (try dsimp only at h); go_simp <;> with_reducible rfl
 try simp only [tda, tdb, tdc, Act.put, tdd, tde, tdf]
 refine Kept.tk 2 (v := ?_) rfl ?_ hHeld ?_
 rotate_left
 · intro w' h; (try dsimp only at h); go_simp <;> with_reducible rfl
 try simp only [tda, tdb, tdc, Act.put, tdd, tde, tdf]
 refine Kept.tk 3 (v := ?_) rfl ?_ hHeld ?_
 rotate_left
 · intro w' h; (try dsimp only at h); go_simp <;> with_reducible rfl
 try simp only [tda, tdb, tdc, Act.put, tdd, tde, tdf]
 refine Kept.tk 4 (v := ?_) rfl ?_ hHeld ?_
 rotate_left
 · intro w' h; (try dsimp only at h); go_simp <;> with_reducible rfl
 try simp only [tda, tdb, tdc, Act.put, tdd, tde, tdf]
 refine Kept.tk 6 (v := ?_) rfl ?_ hHeld ?_
 rotate_left
 · intro w' h; (try dsimp only at h); go_simp <;> with_reducible rfl
 try simp only [tda, tdb, tdc, Act.put, tdd, tde, tdf]
 refine Kept.tk 7 (v := ?_) rfl ?_ hHeld ?_
 rotate_left
 · intro w' h; (try dsimp only at h); go_simp <;> with_reducible rfl
 try simp only [tda, tdb, tdc, Act.put, tdd, tde, tdf]
 refine Kept.tk 8 (v := ?_) rfl ?_ hHeld ?_
 rotate_left
 · intro w' h; (try dsimp only at h); go_simp <;> with_reducible rfl
 try simp only [tda, tdb, tdc, Act.put, tdd, tde, tdf]
 refine Kept.tk 9 (v := ?_) rfl ?_ hHeld ?_
 rotate_left
 · intro w' h; (try dsimp only at h); go_simp <;> with_reducible rfl
 try simp only [tda, tdb, tdc, Act.put, tdd, tde, tdf]
 refine Kept.tk 10 (v := ?_) rfl ?_ hHeld ?_
 rotate_left
 · intro w' h; (try dsimp only at h); go_simp <;> with_reducible rfl
 try simp only [tda, tdb, tdc, Act.put, tdd, tde, tdf]
 refine Kept.only (i := 5) (by kernel_rfl) rfl (fun K hK => ?_)
 go_simp
 refine (digitsOf_any _ x P (N : Int) hx0 hx2 hP2 (by omega) hM8).mono ?_; rintro e w1 ⟨u1, rfl, ho1, hb1⟩; rw [Int.toNat_natCast, ← HA.out] at ho1; obtain ⟨A1, k1, rfl⟩ := ho1.form'; have HF1 := Lib.hid (HF.out.drew.on hb1); have HO1 := Lib.hid ho1; clear ho1 hb1; have e0 := HF1.out.c0; have e1 := HF1.out.c1; have e2 := HF1.out.c2
 refine hK.out _ _ (⟨e0, e1, e2⟩) (fun hHeld2 => ?_)
 clear hK K
 replace hHeld := hHeld2
 clear hHeld2
 try simp only [tda, tdb, tdc, Act.put, tdd, tde, tdf]
 refine Kept.only (i := 11) (by kernel_rfl) rfl (fun K hK => ?_)
 go_simp
 refine (digitsOf_any _ y P (N : Int) hy0 hy2 hP2 (by omega) hM8).mono ?_; rintro e w2 ⟨u2, rfl, ho2, hb2⟩; rw [Int.toNat_natCast, ← HB.out] at ho2; obtain ⟨A2, k2, rfl⟩ := ho2.form'; have HF2 := Lib.hid (HF1.out.on hb2); have HO12 := Lib.hid (HO1.out.below hb2 (Nat.le_refl _)); have HO2 := Lib.hid ho2; clear ho2 hb2; have g0 := HF2.out.c0; have g1 := HF2.out.c1; have g2 := HF2.out.c2
 refine hK.out _ _ (⟨g0, g1, g2⟩) (fun hHeld2 => ?_)
 clear hK K
 replace hHeld := hHeld2
 clear hHeld2
 try simp only [tda, tdb, tdc, Act.put, tdd, tde, tdf]
 refine Kept.tk 12 (v := ?_) rfl ?_ hHeld ?_
 rotate_left
 · intro w' h; (try dsimp only at h); go_simp <;> with_reducible rfl
 try simp only [tda, tdb, tdc, Act.put, tdd, tde, tdf]
 refine Kept.only (i := 13) (by kernel_rfl) rfl (fun K hK => ?_)
 go_simp
 refine hK.out _ _ hHeld (fun hHeld2 => ?_)
 clear hK K
 clear hHeld2
 refine Kept.done (by kernel_rfl) ?_
 try simp only [tda, tdb, tdc, Act.put, tdd, tde, tdf]
 clear hHeld
 clear c0 c1 c2 e0 e1 e2
 rw [HAL.out] at HO12 ⊢
 rw [HBL.out] at HO2 ⊢
 have hlt2 := HF2.out.lt
 have hne2 : ¬ w.heap.size = w2.heap.size := by omega
 go_wp2_with fail
 clear hmk hlt2 hne2
 have HSA := Lib.hid (HO12.out.si (by rw [HAL.out]; omega) (HAR.out.I hP3))
 have HSB := Lib.hid (HO2.out.si (by rw [HBL.out]; omega) (HBR.out.I hP3))
 have HC0 := Lib.hid (RI.made w2 N)
 have HB0 := Lib.hid (bl_alloc w2 (.cells (madeCells #[.int .i64 0] N) 3))
 have HC1 : Hid (RI (w2.alloc (.cells (madeCells #[.int .i64 0] N) 3)) w2.heap.size (mulL P (lowF N Mod) A N (B.drop N))) := by
   rw [show B.drop N = [] by rw [← HBL.out]; exact List.drop_length]
   exact HC0
 obtain ⟨C, hC⟩ : ∃ C, C = w2.heap.size := ⟨_, rfl⟩
 have hwC : w.heap.size < C := by have := HF2.out.lt; omega
 rw [← hC] at HC1 ⊢
 have HCE := Lib.hid hC; clear hC HC0 g0 g1 g2
 go_loopw [10] (fun i wr => ∃ k : Nat, k ≤ N ∧ i = .int .i64 ((k : Int) - 1) ∧ Hid (RI wr C (mulL P (lowF N Mod) A N (B.drop k))) ∧ Hid (Below w2.heap.size w2 wr)) (fun i _ => (intOf i + 1).toNat)
 case atStart => exact ⟨N, Nat.le_refl _, rfl, HC1, HB0⟩
 case round =>
   clear HC1 HB0
   obtain ⟨k, hk, rfl, HR, HW⟩ := hrel
   have HFR := Lib.hid (HF2.out.on HW.out)
   have c0 := HFR.out.c0; have c1 := HFR.out.c1; have c2 := HFR.out.c2
   by_cases hk0 : 0 < k
   · obtain ⟨m, rfl⟩ : ∃ m, k = m + 1 := ⟨k - 1, by omega⟩
     have hm : m < N := by omega
     rw [show (((m + 1 : Nat) : Int) - 1) = (m : Int) by omega]
     obtain ⟨e, he⟩ : ∃ e : Nat, (N : Int) - 1 = (e : Int) := ⟨N - 1, by omega⟩
     have heN : e < N := by omega
     obtain ⟨o, ho⟩ : ∃ o, o = mulL P (lowF N Mod) A N (B.drop (m + 1)) := ⟨_, rfl⟩
     rw [← ho] at HR
     have HOE := Lib.hid ho; clear ho
     have HOL : Hid (o.length = N) := by show _ = _; rw [HOE.out]; exact mulL_len _ _ _ _ _
     have HOR : Hid (Rng P o) := fun j => by rw [HOE.out]; exact mulL_range hP2 _ j
     have ht := HR.out.cell e (by rw [HOL.out]; exact heN)
     obtain ⟨tp, htp⟩ : ∃ tp, tp = o.getD e 0 := ⟨_, rfl⟩
     rw [← htp] at ht
     have HTP := Lib.hid htp; clear htp
     have hN1i : (1 : Int) ≤ (N : Int) := hM1
     have hei : (e : Int) ≤ (N : Int) := by omega
     have hei0 : (0 : Int) ≤ (e : Int) := by omega
     have hneg : (0 : Int) ≤ (m : Int) := by omega
     go_wp2_with fail
     have hwe : IntKind.i64.wrap (e : Int) = (e : Int) := IntWalk.i64_in _ (by omega)
     have HSP := Lib.hid (shift_splice HOL.out (show e + 1 = N by omega))
     have HCP : Hid (0 < ((o.take e).map (Value.int .i64)).length → (if N = 1 then some (⟨C, 0, none⟩ : Addr) else some ⟨C, 1, none⟩) = some ⟨C, 1, none⟩ ∧ ∃ ad, (some (⟨C, 0, none⟩ : Addr)) = some ad ∧ ∀ (j : Nat) (v : Value), ((o.take e).map (Value.int .i64))[j]? = some v → wr.drew.cell? (ad.add j) = some v) := by
       intro hpos
       have hol := HOL.out
       simp only [List.length_map, List.length_take] at hpos
       refine ⟨by rw [if_neg (by omega)], _, rfl, fun j v hv => ?_⟩
       by_cases hj : j < e
       · have hv2 : v = .int .i64 (o.getD j 0) := by
           have h1 : j < o.length := by omega
           simp [List.getElem?_take, hj, h1] at hv
           rw [← hv]; simp [List.getD, h1]
         rw [hv2]
         have := HR.out.cell j (by omega)
         have e2 : (⟨C, 0, none⟩ : Addr).add j = ⟨C, j, none⟩ := by
           unfold Addr.add
           by_cases h0 : j = 0 <;> simp [h0]
         rw [e2]; exact this
       · simp [List.getElem?_take, hj] at hv
     refine Kept.start (S := fun w' => w'.cell? ⟨w.heap.size, 0, none⟩ = some (.int .i64 P) ∧ w'.cell? ⟨w.heap.size, 1, none⟩ = some (.int .i64 (N : Int)) ∧ w'.cell? ⟨w.heap.size, 2, none⟩ = some mv) (by kernel_rfl) (⟨c0, c1, c2⟩) (fun hHeld => ?_)
     change Kept _ _ _ _ 8 _ _ _
     refine Kept.tk 0 (v := ?_) rfl ?_ hHeld ?_
     rotate_left
     · intro w' h; (try dsimp only at h); go_simp <;> with_reducible rfl
     try simp only [tda, tdb, tdc, Act.put, tdd, tde, tdf]
     refine Kept.tk 1 (v := ?_) rfl ?_ hHeld ?_
     rotate_left
     · intro w' h; (try dsimp only at h); go_simp <;> with_reducible rfl
     try simp only [tda, tdb, tdc, Act.put, tdd, tde, tdf]
     refine Kept.tk 2 (v := ?_) rfl ?_ hHeld ?_
     rotate_left
     · intro w' h; (try dsimp only at h); go_simp <;> with_reducible rfl
     try simp only [tda, tdb, tdc, Act.put, tdd, tde, tdf]
     refine Kept.tk 3 (v := ?_) rfl ?_ hHeld ?_
     rotate_left
     · intro w' h; (try dsimp only at h); go_simp <;> with_reducible rfl
     try simp only [tda, tdb, tdc, Act.put, tdd, tde, tdf]
     refine Kept.tk 4 (v := ?_) rfl ?_ hHeld ?_
     rotate_left
     · intro w' h; (try dsimp only at h); go_simp <;> with_reducible rfl
     try simp only [tda, tdb, tdc, Act.put, tdd, tde, tdf]
     refine Kept.tk 5 (v := ?_) rfl ?_ hHeld ?_
     rotate_left
     · intro w' h; (try dsimp only at h); go_simp <;> with_reducible rfl
     try simp only [tda, tdb, tdc, Act.put, tdd, tde, tdf]
     refine Kept.tk 6 (v := ?_) rfl ?_ hHeld ?_
     rotate_left
     · intro w' h; (try dsimp only at h); go_simp <;> with_reducible rfl
     try simp only [tda, tdb, tdc, Act.put, tdd, tde, tdf]
     refine Kept.only (i := 7) (o := ?op1) (by kernel_rfl) ?ho1 (fun K hK => ?_)
     case ho1 => (conv => lhs; simp only [tdg, tdh, tdi])
     refine step_copy_splice (by kernel_rfl) (.tmp 43) (.tmp 48) 22 22 (by kernel_rfl) 3 Tryz.underlying22 sizeInt (if N = 1 then some ⟨C, 0, none⟩ else some ⟨C, 1, none⟩) (some ⟨C, 0, none⟩) (N - 1) (N - 1) e N (by kernel_rfl) (by kernel_rfl) C 1 (o.map (Value.int .i64)) 3 HR.out ((o.take e).map (Value.int .i64)) (by rw [List.length_map, List.length_take, HOL.out]; show min e N = min e (N - 1); omega) HCP.out (by rw [List.length_map, List.length_map, List.length_take, HOL.out]; omega) (fun v hv => by obtain ⟨z, _, rfl⟩ := List.mem_map.1 hv; rfl) w2.heap.size w2 HW.out.drew (by rw [HCE.out]; exact Nat.le_refl _) ?_; intro w4 hg4 hb4; have HR4 : Hid (RI w4 C (o.take 1 ++ o.take e)) := hid' (show w4.heap[C]? = some (.cells ((o.take 1 ++ o.take e).map (Value.int .i64)).toArray 3 (0, 0)) from HSP.out ▸ hg4.out); have HB4 := Lib.hid hb4; have HF4 := Lib.hid (HF2.out.on hb4); clear hg4 hb4; have e0 := HF4.out.c0; have e1 := HF4.out.c1; have e2 := HF4.out.c2
     refine hK.out _ _ (⟨e0, e1, e2⟩) (fun hHeld2 => ?_)
     clear hK K
     clear hHeld2
     refine Kept.done (by kernel_rfl) ?_
     try simp only [tda, tdb, tdc, Act.put, tdd, tde, tdf]
     clear hHeld
     generalize goInt (((o.take e).map (Value.int .i64)).length : Int) = cnt
     generalize (if N = 1 then some (⟨C, 0, none⟩ : Addr) else some ⟨C, 1, none⟩) = dpx
     have HSS := Lib.hid (shift_set HOL.out (show e + 1 = N by omega))
     have ho2 : (o.take 1 ++ o.take e).length = N := by rw [List.length_append, List.length_take, List.length_take, HOL.out]; omega
     have k0 := HR4.out.cell 0 (by rw [ho2]; omega)
     have f0 := HR4.out.frozen 0
     generalize hz : (o.take 1 ++ o.take e).getD 0 0 = z0 at k0
     have HNE : Hid (N - 1 = e) := by show _ = _; omega
     clear hz ho2 c0 c1 c2 he hwe ht hei hei0
     have HR5 := Lib.hid (HR4.out.set 0 0)
     rw [HSS.out, ← mulTo_zero P (lowF N Mod) A o N (B.getD m 0)] at HR5
     have HB5 := Lib.hid (HB4.out.setCell (p := ⟨C, 0, none⟩) (by rw [HCE.out]; exact Nat.le_refl _) (.int .i64 0))
     obtain ⟨bm, hbm⟩ : ∃ bm, bm = B.getD m 0 := ⟨_, rfl⟩
     rw [← hbm] at HR5
     have HBM := Lib.hid hbm; clear hbm
     go_wp2_with fail
     go_loopw [54] (fun t wi => ∃ j : Nat, j ≤ N ∧ t = .int .i64 (j : Int) ∧ Hid (RI wi C (mulTo P (lowF N Mod) A o N bm j)) ∧ Hid (Below w2.heap.size w2 wi)) (fun t _ => (N - intOf t).toNat)
     case atStart => exact ⟨0, Nat.zero_le _, rfl, HR5, HB5⟩
     case round =>
       clear HR5 HB5 HR4 HB4 e0 e1 e2 k0 f0
       obtain ⟨j, hj, rfl, HRJ, HWJ⟩ := hrel
       have HFJ := Lib.hid (HF2.out.on HWJ.out)
       have c0 := HFJ.out.c0; have c1 := HFJ.out.c1; have c2 := HFJ.out.c2
       by_cases hlt : j < N
       · have hent := mulTo_getD (p := P) (low := lowF N Mod) (a := A) (out := o) (b := bm) (k := j) hlt
         have ck := HRJ.out.cell j (by rw [mulTo_len]; exact hlt)
         have fk := HRJ.out.frozen j
         obtain ⟨z, hz⟩ : ∃ z, z = (if j = 0 then 0 else o.getD (j - 1) 0) := ⟨_, rfl⟩
         rw [hent, ← hz] at ck
         clear hent
         obtain ⟨ad, aj, rfl, ca, _, HAJ⟩ := (HSA.out.below HWJ.out (Nat.le_refl _)).elt (k := j) (by rw [HAL.out]; exact hlt)
         obtain ⟨bd, bm', rfl, cb, _, HBJ⟩ := (HSB.out.below HWJ.out (Nat.le_refl _)).elt (k := m) (by rw [HBL.out]; exact hm)
         obtain rfl : bm = bm' := by rw [HBM.out, HBJ.out]
         obtain ⟨lw, hlw⟩ : ∃ lw, lw = (lowF N Mod).getD j 0 := ⟨_, rfl⟩
         have hz1 : 0 ≤ z ∧ z < P := by
           rw [hz]
           split
           · omega
           · exact HOR.out (j - 1)
         have htp : 0 ≤ tp ∧ tp < P := by rw [HTP.out]; exact HOR.out e
         have hlr : 0 ≤ lw ∧ lw < P := by
           rw [hlw]
           unfold lowF
           split
           · rename_i h1
             have hh := (HS.out.2.2.2 (by omega)).2
             by_cases hk : j < Mod.length
             · exact hh j hk
             · rw [getD_len (by omega)]; omega
           · rw [getD_len (by simp)]; omega
         have hbr : 0 ≤ bm ∧ bm < P := by rw [HBM.out]; exact HBR.out m
         have har : 0 ≤ aj ∧ aj < P := by rw [← HAJ.out]; exact HAR.out j
         obtain ⟨b1, b2, b3, b4⟩ := entry_bounds hP2 hP3 hz1 htp hlr hbr har
         have HSET := Lib.hid (mulTo_set (p := P) (low := lowF N Mod) (a := A) (out := o) (b := bm) hlt)
         have HME : Hid (mulEntry P (lowF N Mod) A o N bm j = (z + (P - tp) * lw + bm * aj) % P) := by
           show _ = _
           unfold mulEntry
           rw [← hz, ← hlw, HAJ.out, HTP.out, HNE.out]
         have HRS := Lib.hid (HRJ.out.set j ((z + (P - tp) * lw + bm * aj) % P))
         have HWS := Lib.hid (HWJ.out.setCell (p := ⟨C, j, none⟩) (by rw [HCE.out]; exact Nat.le_refl _) (.int .i64 ((z + (P - tp) * lw + bm * aj) % P)))
         have HLW := Lib.hid hlw
         clear hz hlw
         obtain ⟨hz10, hz11⟩ := hz1; obtain ⟨htp0, htp1⟩ := htp; obtain ⟨hl0, hl1⟩ := hlr; obtain ⟨hb0, hb1⟩ := hbr; obtain ⟨ha0, ha1⟩ := har
         by_cases hN2 : 1 < N
         · have hml : (Mod.length : Int) = N := (HS.out.2.2.2 (by omega)).1
           obtain ⟨MA, mc, rfl, hmm⟩ := HM0.out
           have hN2i : (1 : Int) < (N : Int) := by omega
           have hjm : j < Mod.length := by omega
           obtain ⟨md, lw', rfl, cm, _, HMJ⟩ := (hmm.below (bl_trans HF2.out.bel HWJ.out) (Nat.le_refl _)).elt hjm
           obtain rfl : lw = lw' := by rw [HLW.out, ← HMJ.out]; unfold lowF; rw [if_pos (by omega)]
           clear hml hmm
           go_wp2_with fail
           have hP0 : ¬ P = 0 := by omega
           refine Drawn.start (S := fun w' => w'.cell? ⟨w.heap.size, 0, none⟩ = some (.int .i64 P) ∧ w'.cell? ⟨C, j, none⟩ = some (.int .i64 z) ∧ w'.frozen? ⟨C, j, none⟩ = false ∧ w'.cell? (ad.add j) = some (.int .i64 aj) ∧ w'.cell? (bd.add m) = some (.int .i64 bm)) (by kernel_rfl) (⟨c0, ck, fk, ca, cb⟩) (fun hHeld => ?_)
           change Drawn _ _ _ _ 28 _ _ _
           refine Drawn.tk 0 (v := ?_) rfl ?_ hHeld ?_
           rotate_left
           · intro w' h; (try dsimp only at h); go_simp <;> with_reducible rfl
           try simp only [tda, tdb, tdc, Act.put, tdd, tde, tdf]
           refine Drawn.tk 1 (v := ?_) rfl ?_ hHeld ?_
           rotate_left
           · intro w' h; (try dsimp only at h); go_simp <;> with_reducible rfl
           try simp only [tda, tdb, tdc, Act.put, tdd, tde, tdf]
           refine Drawn.tk 2 (v := ?_) rfl ?_ hHeld ?_
           rotate_left
           · intro w' h; (try dsimp only at h); go_simp <;> with_reducible rfl
           try simp only [tda, tdb, tdc, Act.put, tdd, tde, tdf]
           refine Drawn.tk 3 (v := ?_) rfl ?_ hHeld ?_
           rotate_left
           · intro w' h; (try dsimp only at h); go_simp <;> with_reducible rfl
           try simp only [tda, tdb, tdc, Act.put, tdd, tde, tdf]
           refine Drawn.tk 4 (v := ?_) rfl ?_ hHeld ?_
           rotate_left
           · intro w' h; (try dsimp only at h); go_simp <;> with_reducible rfl
           try simp only [tda, tdb, tdc, Act.put, tdd, tde, tdf]
           refine Drawn.tk 5 (v := ?_) rfl ?_ hHeld ?_
           rotate_left
           · intro w' h; (try dsimp only at h); go_simp <;> with_reducible rfl
           try simp only [tda, tdb, tdc, Act.put, tdd, tde, tdf]
           refine Drawn.tk 6 (v := ?_) rfl ?_ hHeld ?_
           rotate_left
           · intro w' h; (try dsimp only at h); go_simp <;> with_reducible rfl
           try simp only [tda, tdb, tdc, Act.put, tdd, tde, tdf]
           refine Drawn.tk 7 (v := ?_) rfl ?_ hHeld ?_
           rotate_left
           · intro w' h; (try dsimp only at h); go_simp <;> with_reducible rfl
           try simp only [tda, tdb, tdc, Act.put, tdd, tde, tdf]
           refine Drawn.tk 8 (v := ?_) rfl ?_ hHeld ?_
           rotate_left
           · intro w' h; (try dsimp only at h); go_simp <;> with_reducible rfl
           try simp only [tda, tdb, tdc, Act.put, tdd, tde, tdf]
           refine Drawn.tk 9 (v := ?_) rfl ?_ hHeld ?_
           rotate_left
           · intro w' h; (try dsimp only at h); go_simp <;> with_reducible rfl
           try simp only [tda, tdb, tdc, Act.put, tdd, tde, tdf]
           refine Drawn.tk 10 (v := ?_) rfl ?_ hHeld ?_
           rotate_left
           · intro w' h; (try dsimp only at h); go_simp <;> with_reducible rfl
           try simp only [tda, tdb, tdc, Act.put, tdd, tde, tdf]
           refine Drawn.tk 11 (v := ?_) rfl ?_ hHeld ?_
           rotate_left
           · intro w' h; (try dsimp only at h); go_simp <;> with_reducible rfl
           try simp only [tda, tdb, tdc, Act.put, tdd, tde, tdf]
           refine Drawn.tk 12 (v := ?_) rfl ?_ hHeld ?_
           rotate_left
           · intro w' h; (try dsimp only at h); go_simp <;> with_reducible rfl
           try simp only [tda, tdb, tdc, Act.put, tdd, tde, tdf]
           refine Drawn.tk 13 (v := ?_) rfl ?_ hHeld ?_
           rotate_left
           · intro w' h; (try dsimp only at h); go_simp <;> with_reducible rfl
           try simp only [tda, tdb, tdc, Act.put, tdd, tde, tdf]
           refine Drawn.tk 14 (v := ?_) rfl ?_ hHeld ?_
           rotate_left
           · intro w' h; (try dsimp only at h); go_simp <;> with_reducible rfl
           try simp only [tda, tdb, tdc, Act.put, tdd, tde, tdf]
           refine Drawn.tk 15 (v := ?_) rfl ?_ hHeld ?_
           rotate_left
           · intro w' h; (try dsimp only at h); go_simp <;> with_reducible rfl
           try simp only [tda, tdb, tdc, Act.put, tdd, tde, tdf]
           refine Drawn.tk 16 (v := ?_) rfl ?_ hHeld ?_
           rotate_left
           · intro w' h; (try dsimp only at h); go_simp <;> with_reducible rfl
           try simp only [tda, tdb, tdc, Act.put, tdd, tde, tdf]
           refine Drawn.tk 17 (v := ?_) rfl ?_ hHeld ?_
           rotate_left
           · intro w' h; (try dsimp only at h); go_simp <;> with_reducible rfl
           try simp only [tda, tdb, tdc, Act.put, tdd, tde, tdf]
           refine Drawn.tk 18 (v := ?_) rfl ?_ hHeld ?_
           rotate_left
           · intro w' h; (try dsimp only at h); go_simp <;> with_reducible rfl
           try simp only [tda, tdb, tdc, Act.put, tdd, tde, tdf]
           refine Drawn.tk 19 (v := ?_) rfl ?_ hHeld ?_
           rotate_left
           · intro w' h; (try dsimp only at h); go_simp <;> with_reducible rfl
           try simp only [tda, tdb, tdc, Act.put, tdd, tde, tdf]
           refine Drawn.tk 20 (v := ?_) rfl ?_ hHeld ?_
           rotate_left
           · intro w' h; (try dsimp only at h); go_simp <;> with_reducible rfl
           try simp only [tda, tdb, tdc, Act.put, tdd, tde, tdf]
           refine Drawn.tk 21 (v := ?_) rfl ?_ hHeld ?_
           rotate_left
           · intro w' h; (try dsimp only at h); go_simp <;> with_reducible rfl
           try simp only [tda, tdb, tdc, Act.put, tdd, tde, tdf]
           refine Drawn.tk 22 (v := ?_) rfl ?_ hHeld ?_
           rotate_left
           · intro w' h; (try dsimp only at h); go_simp <;> with_reducible rfl
           try simp only [tda, tdb, tdc, Act.put, tdd, tde, tdf]
           refine Drawn.tk 23 (v := ?_) rfl ?_ hHeld ?_
           rotate_left
           · intro w' h; (try dsimp only at h); go_simp <;> with_reducible rfl
           try simp only [tda, tdb, tdc, Act.put, tdd, tde, tdf]
           refine Drawn.tk 24 (v := ?_) rfl ?_ hHeld ?_
           rotate_left
           · intro w' h; (try dsimp only at h); go_simp <;> with_reducible rfl
           try simp only [tda, tdb, tdc, Act.put, tdd, tde, tdf]
           refine Drawn.tk 25 (v := ?_) rfl ?_ hHeld ?_
           rotate_left
           · intro w' h; (try dsimp only at h); go_simp <;> with_reducible rfl
           try simp only [tda, tdb, tdc, Act.put, tdd, tde, tdf]
           refine Drawn.tk 26 (v := ?_) rfl ?_ hHeld ?_
           rotate_left
           · intro w' h; (try dsimp only at h); go_simp <;> with_reducible rfl
           try simp only [tda, tdb, tdc, Act.put, tdd, tde, tdf]
           refine Drawn.only (i := 27) (by kernel_rfl) rfl (fun K hK => ?_)
           go_simp
           refine hK.out _ _ (fun h => absurd rfl h) (fun hHeld2 => ?_)
           clear hK K
           clear hHeld2
           refine Drawn.done (by kernel_rfl) ?_
           try simp only [tda, tdb, tdc, Act.put, tdd, tde, tdf]
           clear hHeld
           go_wp2_with fail
           exact ⟨⟨j + 1, by omega, rfl, by rw [← HSET.out, HME.out]; exact HRS.out.drew, HWS.out.drew⟩, by simp only [intOf]; omega⟩
         · have hN2i : ¬ (1 : Int) < (N : Int) := by omega
           obtain rfl : lw = 0 := by rw [HLW.out]; unfold lowF; rw [if_neg (by omega)]; simp
           rw [Int.mul_zero] at HRS HWS HME
           go_wp2_with fail
           have hP0 : ¬ P = 0 := by omega
           refine Drawn.start (S := fun w' => w'.cell? ⟨w.heap.size, 0, none⟩ = some (.int .i64 P) ∧ w'.cell? ⟨C, j, none⟩ = some (.int .i64 z) ∧ w'.frozen? ⟨C, j, none⟩ = false ∧ w'.cell? (ad.add j) = some (.int .i64 aj) ∧ w'.cell? (bd.add m) = some (.int .i64 bm)) (by kernel_rfl) (⟨c0, ck, fk, ca, cb⟩) (fun hHeld => ?_)
           change Drawn _ _ _ _ 28 _ _ _
           refine Drawn.tk 0 (v := ?_) rfl ?_ hHeld ?_
           rotate_left
           · intro w' h; (try dsimp only at h); go_simp <;> with_reducible rfl
           try simp only [tda, tdb, tdc, Act.put, tdd, tde, tdf]
           refine Drawn.tk 1 (v := ?_) rfl ?_ hHeld ?_
           rotate_left
           · intro w' h; (try dsimp only at h); go_simp <;> with_reducible rfl
           try simp only [tda, tdb, tdc, Act.put, tdd, tde, tdf]
           refine Drawn.tk 2 (v := ?_) rfl ?_ hHeld ?_
           rotate_left
           · intro w' h; (try dsimp only at h); go_simp <;> with_reducible rfl
           try simp only [tda, tdb, tdc, Act.put, tdd, tde, tdf]
           refine Drawn.tk 3 (v := ?_) rfl ?_ hHeld ?_
           rotate_left
           · intro w' h; (try dsimp only at h); go_simp <;> with_reducible rfl
           try simp only [tda, tdb, tdc, Act.put, tdd, tde, tdf]
           refine Drawn.tk 4 (v := ?_) rfl ?_ hHeld ?_
           rotate_left
           · intro w' h; (try dsimp only at h); go_simp <;> with_reducible rfl
           try simp only [tda, tdb, tdc, Act.put, tdd, tde, tdf]
           refine Drawn.tk 5 (v := ?_) rfl ?_ hHeld ?_
           rotate_left
           · intro w' h; (try dsimp only at h); go_simp <;> with_reducible rfl
           try simp only [tda, tdb, tdc, Act.put, tdd, tde, tdf]
           refine Drawn.tk 6 (v := ?_) rfl ?_ hHeld ?_
           rotate_left
           · intro w' h; (try dsimp only at h); go_simp <;> with_reducible rfl
           try simp only [tda, tdb, tdc, Act.put, tdd, tde, tdf]
           refine Drawn.tk 7 (v := ?_) rfl ?_ hHeld ?_
           rotate_left
           · intro w' h; (try dsimp only at h); go_simp <;> with_reducible rfl
           try simp only [tda, tdb, tdc, Act.put, tdd, tde, tdf]
           refine Drawn.tk 8 (v := ?_) rfl ?_ hHeld ?_
           rotate_left
           · intro w' h; (try dsimp only at h); go_simp <;> with_reducible rfl
           try simp only [tda, tdb, tdc, Act.put, tdd, tde, tdf]
           refine Drawn.tk 9 (v := ?_) rfl ?_ hHeld ?_
           rotate_left
           · intro w' h; (try dsimp only at h); go_simp <;> with_reducible rfl
           try simp only [tda, tdb, tdc, Act.put, tdd, tde, tdf]
           refine Drawn.tk 10 (v := ?_) rfl ?_ hHeld ?_
           rotate_left
           · intro w' h; (try dsimp only at h); go_simp <;> with_reducible rfl
           try simp only [tda, tdb, tdc, Act.put, tdd, tde, tdf]
           refine Drawn.tk 11 (v := ?_) rfl ?_ hHeld ?_
           rotate_left
           · intro w' h; (try dsimp only at h); go_simp <;> with_reducible rfl
           try simp only [tda, tdb, tdc, Act.put, tdd, tde, tdf]
           refine Drawn.tk 12 (v := ?_) rfl ?_ hHeld ?_
           rotate_left
           · intro w' h; (try dsimp only at h); go_simp <;> with_reducible rfl
           try simp only [tda, tdb, tdc, Act.put, tdd, tde, tdf]
           refine Drawn.tk 13 (v := ?_) rfl ?_ hHeld ?_
           rotate_left
           · intro w' h; (try dsimp only at h); go_simp <;> with_reducible rfl
           try simp only [tda, tdb, tdc, Act.put, tdd, tde, tdf]
           refine Drawn.tk 14 (v := ?_) rfl ?_ hHeld ?_
           rotate_left
           · intro w' h; (try dsimp only at h); go_simp <;> with_reducible rfl
           try simp only [tda, tdb, tdc, Act.put, tdd, tde, tdf]
           refine Drawn.tk 15 (v := ?_) rfl ?_ hHeld ?_
           rotate_left
           · intro w' h; (try dsimp only at h); go_simp <;> with_reducible rfl
           try simp only [tda, tdb, tdc, Act.put, tdd, tde, tdf]
           refine Drawn.tk 16 (v := ?_) rfl ?_ hHeld ?_
           rotate_left
           · intro w' h; (try dsimp only at h); go_simp <;> with_reducible rfl
           try simp only [tda, tdb, tdc, Act.put, tdd, tde, tdf]
           refine Drawn.tk 17 (v := ?_) rfl ?_ hHeld ?_
           rotate_left
           · intro w' h; (try dsimp only at h); go_simp <;> with_reducible rfl
           try simp only [tda, tdb, tdc, Act.put, tdd, tde, tdf]
           refine Drawn.tk 18 (v := ?_) rfl ?_ hHeld ?_
           rotate_left
           · intro w' h; (try dsimp only at h); go_simp <;> with_reducible rfl
           try simp only [tda, tdb, tdc, Act.put, tdd, tde, tdf]
           refine Drawn.tk 19 (v := ?_) rfl ?_ hHeld ?_
           rotate_left
           · intro w' h; (try dsimp only at h); go_simp <;> with_reducible rfl
           try simp only [tda, tdb, tdc, Act.put, tdd, tde, tdf]
           refine Drawn.tk 20 (v := ?_) rfl ?_ hHeld ?_
           rotate_left
           · intro w' h; (try dsimp only at h); go_simp <;> with_reducible rfl
           try simp only [tda, tdb, tdc, Act.put, tdd, tde, tdf]
           refine Drawn.tk 21 (v := ?_) rfl ?_ hHeld ?_
           rotate_left
           · intro w' h; (try dsimp only at h); go_simp <;> with_reducible rfl
           try simp only [tda, tdb, tdc, Act.put, tdd, tde, tdf]
           refine Drawn.tk 22 (v := ?_) rfl ?_ hHeld ?_
           rotate_left
           · intro w' h; (try dsimp only at h); go_simp <;> with_reducible rfl
           try simp only [tda, tdb, tdc, Act.put, tdd, tde, tdf]
           refine Drawn.tk 23 (v := ?_) rfl ?_ hHeld ?_
           rotate_left
           · intro w' h; (try dsimp only at h); go_simp <;> with_reducible rfl
           try simp only [tda, tdb, tdc, Act.put, tdd, tde, tdf]
           refine Drawn.tk 24 (v := ?_) rfl ?_ hHeld ?_
           rotate_left
           · intro w' h; (try dsimp only at h); go_simp <;> with_reducible rfl
           try simp only [tda, tdb, tdc, Act.put, tdd, tde, tdf]
           refine Drawn.tk 25 (v := ?_) rfl ?_ hHeld ?_
           rotate_left
           · intro w' h; (try dsimp only at h); go_simp <;> with_reducible rfl
           try simp only [tda, tdb, tdc, Act.put, tdd, tde, tdf]
           refine Drawn.tk 26 (v := ?_) rfl ?_ hHeld ?_
           rotate_left
           · intro w' h; (try dsimp only at h); go_simp <;> with_reducible rfl
           try simp only [tda, tdb, tdc, Act.put, tdd, tde, tdf]
           refine Drawn.only (i := 27) (by kernel_rfl) rfl (fun K hK => ?_)
           go_simp
           refine hK.out _ _ (fun h => absurd rfl h) (fun hHeld2 => ?_)
           clear hK K
           clear hHeld2
           refine Drawn.done (by kernel_rfl) ?_
           try simp only [tda, tdb, tdc, Act.put, tdd, tde, tdf]
           clear hHeld
           go_wp2_with fail
           exact ⟨⟨j + 1, by omega, rfl, by rw [← HSET.out, HME.out]; exact HRS.out.drew, HWS.out.drew⟩, by simp only [intOf]; omega⟩
       · obtain rfl : N = j := by omega
         have HFIN : Hid (RI wr C (mulL P (lowF N Mod) A N (B.drop m))) := by
           have h1 := HRJ.out
           rw [mulTo_full, HBM.out, HOE.out] at h1
           show RI _ _ _
           rw [mulL_drop (by rw [HBL.out]; exact hm)]
           exact h1
         go_wp2_with fail
         exact ⟨⟨m, by omega, rfl, HFIN, HWJ⟩, by simp only [intOf]; omega⟩
   · obtain rfl : k = 0 := by omega
     have HL : Hid ((mulL P (lowF N Mod) A N B).length = N) := mulL_len _ _ _ _ _
     have HRG : Hid (Rng P (mulL P (lowF N Mod) A N B)) := fun j => mulL_range hP2 _ j
     rw [List.drop_zero] at HR
     have HSR := Lib.hid (HR.out.si (by rw [HL.out]; omega) (HRG.out.I hP3))
     rw [HL.out] at HSR
     have hvr : ∀ i, i < (mulL P (lowF N Mod) A N B).length → 0 ≤ (mulL P (lowF N Mod) A N B).getD i 0 ∧ (mulL P (lowF N Mod) A N B).getD i 0 < P := fun i _ => HRG.out i
     have HVR := Lib.hid hvr; clear hvr
     rw [show (((0 : Nat) : Int) - 1) = -1 by omega]
     go_wp2_with fail
     refine (valueOf_any _ _ (mulL P (lowF N Mod) A N B) P HSR.out hP2 HVR.out (by rw [HL.out]; exact HPN.out)).mono ?_
     rintro e w5 ⟨rfl, rfl⟩
     go_wp2_with fail
     go_ret
     exact ⟨by rw [HMF.out]; rfl, HFR.out.bel⟩
end Go.Proofs.YtodgdoglhecolaaGreat
namespace Go.Proofs.YtodgdoglhecolaaGreat
def sumZ (f : Nat → Int) : Nat → Int
 | 0 => 0
 | n + 1 => sumZ f n + f n
theorem sumZ_congr {f g : Nat → Int} : ∀ {n : Nat}, (∀ i, i < n → f i = g i) → sumZ f n = sumZ g n
 | 0, _ => rfl
 | n + 1, h => by rw [sumZ, sumZ, sumZ_congr fun i hi => h i (by omega), h n (by omega)]
theorem sumZ_add (f g : Nat → Int) : ∀ n, sumZ (fun i => f i + g i) n = sumZ f n + sumZ g n
 | 0 => rfl
 | n + 1 => by rw [sumZ, sumZ, sumZ, sumZ_add f g n]; omega
theorem mul_sumZ (c : Int) (f : Nat → Int) : ∀ n, c * sumZ f n = sumZ (fun i => c * f i) n
 | 0 => Int.mul_zero c
 | n + 1 => by rw [sumZ, sumZ, Int.mul_add, mul_sumZ c f n]
theorem sumZ_zero {f : Nat → Int} : ∀ {n : Nat}, (∀ i, i < n → f i = 0) → sumZ f n = 0
 | 0, _ => rfl
 | n + 1, h => by rw [sumZ, sumZ_zero fun i hi => h i (by omega), h n (by omega)]; rfl
theorem sumZ_single {f : Nat → Int} {k : Nat} : ∀ {n : Nat}, k < n → (∀ i, i < n → i ≠ k → f i = 0) → sumZ f n = f k
 | 0, h, _ => absurd h (by omega)
 | n + 1, h, h0 => by
  rw [sumZ]
  by_cases e : k = n
  ·subst e
   rw [sumZ_zero fun i hi => h0 i (by omega) (by omega)]; omega
  ·rw [sumZ_single (k := k) (by omega) fun i hi => h0 i (by omega), h0 n (by omega) (fun h => e h.symm)]; omega
theorem sumZ_swap (f : Nat → Nat → Int) (m : Nat) : ∀ n, sumZ (fun i => sumZ (fun j => f i j) m) n = sumZ (fun j => sumZ (fun i => f i j) n) m
 | 0 => (sumZ_zero fun _ _ => rfl).symm
 | n + 1 => by
  rw [sumZ, sumZ_swap f m n, ← sumZ_add]
  exact sumZ_congr fun j _ => rfl
theorem sumZ_ext {f : Nat → Int} {n m : Nat} (h : n ≤ m) (h0 : ∀ i, n ≤ i → i < m → f i = 0) : sumZ f m = sumZ f n := by
 induction m with
 | zero => obtain rfl : n = 0 := by omega
           rfl
 | succ m ih =>
   by_cases e : n = m + 1
   · rw [e]
   · rw [sumZ, h0 m (by omega) (by omega), ih (by omega) fun i h1 h2 => h0 i h1 (by omega)]; omega
theorem sumZ_shift (f : Nat → Int) : ∀ n, sumZ f (n + 1) = f 0 + sumZ (fun i => f (i + 1)) n
 | 0 => by simp [sumZ]
 | n + 1 => by rw [sumZ, sumZ_shift f n, sumZ]; omega
structure Lin (L : (Nat → Int) → Nat → Int) : Prop where
 add : ∀ a b, L (fun i => a i + b i) = fun i => L a i + L b i
 smul : ∀ c a, L (fun i => c * a i) = fun i => c * L a i
theorem Lin.zero {L : (Nat → Int) → Nat → Int} (h : Lin L) : L (fun _ => 0) = fun _ => 0 := by
 have := h.smul 0 (fun _ => 0)
 simpa using this
theorem Lin.sum {L : (Nat → Int) → Nat → Int} (h : Lin L) (f : Nat → Int) (v : Nat → Nat → Int) : ∀ n, L (fun j => sumZ (fun i => f i * v i j) n) = fun j => sumZ (fun i => f i * L (v i) j) n
 | 0 => h.zero
 | n + 1 => by
  have e : (fun j => sumZ (fun i => f i * v i j) (n + 1)) = fun j => (fun j => sumZ (fun i => f i * v i j) n) j + (fun j => f n * v n j) j := rfl
  rw [e, h.add, h.sum f v n, h.smul]
  rfl
theorem Lin.comp {L K : (Nat → Int) → Nat → Int} (h : Lin L) (k : Lin K) : Lin fun a => L (K a) :=
 ⟨fun a b => by rw [k.add, h.add], fun c a => by rw [k.smul, h.smul]⟩
theorem Lin.id : Lin fun a => a := ⟨fun _ _ => rfl, fun _ _ => rfl⟩
def Cg (p : Int) (a b : Nat → Int) : Prop := ∀ j, a j % p = b j % p
theorem Cg.refl (p : Int) (a : Nat → Int) : Cg p a a := fun _ => rfl
theorem Cg.symm {p : Int} {a b : Nat → Int} (h : Cg p a b) : Cg p b a := fun j => (h j).symm
theorem Cg.trans {p : Int} {a b c : Nat → Int} (h : Cg p a b) (k : Cg p b c) : Cg p a c := fun j => (h j).trans (k j)
theorem emod_diff {p x y : Int} (h : x % p = y % p) : x = y + p * ((x - y) / p) := by
 have h1 : (x - y) % p = 0 := Int.emod_eq_emod_iff_emod_sub_eq_zero.1 h
 have h2 := Int.emod_add_mul_ediv (x - y) p
 omega
theorem Cg.lin {p : Int} {L : (Nat → Int) → Nat → Int} (hL : Lin L) {a b : Nat → Int} (h : Cg p a b) : Cg p (L a) (L b) := by
 have e : a = fun j => b j + p * ((a j - b j) / p) := funext fun j => emod_diff (h j)
 rw [e, hL.add b (fun j => p * ((a j - b j) / p)), hL.smul p fun j => (a j - b j) / p]
 intro j
 exact Int.add_mul_emod_self_left _ _ _
theorem Cg.add {p : Int} {a b c d : Nat → Int} (h : Cg p a b) (k : Cg p c d) : Cg p (fun j => a j + c j) (fun j => b j + d j) := fun j => by
 show (a j + c j) % p = (b j + d j) % p
 rw [Int.add_emod, h j, k j, ← Int.add_emod]
theorem Cg.smul {p c d : Int} (e : c % p = d % p) {a b : Nat → Int} (h : Cg p a b) : Cg p (fun j => c * a j) (fun j => d * b j) := fun j => by
 show (c * a j) % p = (d * b j) % p
 rw [Int.mul_emod, e, h j, ← Int.mul_emod]
theorem Cg.sum {p : Int} {f g : Nat → Int} {v u : Nat → Nat → Int} : ∀ {n : Nat}, (∀ i, i < n → f i % p = g i % p) → (∀ i, i < n → Cg p (v i) (u i)) → Cg p (fun j => sumZ (fun i => f i * v i j) n) (fun j => sumZ (fun i => g i * u i j) n)
 | 0, _, _ => Cg.refl _ _
 | n + 1, h, k => (Cg.sum (fun i hi => h i (by omega)) fun i hi => k i (by omega)).add (Cg.smul (h n (by omega)) (k n (by omega)))
section
variable (l : Nat → Int) (N : Nat)
def tX (a : Nat → Int) : Nat → Int := fun i => if i < N then (if i = 0 then 0 else a (i - 1)) - a (N - 1) * l i else 0
def tP : Nat → (Nat → Int) → Nat → Int
 | 0, a => a
 | k + 1, a => tX l N (tP k a)
def actZ (f : Nat → Int) (n : Nat) (a : Nat → Int) : Nat → Int := fun j => sumZ (fun i => f i * tP l N i a j) n
def unitV (k : Nat) : Nat → Int := fun j => if j = k then 1 else 0
def mulZ (a b : Nat → Int) : Nat → Int := actZ l N b N a
def Sup (a : Nat → Int) : Prop := ∀ j, N ≤ j → a j = 0
theorem tX_lin : Lin (tX l N) :=
 ⟨fun a b => funext fun i => by
   unfold tX
   by_cases h : i < N
   · simp only [if_pos h]
     by_cases h0 : i = 0
     · simp only [if_pos h0, Int.add_mul]; omega
     · simp only [if_neg h0, Int.add_mul]; omega
   · simp only [if_neg h]; rfl,
  fun c a => funext fun i => by
   unfold tX
   by_cases h : i < N
   · simp only [if_pos h]
     by_cases h0 : i = 0
     · simp only [if_pos h0, Int.mul_sub, Int.mul_assoc, Int.mul_zero]
     · simp only [if_neg h0, Int.mul_sub, Int.mul_assoc]
   · simp only [if_neg h, Int.mul_zero]⟩
theorem tP_lin : ∀ k, Lin (tP l N k)
 | 0 => Lin.id
 | k + 1 => (tX_lin l N).comp (tP_lin k)
theorem tP_add (a : Nat → Int) (j : Nat) : ∀ i, tP l N i (tP l N j a) = tP l N (i + j) a
 | 0 => by rw [Nat.zero_add]; rfl
 | i + 1 => by rw [tP, tP_add a j i, show i + 1 + j = (i + j) + 1 by omega]; rfl
theorem actZ_lin (f : Nat → Int) (n : Nat) : Lin (actZ l N f n) :=
 ⟨fun a b => funext fun j => by
   unfold actZ
   rw [← sumZ_add]
   exact sumZ_congr fun i _ => by rw [(tP_lin l N i).add]; exact Int.mul_add _ _ _,
  fun c a => funext fun j => by
   unfold actZ
   rw [mul_sumZ]
   exact sumZ_congr fun i _ => by rw [(tP_lin l N i).smul]; show f i * (c * _) = c * (f i * _); rw [← Int.mul_assoc, Int.mul_comm (f i) c, Int.mul_assoc]⟩
theorem tX_sup (a : Nat → Int) : Sup N (tX l N a) := fun j hj => by unfold tX; rw [if_neg (by omega)]
theorem tP_sup {a : Nat → Int} (h : Sup N a) : ∀ k, Sup N (tP l N k a)
 | 0 => h
 | k + 1 => tX_sup l N _
theorem actZ_sup {a : Nat → Int} (h : Sup N a) (f : Nat → Int) (n : Nat) : Sup N (actZ l N f n a) := fun j hj => by
 unfold actZ
 exact sumZ_zero fun i _ => by rw [tP_sup l N h i j hj, Int.mul_zero]
theorem tP_actZ (f : Nat → Int) (n k : Nat) (a : Nat → Int) : tP l N k (actZ l N f n a) = actZ l N f n (tP l N k a) := by
 unfold actZ
 rw [(tP_lin l N k).sum f (fun i => tP l N i a) n]
 funext j
 exact sumZ_congr fun i _ => by rw [tP_add, tP_add, Nat.add_comm]
theorem actZ_comm (f g : Nat → Int) (n m : Nat) (a : Nat → Int) : actZ l N f n (actZ l N g m a) = actZ l N g m (actZ l N f n a) := by
 funext j
 have e1 : actZ l N f n (actZ l N g m a) j = sumZ (fun i => sumZ (fun k => f i * (g k * tP l N (i + k) a j)) m) n := by
  show sumZ (fun i => f i * tP l N i (actZ l N g m a) j) n = _
  refine sumZ_congr fun i _ => ?_
  rw [tP_actZ]
  show f i * sumZ (fun k => g k * tP l N k (tP l N i a) j) m = _
  rw [mul_sumZ]
  exact sumZ_congr fun k _ => by rw [tP_add, Nat.add_comm]
 have e2 : actZ l N g m (actZ l N f n a) j = sumZ (fun k => sumZ (fun i => f i * (g k * tP l N (i + k) a j)) n) m := by
  show sumZ (fun k => g k * tP l N k (actZ l N f n a) j) m = _
  refine sumZ_congr fun k _ => ?_
  rw [tP_actZ]
  show g k * sumZ (fun i => f i * tP l N i (tP l N k a) j) n = _
  rw [mul_sumZ]
  refine sumZ_congr fun i _ => ?_
  rw [tP_add, ← Int.mul_assoc, Int.mul_comm (g k), Int.mul_assoc]
 rw [e1, e2, sumZ_swap]
theorem tP_unit : ∀ k, k < N → tP l N k (unitV 0) = unitV k
 | 0, _ => rfl
 | k + 1, h => by
  rw [tP, tP_unit k (by omega)]
  funext i
  unfold tX unitV
  by_cases hi : i < N
  ·rw [if_pos hi, if_neg (show ¬ N - 1 = k by omega)]
   by_cases h0 : i = 0
   ·rw [if_pos h0, if_neg (by omega)]; omega
   ·rw [if_neg h0]
    by_cases e : i = k + 1
    ·rw [if_pos (by omega), if_pos e]; omega
    ·rw [if_neg (by omega), if_neg e]; omega
  ·rw [if_neg hi, if_neg (by omega)]
theorem sup_unit {k : Nat} (h : k < N) : Sup N (unitV k) := fun j hj => by unfold unitV; rw [if_neg (by omega)]
theorem actZ_self {a : Nat → Int} (h : Sup N a) : actZ l N a N (unitV 0) = a := by
 funext j
 unfold actZ
 by_cases hj : j < N
 ·rw [sumZ_single (k := j) hj fun i hi hne => by rw [tP_unit l N i hi]; unfold unitV; rw [if_neg (fun e => hne e.symm)]; exact Int.mul_zero _]
  rw [tP_unit l N j hj]; unfold unitV; rw [if_pos rfl, Int.mul_one]
 ·rw [h j (by omega)]
  exact sumZ_zero fun i hi => by rw [tP_unit l N i hi]; unfold unitV; rw [if_neg (by omega)]; exact Int.mul_zero _
theorem mulZ_comm {a b : Nat → Int} (ha : Sup N a) (hb : Sup N b) : mulZ l N a b = mulZ l N b a := by
 have e1 : mulZ l N a b = actZ l N b N (actZ l N a N (unitV 0)) := by unfold mulZ; rw [actZ_self l N ha]
 have e2 : mulZ l N b a = actZ l N a N (actZ l N b N (unitV 0)) := by unfold mulZ; rw [actZ_self l N hb]
 rw [e1, e2, actZ_comm]
theorem mulZ_sup {a : Nat → Int} (ha : Sup N a) (b : Nat → Int) : Sup N (mulZ l N a b) := actZ_sup l N ha b N
theorem mulZ_assoc {a b c : Nat → Int} (ha : Sup N a) (hb : Sup N b) (hc : Sup N c) : mulZ l N (mulZ l N a b) c = mulZ l N a (mulZ l N b c) := by
 rw [mulZ_comm l N ha (mulZ_sup l N hb c)]
 show actZ l N c N (actZ l N b N a) = actZ l N a N (actZ l N c N b)
 rw [actZ_comm l N a c]
 congr 1
 exact mulZ_comm l N ha hb
theorem mulZ_add (a b c : Nat → Int) : mulZ l N a (fun i => b i + c i) = fun i => mulZ l N a b i + mulZ l N a c i := by
 funext j
 show sumZ (fun i => (b i + c i) * _) N = sumZ (fun i => b i * _) N + sumZ (fun i => c i * _) N
 rw [← sumZ_add]
 exact sumZ_congr fun i _ => Int.add_mul _ _ _
theorem mulZ_one {a : Nat → Int} (hN : 0 < N) : mulZ l N a (unitV 0) = a := by
 funext j
 show sumZ (fun i => unitV 0 i * tP l N i a j) N = a j
 rw [sumZ_single (k := 0) hN fun i _ hne => by unfold unitV; rw [if_neg hne, Int.zero_mul]]
 unfold unitV; rw [if_pos rfl, Int.one_mul]; rfl
theorem mulZ_cg {p : Int} {a b c d : Nat → Int} (h : Cg p a b) (k : ∀ j, c j % p = d j % p) : Cg p (mulZ l N a c) (mulZ l N b d) := fun j => by
 refine (Cg.sum (v := fun i => tP l N i a) (u := fun i => tP l N i b) (fun i _ => k i) (fun i _ => h.lin (tP_lin l N i))) j
theorem tP_top (hN : 0 < N) : tP l N N (unitV 0) = fun j => if j < N then - l j else 0 := by
 obtain ⟨n, rfl⟩ : ∃ n, N = n + 1 := ⟨N - 1, by omega⟩
 show tX l (n + 1) (tP l (n + 1) n (unitV 0)) = _
 rw [tP_unit l (n + 1) n (by omega)]
 funext i
 unfold tX unitV
 by_cases hi : i < n + 1
 ·rw [if_pos hi, if_pos hi, if_pos (show n + 1 - 1 = n by omega)]
  by_cases h0 : i = 0
  ·rw [if_pos h0]; omega
  ·rw [if_neg h0, if_neg (by omega)]; omega
 ·rw [if_neg hi, if_neg hi]
end
/-! lists of coefficients -/
def fn (c : List Int) : Nat → Int := fun i => c.getD i 0
section
variable (l : Nat → Int) (N : Nat)
def valZ (c : List Int) (n : Nat) : Nat → Int := actZ l N (fn c) n (unitV 0)
theorem valZ_set {c : List Int} {k : Nat} (hk : k < c.length) (x : Int) {n : Nat} (hkn : k < n) : valZ l N (c.set k x) n = fun j => valZ l N c n j + (x - fn c k) * tP l N k (unitV 0) j := by
 funext j
 have e : ∀ i, fn (c.set k x) i * tP l N i (unitV 0) j = fn c i * tP l N i (unitV 0) j + (if i = k then (x - fn c k) * tP l N k (unitV 0) j else 0) := fun i => by
  unfold fn
  rw [getD_set]
  by_cases h : k = i
  ·subst h
   rw [if_pos ⟨rfl, hk⟩, if_pos rfl, Int.sub_mul]; omega
  ·rw [if_neg (fun h' => h h'.1), if_neg (fun h' => h h'.symm)]; omega
 show sumZ (fun i => fn (c.set k x) i * tP l N i (unitV 0) j) n = sumZ (fun i => fn c i * tP l N i (unitV 0) j) n + _
 rw [sumZ_congr fun i _ => e i, sumZ_add]
 congr 1
 rw [sumZ_single (k := k) hkn fun i _ hne => if_neg hne, if_pos rfl]
theorem valZ_set_mod {p : Int} {c : List Int} {k : Nat} (hk : k < c.length) (y : Int) {n : Nat} (hkn : k < n) : Cg p (valZ l N (c.set k ((fn c k + y) % p)) n) (fun j => valZ l N c n j + y * tP l N k (unitV 0) j) := by
 rw [valZ_set l N hk _ hkn]
 refine Cg.add (Cg.refl _ _) (Cg.smul ?_ (Cg.refl _ _))
 rw [Int.emod_sub_emod]
 congr 1
 omega
theorem convRow_val {p : Int} (a b : List Int) {i : Nat} {n : Nat} : ∀ J (c : List Int), i + J ≤ c.length → i + J ≤ n → Cg p (valZ l N (convRow p a b i J c) n) (fun j => valZ l N c n j + fn a i * actZ l N (fn b) J (tP l N i (unitV 0)) j)
 | 0, c, _, _ => fun j => by
  show _ = (valZ l N c n j + fn a i * 0) % p
  rw [Int.mul_zero, Int.add_zero]; rfl
 | J + 1, c, h1, h2 => by
  have ih := convRow_val (p := p) (i := i) (n := n) a b J c (by omega) (by omega)
  rw [convRow, convStep]
  refine (valZ_set_mod l N (k := i + J) (by rw [convRow_len]; omega) _ (by omega)).trans ?_
  refine (ih.add (Cg.refl p _)).trans fun j => ?_
  dsimp only
  congr 1
  have e : actZ l N (fn b) (J + 1) (tP l N i (unitV 0)) j = actZ l N (fn b) J (tP l N i (unitV 0)) j + fn b J * tP l N (i + J) (unitV 0) j := by
   show _ + fn b J * tP l N J (tP l N i (unitV 0)) j = _
   rw [tP_add, Nat.add_comm J i]; rfl
  rw [e, Int.mul_add, ← Int.mul_assoc]
  show _ + fn a i * fn b J * _ = _
  omega
theorem conv_val {p : Int} (a b : List Int) {M : Nat} (hM : 0 < M) : ∀ I, I ≤ M → Cg p (valZ l N (conv p a b M I) (2 * M - 1)) (actZ l N (fn a) I (actZ l N (fn b) M (unitV 0)))
 | 0, _ => fun j => by
  have e : valZ l N (conv p a b M 0) (2 * M - 1) j = 0 := sumZ_zero fun i _ => by
   have : fn (conv p a b M 0) i = 0 := by
    show (List.replicate (2 * M - 1) (0 : Int)).getD i 0 = 0
    by_cases h : i < 2 * M - 1 <;> simp [List.getD, h]
   rw [this, Int.zero_mul]
  rw [e]; rfl
 | I + 1, h => by
  have ih := conv_val (p := p) a b hM I (by omega)
  rw [conv]
  refine (convRow_val l N a b M _ (by rw [conv_len]; omega) (by omega)).trans ?_
  refine (ih.add (Cg.refl p _)).trans fun j => ?_
  dsimp only
  congr 1
  show _ = actZ l N (fn a) I (actZ l N (fn b) M (unitV 0)) j + fn a I * tP l N I (actZ l N (fn b) M (unitV 0)) j
  rw [tP_actZ]
end
section
variable {p : Int} {low : List Int} {N : Nat}
theorem redRow_val {i n : Nat} (hi : N ≤ i) (hn : n ≤ i) : ∀ J (c : List Int), J ≤ N → i < c.length → i - N + J ≤ n →
  Cg p (valZ (fn low) N (redRow p low N i J c) n) (fun j => valZ (fn low) N c n j + (- fn c i) * actZ (fn low) N (fn low) J (tP (fn low) N (i - N) (unitV 0)) j)
 | 0, c, _, _, _ => fun j => by
  show _ = (valZ (fn low) N c n j + (- fn c i) * 0) % p
  rw [Int.mul_zero, Int.add_zero]; rfl
 | J + 1, c, hJ, hl, hb => by
  have ih := redRow_val hi hn J c (by omega) hl (by omega)
  rw [redRow, redStep]
  refine (valZ_set_mod (fn low) N (k := i - N + J) (by rw [redRow_len]; omega) _ (by omega)).trans ?_
  refine (ih.add (Cg.refl p _)).trans fun j => ?_
  dsimp only
  rw [redRow_top p low hi J c (by omega)]
  have e : actZ (fn low) N (fn low) (J + 1) (tP (fn low) N (i - N) (unitV 0)) j = actZ (fn low) N (fn low) J (tP (fn low) N (i - N) (unitV 0)) j + fn low J * tP (fn low) N (i - N + J) (unitV 0) j := by
   show _ + fn low J * tP (fn low) N J (tP (fn low) N (i - N) (unitV 0)) j = _
   rw [tP_add, Nat.add_comm J]; rfl
  rw [e, Int.mul_add]
  generalize actZ (fn low) N (fn low) J (tP (fn low) N (i - N) (unitV 0)) j = A
  show (_ + (p - fn c i) * fn low J * _) % p = _
  generalize tP (fn low) N (i - N + J) (unitV 0) j = t
  rw [Int.sub_mul, Int.sub_mul, Int.mul_assoc p, Int.neg_mul, Int.neg_mul, Int.mul_assoc (fn c i)]
  generalize valZ (fn low) N c n j = V
  generalize fn c i * A = X
  generalize fn c i * (fn low J * t) = Y
  rw [show V + -X + (p * (fn low J * t) - Y) = (V + (-X + -Y)) + p * (fn low J * t) by omega]
  exact Int.add_mul_emod_self_left _ _ _
theorem redOne_val {i : Nat} (hN : 0 < N) (hi : N ≤ i) {c : List Int} (hl : i < c.length) (hlow : Sup N (fn low)) : Cg p (valZ (fn low) N (redRow p low N i N c) i) (valZ (fn low) N c (i + 1)) := by
 refine (redRow_val (n := i) hi (Nat.le_refl _) N c (Nat.le_refl _) hl (by omega)).trans fun j => ?_
 dsimp only
 congr 1
 show _ = valZ (fn low) N c i j + fn c i * tP (fn low) N i (unitV 0) j
 congr 1
 have e1 : actZ (fn low) N (fn low) N (tP (fn low) N (i - N) (unitV 0)) = tP (fn low) N (i - N) (fn low) := by rw [← tP_actZ, actZ_self _ _ hlow]
 have e2 : tP (fn low) N i (unitV 0) = fun j => (-1) * tP (fn low) N (i - N) (fn low) j := by
  rw [show tP (fn low) N i (unitV 0) = tP (fn low) N (i - N) (tP (fn low) N N (unitV 0)) by rw [tP_add]; congr 1; omega, tP_top _ _ hN, ← (tP_lin (fn low) N (i - N)).smul]
  congr 1
  funext j
  by_cases h : j < N
  ·rw [if_pos h]; omega
  ·rw [if_neg h, hlow j (by omega)]; rfl
 rw [e1, e2]
 dsimp only
 rw [Int.neg_mul, Int.neg_mul, Int.one_mul, Int.mul_neg]
theorem redTo_val (hN : 0 < N) (hlow : Sup N (fn low)) {c : List Int} (hc : c.length = 2 * N - 1) : ∀ t, t ≤ N - 1 → Cg p (valZ (fn low) N (redTo p low N c t) (2 * N - 1 - t)) (valZ (fn low) N c (2 * N - 1))
 | 0, _ => Cg.refl _ _
 | t + 1, ht => by
  have ih := redTo_val hN hlow hc t (by omega)
  rw [redTo, show 2 * N - 1 - (t + 1) = 2 * N - 2 - t by omega]
  refine (redOne_val hN (by omega) (by rw [redTo_len]; omega) hlow).trans ?_
  rw [show 2 * N - 2 - t + 1 = 2 * N - 1 - t by omega]
  exact ih
theorem mulRL_val (hp : 2 ≤ p) (hN : 0 < N) (hlow : Sup N (fn low)) {a b : List Int} (ha : Sup N (fn a)) (hb : Sup N (fn b)) {j : Nat} (hj : j < N) : (mulRL p low a b N).getD j 0 = mulZ (fn low) N (fn a) (fn b) j % p := by
 have h1 := redTo_val (p := p) hN hlow (conv_len p a b N N) (N - 1) (Nat.le_refl _)
 have h2 := conv_val (fn low) N (p := p) a b hN N (Nat.le_refl _)
 rw [show 2 * N - 1 - (N - 1) = N by omega] at h1
 have h3 := h1.trans h2
 have hr := redTo_rng hp low N _ (conv_rng hp a b N N) (N - 1)
 have e : fn (mulRL p low a b N) j = fn (redTo p low N (conv p a b N N) (N - 1)) j := by unfold fn mulRL; simp [List.getD, List.getElem?_take, hj]
 have h4 := h3 j
 rw [actZ_self _ _ hb, show actZ (fn low) N (fn a) N (fn b) = mulZ (fn low) N (fn b) (fn a) from rfl, mulZ_comm _ _ hb ha] at h4
 have h5 : valZ (fn low) N (redTo p low N (conv p a b N N) (N - 1)) N j = fn (redTo p low N (conv p a b N N) (N - 1)) j := by
  show actZ _ _ _ _ _ j = _
  unfold actZ
  rw [sumZ_single (k := j) hj fun i hi hne => by rw [tP_unit _ N i hi]; unfold unitV; rw [if_neg (fun e => hne e.symm)]; exact Int.mul_zero _]
  rw [tP_unit _ N j hj]; unfold unitV; rw [if_pos rfl, Int.mul_one]
 rw [h5] at h4
 show fn _ j = _
 rw [e, ← h4]
 exact (Int.emod_eq_of_lt (hr j).1 (hr j).2).symm
theorem mulL_val (hN : 0 < N) {a : List Int} (ha : Sup N (fn a)) : ∀ b : List Int, Cg p (fn (mulL p low a N b)) (actZ (fn low) N (fn b) b.length (fn a))
 | [] => fun j => by
   have : fn (mulL p low a N []) j = 0 := by
     show (List.replicate N (0 : Int)).getD j 0 = 0
     by_cases h : j < N <;> simp [List.getD, h]
   rw [this]; rfl
 | x :: b => by
   have ih := mulL_val hN ha b
   have ht := ih.lin (tX_lin (fn low) N)
   intro j
   have e : actZ (fn low) N (fn (x :: b)) (x :: b).length (fn a) j = tX (fn low) N (actZ (fn low) N (fn b) b.length (fn a)) j + x * fn a j := by
     show sumZ (fun i => fn (x :: b) i * tP (fn low) N i (fn a) j) (b.length + 1) = _
     rw [sumZ_shift]
     have e1 : fn (x :: b) 0 * tP (fn low) N 0 (fn a) j = x * fn a j := rfl
     have e2 : tX (fn low) N (actZ (fn low) N (fn b) b.length (fn a)) j = sumZ (fun i => fn (x :: b) (i + 1) * tP (fn low) N (i + 1) (fn a) j) b.length := by
       unfold actZ
       rw [(tX_lin (fn low) N).sum (fn b) (fun i => tP (fn low) N i (fn a)) b.length]
       exact sumZ_congr fun i _ => rfl
     rw [e1, e2]; omega
   rw [e]
   by_cases hj : j < N
   · have e3 : fn (mulL p low a N (x :: b)) j = mulEntry p low a (mulL p low a N b) N x j := by
       show (mulStep p low a (mulL p low a N b) N x).getD j 0 = _
       simp [mulStep, List.getD, hj]
     have hj2 := ht j
     rw [e3]
     unfold mulEntry
     rw [Int.emod_emod_of_dvd _ (Int.dvd_refl p)]
     show _ = (_ + x * fn a j) % p
     rw [Int.add_emod (tX (fn low) N (actZ (fn low) N (fn b) b.length (fn a)) j), ← hj2, ← Int.add_emod]
     unfold tX
     rw [if_pos hj]
     show ((if j = 0 then 0 else fn (mulL p low a N b) (j - 1)) + (p - fn (mulL p low a N b) (N - 1)) * fn low j + x * fn a j) % p = _
     rw [Int.sub_mul]
     generalize (if j = 0 then (0 : Int) else fn (mulL p low a N b) (j - 1)) = A
     generalize fn (mulL p low a N b) (N - 1) * fn low j = B
     generalize x * fn a j = C
     rw [show A + (p * fn low j - B) + C = (A - B + C) + p * fn low j by omega]
     exact Int.add_mul_emod_self_left _ _ _
   · have e3 : fn (mulL p low a N (x :: b)) j = 0 := getD_len (by rw [mulL_len]; omega)
     rw [e3, show tX (fn low) N (actZ (fn low) N (fn b) b.length (fn a)) j = 0 from tX_sup _ _ _ j (by omega), ha j (by omega), Int.mul_zero]
     rfl
end
end Go.Proofs.YtodgdoglhecolaaGreat
