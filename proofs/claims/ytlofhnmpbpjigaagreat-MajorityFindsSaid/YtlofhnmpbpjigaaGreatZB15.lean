/- Texts of a claim, merged: words, plain facts and walks that the last of its texts uses. -/
import Derived.Test.YtlofhnmpbpjigaaGreatZB1
import Derived.Test.YtlofhnmpbpjigaaGreatZB2
import Derived.Test.YtlofhnmpbpjigaaGreatZB3
import Derived.Test.YtlofhnmpbpjigaaGreatZB4
import Derived.Test.YtlofhnmpbpjigaaGreatZB5
import Derived.Test.YtlofhnmpbpjigaaGreatZB6
import Derived.Test.YtlofhnmpbpjigaaGreatZB8
import Derived.Test.YtlofhnmpbpjigaaGreatZB9
import Derived.Test.YtlofhnmpbpjigaaGreatZB10
import Derived.Test.YtlofhnmpbpjigaaGreatZB14
import Derived.Deep.CutRange
import Derived.WalkMore
import Derived.Laws.EntriesVeiled
import Derived.Deep.RegionHeld3
import Derived.Deep.RegionLaw
import Derived.Deep.DeepMust
import Derived.StillTailTactics
import Derived.Lib.AppendZeros
import Derived.Shelf.Abstract
import Derived.Shelf.RegionOpen
import Derived.WalkKit
import Derived.OwnWalkIn
import Derived.TacticsInMore
set_option linter.unusedSimpArgs false
set_option linter.unusedVariables false

namespace Go.Proofs.YtlofhnmpbpjigaaGreat
open Go.RowKit
set_option maxRecDepth 100000
set_option maxHeartbeats 8000000 in
theorem rPar_ok (w : World) (P M : Int) (n : Nat) (mv gv : Value) (Mod : List Int) (gen : List (List Int)) (hm : SI w mv Mod) (hg : SS w gv gen) (hE : codeE P M Mod n gen = 0) :
  Calls Tryz.prog 66 #[.agg #[.int .i64 P, .int .i64 M, mv, .int .i64 (n : Int), gv]] w (RetNu w (nullL (refOps P M Mod) gen n)) := by
 obtain ⟨hf, _, h64, h256, hR, _⟩ := codeE_zero hE
 rw [Int.toNat_natCast] at hR
 have HN := Lib.hid (fun (w' : World) (hb : Below w.heap.size w w') => rNull_any w' P M n mv gv Mod gen (hm.below hb (Nat.le_refl _)) (hg.below hb (Nat.le_refl _)) (ref_fld hf) hf.1 hf.2.2.1 hR (by omega) (by omega))
 obtain ⟨GA, gc, rfl, _⟩ := hg
 generalize gen.length = gl at *
 clear hm hE hf hR h64 h256
 have HF := Lib.hid (CBox.mk' w P M mv n (.slice GA gl gc))
 go_enter Tryz.func66, Tryz.ntmps66
 go_upto_region 1 with fail
 generalize w.alloc (.cells #[.int .i64 P, .int .i64 M, mv, .int .i64 (n : Int), .slice GA gl gc] 27) = w0 at *
 have c0 := HF.out.c0; have c1 := HF.out.c1; have c2 := HF.out.c2; have c3 := HF.out.c3; have c4 := HF.out.c4
 go_wp2_with fail
 refine (HN.out w0 HF.out.bel).mono ?_
 rintro e w1 ⟨u, rfl, hx, ho, hb1⟩
 have hs := HF.out.bel.size
 have HX := Lib.hid (hx.mono hs); have HO := Lib.hid ((ho.names (Y := fun g => g < w.heap.size) (fun g _ h => Nat.lt_of_lt_of_le h hs)).mono hs)
 have HB := Lib.hid (bl_trans HF.out.bel hb1)
 clear hx ho hb1 c0 c1 c2 c3 c4
 go_wp2_with fail
 go_ret
 exact ⟨_, rfl, HX.out, HO.out, HB.out⟩
set_option maxHeartbeats 16000000 in
theorem rCDual_ok (w : World) (P M : Int) (n : Nat) (mv gv : Value) (Mod : List Int) (gen : List (List Int)) (hm : SI w mv Mod) (hg : SS w gv gen) (hE : codeE P M Mod n gen = 0) :
  Calls Tryz.prog 33 #[.agg #[.int .i64 P, .int .i64 M, mv, .int .i64 (n : Int), gv]] w (RetCE w P M Mod n (nullL (refOps P M Mod) gen n) 0) := by
 have HCK := Lib.hid (fun (w' : World) (hb : Below w.heap.size w w') => rCCheck_any w' P M n mv gv Mod gen (hm.below hb (Nat.le_refl _)) (hg.below hb (Nat.le_refl _)))
 rw [hE] at HCK
 obtain ⟨hf, _, h64, h256, hR, _⟩ := codeE_zero hE
 rw [Int.toNat_natCast] at hR
 have hO := ref_fld hf
 have hC := Cn.null hO hR
 have hCl := hC.le
 have HPA := Lib.hid (fun (w' : World) (hb : Below w.heap.size w w') => rPar_ok w' P M n mv gv Mod gen (hm.below hb (Nat.le_refl _)) (hg.below hb (Nat.le_refl _)) hE)
 have HMK := Lib.hid (fun (w' : World) (u : Value) (hb : Below w.heap.size w w') (hs : SS w' u (nullL (refOps P M Mod) gen n)) => rMake_any w' P M n mv u Mod _ (hm.below hb (Nat.le_refl _)) hs hf.1 hf.2.2.1 hC.rows (by omega) (by omega))
 rw [hC.self hO] at HMK
 unfold RetC at HMK
 obtain ⟨GA, gc, rfl, _⟩ := hg
 generalize gen.length = gl at *
 clear hm hE hf hR hO hC hCl h64 h256
 generalize nullL (refOps P M Mod) gen n = D at *
 obtain ⟨w1, e1, hq⟩ := CCQ.mk' w P M mv n (.slice GA gl gc)
 have HQ := Lib.hid hq; have HE1 := Lib.hid e1; clear hq e1
 go_enter Tryz.func33, Tryz.ntmps33
 go_upto_region 1 with fail
 rw [HE1.out]
 clear HE1
 have c0 := HQ.out.cb.c0; have c1 := HQ.out.cb.c1; have c2 := HQ.out.cb.c2; have c3 := HQ.out.cb.c3; have c4 := HQ.out.cb.c4
 go_wp2_with fail
 refine (HCK.out w1 HQ.out.cb.bel).mono ?_
 rintro e w2 ⟨rfl, hb2⟩
 have HQ2 := Lib.hid (HQ.out.on hb2)
 clear hb2 c0 c1 c2 c3 c4
 have c0 := HQ2.out.cb.c0; have c1 := HQ2.out.cb.c1; have c2 := HQ2.out.cb.c2; have c3 := HQ2.out.cb.c3; have c4 := HQ2.out.cb.c4
 go_upto_region 4 with fail
 refine Kept.start (S := fun w' => w'.cell? ⟨w.heap.size, 0, none⟩ = some (.int .i64 P) ∧ w'.cell? ⟨w.heap.size, 1, none⟩ = some (.int .i64 M) ∧ w'.cell? ⟨w.heap.size, 2, none⟩ = some mv ∧ w'.cell? ⟨w.heap.size, 3, none⟩ = some (.int .i64 (n : Int)) ∧ w'.cell? ⟨w.heap.size, 4, none⟩ = some (.slice GA gl gc)) (by kernel_rfl) (⟨c0, c1, c2, c3, c4⟩) (fun hHeld => ?_)
 change Kept _ _ _ _ 9 _ _ _
 refine Kept.tk 0 (v := ?_) rfl ?_ hHeld ?_
 rotate_left
 ·intro w' h; (try dsimp only at h); go_simp <;> with_reducible rfl
 try simp only [tda, tdb, tdc, Act.put, tdd, tde, tdf]
 refine Kept.tk 1 (v := ?_) rfl ?_ hHeld ?_
 rotate_left
 ·intro w' h; (try dsimp only at h); go_simp <;> with_reducible rfl
 try simp only [tda, tdb, tdc, Act.put, tdd, tde, tdf]
 refine Kept.tk 2 (v := ?_) rfl ?_ hHeld ?_
 rotate_left
 ·intro w' h; (try dsimp only at h); go_simp <;> with_reducible rfl
 try simp only [tda, tdb, tdc, Act.put, tdd, tde, tdf]
 refine Kept.tk 4 (v := ?_) rfl ?_ hHeld ?_
 rotate_left
 ·intro w' h; (try dsimp only at h); go_simp <;> with_reducible rfl
 try simp only [tda, tdb, tdc, Act.put, tdd, tde, tdf]
 refine Kept.tk 5 (v := ?_) rfl ?_ hHeld ?_
 rotate_left
 ·intro w' h; (try dsimp only at h); go_simp <;> with_reducible rfl
 try simp only [tda, tdb, tdc, Act.put, tdd, tde, tdf]
 refine Kept.only (i := 3) (by kernel_rfl) rfl (fun K hK => ?_)
 go_simp
 refine (HPA.out _ (bl_trans HQ2.out.cb.bel (bl_drew w2))).mono ?_; rintro e w3 ⟨u3, rfl, hx3, _, hb3⟩; have HX3 := Lib.hid hx3.out; have HQ3 := Lib.hid (HQ2.out.on (bl_trans (bl_drew w2) hb3)); have hs3 := (bl_trans (bl_drew w2) hb3).size; clear hx3 hb3
 refine hK.out _ _ (⟨HQ3.out.cb.c0, HQ3.out.cb.c1, HQ3.out.cb.c2, HQ3.out.cb.c3, HQ3.out.cb.c4⟩) (fun hHeld2 => ?_)
 clear hK K
 replace hHeld := hHeld2
 clear hHeld2
 try simp only [tda, tdb, tdc, Act.put, tdd, tde, tdf]
 refine Kept.only (i := 6) (by kernel_rfl) rfl (fun K hK => ?_)
 go_simp
 refine (HMK.out w3 u3 HQ3.out.cb.bel HX3.out).mono ?_; rintro e w4 ⟨u4, g4, rfl, hx4, hb4⟩; obtain ⟨⟨MA, mc, rfl, _⟩, ⟨DA, dc, rfl, _⟩⟩ := hx4.out; have HX4 : Hid (Sep w3.heap.size w4 fun w9 => SI w9 (.slice MA Mod.length mc) Mod ∧ SS w9 (.slice DA D.length dc) D) := hid' hx4; have HQ4 := Lib.hid (HQ3.out.on hb4); clear hx4 hb4; generalize D.length = dl at *; generalize Mod.length = ml at *
 refine hK.out _ _ (⟨HQ4.out.cb.c0, HQ4.out.cb.c1, HQ4.out.cb.c2, HQ4.out.cb.c3, HQ4.out.cb.c4⟩) (fun hHeld2 => ?_)
 clear hK K
 replace hHeld := hHeld2
 clear hHeld2
 try simp only [tda, tdb, tdc, Act.put, tdd, tde, tdf]
 refine Kept.only (i := 7) (o := ?op1) (by kernel_rfl) ?ho1 (fun K hK => ?_)
 case ho1 => (conv => lhs; simp only [tdg, tdh, tdi])
 obtain ⟨y0, y1, y2, y3, y4, f0, f1, f2, f3, f4⟩ := HQ4.out.q.five; go_simp; obtain ⟨w5, hz, HL⟩ := lay5 (x := .int .i64 P) (y := .int .i64 M) (z := .slice MA ml mc) (u := .int .i64 (n : Int)) (v := .slice DA dl dc) HQ4.out.q; rw [hz]; have q0 := HL.c0; have q1 := HL.c1; have q2 := HL.c2; have q3 := HL.c3; have q4 := HL.c4; have hql := HQ2.out.q.lt; have HC5 := Lib.hid (HQ4.out.cb.blk.grown HL.gr (by intro e; have := Option.some.inj e; omega)); have HX5 := Lib.hid (HX4.out.grown HL.gr (by rintro b e; cases e; omega)); have HBZ := Lib.hid (HL.below HQ4.out.cb.bel HQ4.out.cb.bel.size (by omega)); clear hz y0 y1 y2 y3 y4 f0 f1 f2 f3 f4 HL
 refine hK.out _ _ (⟨HC5.out.cell 0, HC5.out.cell 1, HC5.out.cell 2, HC5.out.cell 3, HC5.out.cell 4⟩) (fun hHeld2 => ?_)
 clear hK K
 replace hHeld := hHeld2
 clear hHeld2
 try simp only [tda, tdb, tdc, Act.put, tdd, tde, tdf]
 refine Kept.only (i := 8) (by kernel_rfl) rfl (fun K hK => ?_)
 go_simp
 refine hK.out _ _ hHeld (fun hHeld2 => ?_)
 clear hK K
 clear hHeld2
 refine Kept.done (by kernel_rfl) ?_
 try simp only [tda, tdb, tdc, Act.put, tdd, tde, tdf]
 clear hHeld
 clear c0 c1 c2 c3 c4
 go_wp2_with fail
 refine bodyPost_ret (v := .tuple #[.agg #[.int .i64 P, .int .i64 M, .slice MA ml mc, .int .i64 (n : Int), .slice DA dl dc], .int .i64 0]) (by simp [results, Tryz.results33, go_sem, q0, q1, q2, q3, q4]) rfl ?_
 have hsz := HQ3.out.cb.bel.size
 exact ⟨_, _, rfl, HX5.out.mono hsz, HBZ.out⟩
end Go.Proofs.YtlofhnmpbpjigaaGreat
namespace Go.Proofs.YtlofhnmpbpjigaaGreat
def dgt (p m j : Nat) : Nat := m / p ^ j % p
theorem dgt_lt {p : Nat} (hp : 0 < p) (m j : Nat) : dgt p m j < p := Nat.mod_lt _ hp
def pwL (O : FOps) (q n : Nat) (gen : List (List Int)) (row s : Nat) : List Int := rowOf n fun j => sumTo O (fun i => O.mul (dgt q s (row - 1 - i) : Int) (ent gen i j)) row
theorem pwL_len (O : FOps) (q n : Nat) (gen : List (List Int)) (row s : Nat) : (pwL O q n gen row s).length = n := rowOf_len _ _
theorem pwL_at {O : FOps} {q n : Nat} {gen : List (List Int)} {row s j : Nat} (hj : j < n) : (pwL O q n gen row s).getD j 0 = sumTo O (fun i => O.mul (dgt q s (row - 1 - i) : Int) (ent gen i j)) row := rowOf_getD hj
theorem pwL_zero (O : FOps) (q n : Nat) (gen : List (List Int)) : pwL O q n gen 0 0 = List.replicate n 0 := by rw [← rowOf_zero]; rfl
theorem dgt_push {q s a k : Nat} (ha : a < q) : dgt q (s * q + a) (k + 1) = dgt q s k := by
 have hq : 0 < q := by omega
 unfold dgt
 rw [Nat.pow_succ', ← Nat.div_div_eq_div_mul, show (s * q + a) / q = s by rw [Nat.add_comm, Nat.add_mul_div_right _ _ hq, Nat.div_eq_of_lt ha, Nat.zero_add]]
theorem dgt_last {q s a : Nat} (ha : a < q) : dgt q (s * q + a) 0 = a := by
 unfold dgt
 rw [Nat.pow_zero, Nat.div_one, Nat.add_comm, Nat.add_mul_mod_self_right, Nat.mod_eq_of_lt ha]
theorem pwL_next {O : FOps} {q n : Nat} {gen : List (List Int)} {row s a : Nat} (ha : a < q) : pwL O q n gen (row + 1) (s * q + a) = rowOf n fun j => O.add ((pwL O q n gen row s).getD j 0) (O.mul (a : Int) (ent gen row j)) := by
 refine rowOf_congr fun j hj => ?_
 rw [pwL_at hj, sumTo]
 congr 1
 ·refine sumTo_congr fun i hi => ?_
  rw [show row + 1 - 1 - i = row - 1 - i + 1 by omega, dgt_push ha]
 ·rw [show row + 1 - 1 - row = 0 by omega, dgt_last ha]
theorem pwL_rng {O : FOps} {q : Nat} (hO : O.Fld (q : Int)) (n : Nat) (gen : List (List Int)) (row s j : Nat) : 0 ≤ (pwL O q n gen row s).getD j 0 ∧ (pwL O q n gen row s).getD j 0 < (q : Int) := by
 by_cases hj : j < n
 ·rw [pwL_at hj]; exact sumTo_lt hO _ _
 ·rw [getD_len (by rw [pwL_len]; omega)]; have := hO.lt.pos; omega
def wordsL (O : FOps) (q n : Nat) (gen : List (List Int)) : List (List Int) := (List.range (q ^ gen.length)).map (pwL O q n gen gen.length)
theorem wordsL_len (O : FOps) (q n : Nat) (gen : List (List Int)) : (wordsL O q n gen).length = q ^ gen.length := by simp [wordsL]
theorem wordsL_at {O : FOps} {q n : Nat} {gen : List (List Int)} {N : Nat} (h : N < q ^ gen.length) : (wordsL O q n gen).getD N [] = pwL O q n gen gen.length N := by simp [wordsL, List.getD, h]
def dgtL (q k s : Nat) : List Int := (List.range k).map fun i => (dgt q s (k - 1 - i) : Int)
theorem dgtL_len (q k s : Nat) : (dgtL q k s).length = k := by simp [dgtL]
theorem dgtL_at {q k s i : Nat} (h : i < k) : (dgtL q k s).getD i 0 = (dgt q s (k - 1 - i) : Int) := by simp [dgtL, List.getD, h]
theorem combL_dgt {O : FOps} {q n : Nat} (hO : O.Fld (q : Int)) {gen : List (List Int)} (hR : Rows (q : Int) n gen) (s : Nat) : combL O (dgtL q gen.length s) gen n = pwL O q n gen gen.length s := by
 refine ext_getD (by rw [pwL_len]; exact combTo_len O _ gen n _) fun j hj => ?_
 have hjn : j < n := by rwa [show (combL O (dgtL q gen.length s) gen n).length = n from combTo_len O _ gen n _] at hj
 rw [combL_getD hO hR (dgtL_len _ _ _), pwL_at hjn]
 exact sumTo_congr fun i hi => by rw [dgtL_at hi]
def wtN (h : List Int) : Nat → Nat
 | 0 => 0
 | j + 1 => if h.getD j 0 = 0 then wtN h j else wtN h j + 1
def usedF (out : List (List Int)) (i j : Nat) : Bool := j != i && out.any fun g => g.getD j 0 != 0
theorem usedF_nil (i j : Nat) : usedF [] i j = false := by simp [usedF]
theorem usedF_snoc (out : List (List Int)) (h : List Int) (i j : Nat) : usedF (out ++ [h]) i j = (usedF out i j || (j != i && h.getD j 0 != 0)) := by
 unfold usedF
 rw [List.any_append]
 simp only [List.any_cons, List.any_nil, Bool.or_false]
 cases (j != i) <;> rfl
def clsh (out : List (List Int)) (i : Nat) (h : List Int) : Nat → Bool
 | 0 => false
 | j + 1 => clsh out i h j || (h.getD j 0 != 0 && usedF out i j)
theorem clsh_stop {out : List (List Int)} {i : Nat} {h : List Int} {j : Nat} (e : clsh out i h j = true) : ∀ {m}, j ≤ m → clsh out i h m = true
 | 0, hm => by rw [show j = 0 by omega] at e; exact e
 | m + 1, hm => by
  by_cases e2 : j = m + 1
  ·rw [← e2]; exact e
  ·rw [clsh, clsh_stop e (m := m) (by omega)]; rfl
def stepF (i w n : Nat) (out : List (List Int)) (h : List Int) : List (List Int) := if h.getD i 0 = 1 ∧ clsh out i h n = false ∧ wtN h n = w then out ++ [h] else out
def fndTo (i w n : Nat) (L : List (List Int)) : Nat → List (List Int)
 | 0 => []
 | k + 1 => stepF i w n (fndTo i w n L k) (L.getD k [])
def stepR (ok : List (List Int) → Bool) (i : Nat) (out : List (List Int)) (h : List Int) : List (List Int) := if h.getD i 0 = 1 ∧ ok (out ++ [h]) = true then out ++ [h] else out
def rfdTo (ok : List (List Int) → Bool) (i : Nat) (l : List (List Int)) : Nat → List (List Int)
 | 0 => []
 | k + 1 => stepR ok i (rfdTo ok i l k) (l.getD k [])
def wthL (w n : Nat) (L : List (List Int)) : List (List Int) := L.filter fun h => wtN h n == w
theorem foldl_at {α : Type} (f : α → List Int → α) (F : Nat → α) (L : List (List Int)) (hF : ∀ k, k < L.length → F (k + 1) = f (F k) (L.getD k [])) : ∀ k, k ≤ L.length → F k = (L.take k).foldl f (F 0)
 | 0, _ => rfl
 | k + 1, hk => by
  rw [hF k (by omega), foldl_at f F L hF k (by omega), List.take_succ_eq_append_getElem (by omega), List.foldl_append]
  simp [List.getD, show k < L.length by omega]
theorem fnd_fold (i w n : Nat) (L : List (List Int)) : fndTo i w n L L.length = L.foldl (stepF i w n) [] := by
 have := foldl_at (stepF i w n) (fndTo i w n L) L (fun _ _ => rfl) L.length (Nat.le_refl _)
 rw [List.take_length] at this
 exact this
theorem rfd_fold (ok : List (List Int) → Bool) (i : Nat) (L : List (List Int)) : rfdTo ok i L L.length = L.foldl (stepR ok i) [] := by
 have := foldl_at (stepR ok i) (rfdTo ok i L) L (fun _ _ => rfl) L.length (Nat.le_refl _)
 rw [List.take_length] at this
 exact this
theorem orT_congr {ok : List Int → Bool} {i n : Nat} {A B : List (List Int)} : ∀ {k}, (∀ j, j < k → A.getD j [] = B.getD j []) → orT ok i n A k = orT ok i n B k
 | 0, _ => rfl
 | k + 1, h => by rw [orT, orT, orT_congr fun j hj => h j (by omega), h k (by omega)]
theorem orT_snoc (ok : List Int → Bool) (i n : Nat) (out : List (List Int)) (h : List Int) : orT ok i n (out ++ [h]) (out ++ [h]).length = match orT ok i n out out.length with
  | none => none
  | some u => if ok h then usT i h u n else none := by
 rw [List.length_append, List.length_singleton, orT, orT_congr (B := out) fun j hj => by simp [List.getD, List.getElem?_append_left hj]]
 have e : (out ++ [h]).getD out.length [] = h := by simp [List.getD]
 rw [e]
 cases orT ok i n out out.length <;> rfl
theorem usT_spec {out : List (List Int)} {i n : Nat} {h : List Int} {u : List Bool} (hl : u.length = n) (hu : ∀ p, p < n → u.getD p false = usedF out i p) : ∀ j, j ≤ n →
  (clsh out i h j = true → usT i h u j = none) ∧ (clsh out i h j = false → ∃ u', usT i h u j = some u' ∧ u'.length = n ∧ ∀ p, p < n → u'.getD p false = (usedF out i p || (decide (p < j) && (p != i && h.getD p 0 != 0))))
 | 0, _ => ⟨(fun e => nomatch e), fun _ => ⟨u, rfl, hl, fun p hp => by rw [hu p hp]; simp⟩⟩
 | j + 1, hj => by
  obtain ⟨h1, h2⟩ := usT_spec hl hu j (by omega)
  rw [clsh, usT]
  cases hc : clsh out i h j
  ·obtain ⟨u', e1, e2, e3⟩ := h2 hc
   rw [e1]
   have e4 : u'.getD j false = usedF out i j := by rw [e3 j (by omega)]; simp
   by_cases h0 : h.getD j 0 = 0
   ·have hb : (h.getD j 0 != 0) = false := by rw [bne_eq_false_iff_eq]; exact h0
    rw [hb]
    refine ⟨(fun e => nomatch e), fun _ => ⟨u', by simp only; rw [if_pos (.inr h0)], e2, fun p hp => ?_⟩⟩
    rw [e3 p hp]
    by_cases ep : p = j
    ·subst ep; rw [hb]; simp
    ·rw [show decide (p < j + 1) = decide (p < j) from decide_eq_decide.2 (by omega)]
   ·have hb : (h.getD j 0 != 0) = true := by rw [bne_iff_ne]; exact h0
    rw [hb]
    by_cases hji : j = i
    ·have hu0 : usedF out i j = false := by subst hji; simp [usedF]
     rw [hu0]
     refine ⟨(fun e => nomatch e), fun _ => ⟨u', by simp only; rw [if_pos (.inl hji)], e2, fun p hp => ?_⟩⟩
     rw [e3 p hp]
     by_cases ep : p = j
     ·subst ep; subst hji; simp
     ·rw [show decide (p < j + 1) = decide (p < j) from decide_eq_decide.2 (by omega)]
    ·have hn : ¬ (j = i ∨ h.getD j 0 = 0) := fun e => e.elim hji h0
     simp only
     rw [if_neg hn, e4]
     cases hu1 : usedF out i j
     ·refine ⟨(fun e => nomatch e), fun _ => ⟨u'.set j true, rfl, by rw [List.length_set, e2], fun p hp => ?_⟩⟩
      by_cases ep : j = p
      ·subst ep
       have : (u'.set j true).getD j false = true := by simp [List.getD, List.getElem?_set, show j < u'.length by omega]
       rw [this, hb]
       simp [hji]
      ·have : (u'.set j true).getD p false = u'.getD p false := by simp [List.getD, List.getElem?_set, ep]
       rw [this, e3 p hp, show decide (p < j + 1) = decide (p < j) from decide_eq_decide.2 (by omega)]
     ·exact ⟨fun _ => rfl, (fun e => nomatch e)⟩
  ·rw [h1 hc]
   exact ⟨fun _ => rfl, (fun e => nomatch e)⟩
def FInv (ok : List Int → Bool) (i n : Nat) (out : List (List Int)) : Prop := ∃ u, orT ok i n out out.length = some u ∧ u.length = n ∧ ∀ p, p < n → u.getD p false = usedF out i p
theorem finv_nil (ok : List Int → Bool) (i n : Nat) : FInv ok i n [] := ⟨_, rfl, by simp, fun p hp => by rw [usedF_nil]; simp [List.getD, hp]⟩
theorem finv_step {ok : List Int → Bool} {i n : Nat} {out : List (List Int)} {h : List Int} (hI : FInv ok i n out) (hk : ok h = true) :
  ((orT ok i n (out ++ [h]) (out ++ [h]).length).isSome = true ↔ clsh out i h n = false) ∧ (clsh out i h n = false → FInv ok i n (out ++ [h])) := by
 obtain ⟨u, h1, h2, h3⟩ := hI
 obtain ⟨g1, g2⟩ := usT_spec (h := h) h2 h3 n (Nat.le_refl _)
 have e := orT_snoc ok i n out h
 rw [h1] at e
 replace e : orT ok i n (out ++ [h]) (out ++ [h]).length = if ok h then usT i h u n else none := e
 rw [if_pos hk] at e
 refine ⟨?_, fun hc => ?_⟩
 ·rw [e]
  cases hc : clsh out i h n
  ·obtain ⟨u', e1, _⟩ := g2 hc
   rw [e1]; simp
  ·rw [g1 hc]; simp
 ·obtain ⟨u', e1, e2, e3⟩ := g2 hc
  refine ⟨u', e.trans e1, e2, fun p hp => ?_⟩
  rw [e3 p hp, usedF_snoc, decide_eq_true hp, Bool.true_and]
theorem find_same {ok : List Int → Bool} {okc : List (List Int) → Bool} {i w n : Nat} {L : List (List Int)} (hok : ∀ h, h ∈ L → h.getD i 0 = 1 → ok h = true)
   (hoc : ∀ out, (∀ g, g ∈ out → g ∈ L) → okc out = (orT ok i n out out.length).isSome) :
   rfdTo okc i (wthL w n L) (wthL w n L).length = fndTo i w n L L.length ∧ FInv ok i n (fndTo i w n L L.length) ∧ ∀ g, g ∈ fndTo i w n L L.length → g ∈ L := by
 rw [rfd_fold, fnd_fold]
 unfold wthL
 have key : ∀ (M out : List (List Int)), (∀ h, h ∈ M → h ∈ L) → (∀ g, g ∈ out → g ∈ L) → FInv ok i n out →
     (M.filter fun h => wtN h n == w).foldl (stepR okc i) out = M.foldl (stepF i w n) out ∧ FInv ok i n (M.foldl (stepF i w n) out) ∧ ∀ g, g ∈ M.foldl (stepF i w n) out → g ∈ L := by
   intro M
   induction M with
   | nil => exact fun out _ ho hI => ⟨rfl, hI, ho⟩
   | cons h M ih =>
     intro out hM ho hI
     have hM2 : ∀ h', h' ∈ M → h' ∈ L := fun h' hh => hM h' (List.mem_cons_of_mem _ hh)
     have hhL := hM h (List.mem_cons_self ..)
     rw [List.foldl_cons]
     by_cases hw : wtN h n = w
     · rw [List.filter_cons_of_pos (by rw [beq_iff_eq]; exact hw), List.foldl_cons]
       by_cases h1 : h.getD i 0 = 1
       · obtain ⟨g1, g2⟩ := finv_step hI (hok h hhL h1)
         have ho2 : ∀ g, g ∈ out ++ [h] → g ∈ L := fun g hg => by
           rcases List.mem_append.1 hg with e | e
           · exact ho g e
           · rw [List.mem_singleton.1 e]; exact hhL
         cases hc : clsh out i h n
         · have e1 : stepR okc i out h = out ++ [h] := by
             unfold stepR
             rw [if_pos ⟨h1, by rw [hoc _ ho2]; exact g1.2 hc⟩]
           have e2 : stepF i w n out h = out ++ [h] := by unfold stepF; rw [if_pos ⟨h1, hc, hw⟩]
           rw [e1, e2]
           exact ih _ hM2 ho2 (g2 hc)
         · have e1 : stepR okc i out h = out := by
             unfold stepR
             rw [if_neg (fun e => by
               have h3 := e.2
               rw [hoc _ ho2] at h3
               rw [g1.1 h3] at hc; cases hc)]
           have e2 : stepF i w n out h = out := by unfold stepF; rw [if_neg (fun e => by rw [e.2.1] at hc; cases hc)]
           rw [e1, e2]
           exact ih _ hM2 ho hI
       · have e1 : stepR okc i out h = out := by unfold stepR; rw [if_neg (fun e => h1 e.1)]
         have e2 : stepF i w n out h = out := by unfold stepF; rw [if_neg (fun e => h1 e.1)]
         rw [e1, e2]
         exact ih _ hM2 ho hI
     · rw [List.filter_cons_of_neg (by rw [beq_iff_eq]; exact hw)]
       have e2 : stepF i w n out h = out := by unfold stepF; rw [if_neg (fun e => hw e.2.2)]
       rw [e2]
       exact ih _ hM2 ho hI
 exact key L [] (fun _ h => h) (fun _ h => by cases h) (finv_nil ok i n)
end Go.Proofs.YtlofhnmpbpjigaaGreat
namespace Go.Proofs.YtlofhnmpbpjigaaGreat
open Go.RowKit
set_option maxRecDepth 100000
set_option maxHeartbeats 16000000 in
theorem rSide_ok (w : World) (P M : Int) (n : Nat) (mv gv : Value) (Mod : List Int) (gen : List (List Int)) (hm : SI w mv Mod) (hg : SS w gv gen) (hE : codeE P M Mod n gen = 0) :
  Calls Tryz.prog 8 #[.agg #[.int .i64 P, .int .i64 M, mv, .int .i64 (n : Int), gv], .bool true] w (RetC w P M Mod n (nullL (refOps P M Mod) gen n)) := by
 have HDU := Lib.hid (fun (w' : World) (hb : Below w.heap.size w w') => rCDual_ok w' P M n mv gv Mod gen (hm.below hb (Nat.le_refl _)) (hg.below hb (Nat.le_refl _)) hE)
 clear hm hg hE
 generalize nullL (refOps P M Mod) gen n = D at *
 obtain ⟨ml, hml⟩ : ∃ k, k = Mod.length := ⟨_, rfl⟩
 obtain ⟨dl, hdl⟩ : ∃ k, k = D.length := ⟨_, rfl⟩
 have HML := Lib.hid hml; have HDL := Lib.hid hdl; clear hml hdl
 obtain ⟨w1, e1, hq⟩ := CCQ.mk' w P M mv n gv
 have HQ := Lib.hid hq; have HE1 := Lib.hid e1; clear hq e1
 go_enter Tryz.func8, Tryz.ntmps8
 go_upto_region 1 with fail
 rw [HE1.out]
 clear HE1
 have c0 := HQ.out.cb.c0; have c1 := HQ.out.cb.c1; have c2 := HQ.out.cb.c2; have c3 := HQ.out.cb.c3; have c4 := HQ.out.cb.c4
 go_wp2_with fail
 refine (HDU.out w1 HQ.out.cb.bel).mono ?_
 rintro e w2 ⟨u, g, rfl, hx, hb2⟩
 obtain ⟨⟨MA, mc, rfl, _⟩, ⟨DA, dc, rfl, _⟩⟩ := hx.out
 rw [← HML.out, ← HDL.out] at hx ⊢
 have HX := Lib.hid hx
 have HQ2 := Lib.hid (HQ.out.on hb2)
 have HS1 : Hid (w.heap.size ≤ w1.heap.size) := hid' HQ.out.cb.bel.size
 have HQL : Hid (w.heap.size + 1 < w1.heap.size) := hid' HQ.out.q.lt
 clear hx hb2 c0 c1 c2 c3 c4
 go_upto_region 3 with fail
 obtain ⟨w3, gd, e1, e2, hbx, hb3⟩ := mk_box w2 27 [.int .i64 P, .int .i64 M, .slice MA ml mc, .int .i64 (n : Int), .slice DA dl dc]
 rw [e1, e2]
 have HX3 := Lib.hid (HX.out.on hb3)
 have HQ3 := Lib.hid (HQ2.out.on hb3)
 have HBX := Lib.hid hbx
 have HGD : Hid (w.heap.size + 1 < gd) := hid' (by have h1 := HQ2.out.q.lt; omega)
 clear e1 e2 hbx hb3
 obtain ⟨d0, d1, d2, d3, d4, g0, g1, g2, g3, g4⟩ := HBX.out.five
 obtain ⟨y0, y1, y2, y3, y4, f0, f1, f2, f3, f4⟩ := HQ3.out.q.five
 go_wp2_with fail
 obtain ⟨w9, h9, HL⟩ := lay5 (x := .int .i64 P) (y := .int .i64 M) (z := .slice MA ml mc) (u := .int .i64 (n : Int)) (v := .slice DA dl dc) HQ3.out.q
 rw [h9]
 have q0 := HL.c0; have q1 := HL.c1; have q2 := HL.c2; have q3 := HL.c3; have q4 := HL.c4
 refine bodyPost_ret (v := .agg #[.int .i64 P, .int .i64 M, .slice MA ml mc, .int .i64 (n : Int), .slice DA dl dc]) (by simp [results, Tryz.results8, go_sem, q0, q1, q2, q3, q4]) rfl ?_
 have h1 := HX3.out
 have hq := HQ2.out.q.lt
 exact ⟨_, _, rfl, (h1.grown HL.gr (by rintro b e; cases e; have := HQL.out; omega)).mono HS1.out, HL.below HQ3.out.cb.bel HQ3.out.cb.bel.size (by omega)⟩
def dstN (a b : List Int) : Nat → Nat
 | 0 => 0
 | j + 1 => if a.getD j 0 = b.getD j 0 then dstN a b j else dstN a b j + 1
theorem dstN_le (a b : List Int) : ∀ j, dstN a b j ≤ j
 | 0 => Nat.le_refl _
 | j + 1 => by have := dstN_le a b j; rw [dstN]; split <;> omega
theorem dst_wt {a : List Int} {n : Nat} : ∀ j, dstN a (List.replicate n 0) j = wtN a j
 | 0 => rfl
 | j + 1 => by
  have e : (List.replicate n (0 : Int)).getD j 0 = 0 := by by_cases h : j < n <;> simp [List.getD, h]
  rw [dstN, wtN, dst_wt j, e]
set_option maxHeartbeats 8000000 in
theorem rDist_any (w : World) (va vb : Value) (a b : List Int) (ha : SI w va a) (hb : SI w vb b) (hl : a.length = b.length) :
  Calls Tryz.prog 74 #[va, vb] w (RetI w (dstN a b a.length : Nat)) := by
 obtain ⟨A, c, rfl, h⟩ := ha
 have hn := h.len
 have HA := Lib.hid h.si; clear h
 obtain ⟨B, d, rfl, _⟩ := id hb
 have HB := Lib.hid hb; clear hb
 rw [← hl] at HB ⊢
 have HL := Lib.hid hl; clear hl
 generalize hm : a.length = m at *
 have HM := Lib.hid hm; clear hm
 have HDL := Lib.hid (dstN_le a b)
 go_enter Tryz.func74, Tryz.ntmps74
 go_wp2_with fail
 go_loopw [5, 6] (fun d i wr => ∃ k : Nat, k ≤ m ∧ i = .int .i64 (k : Int) ∧ d = .int .i64 (dstN a b k : Nat) ∧ Hid (Below w.heap.size w wr)) (fun _ i _ => m - (intOf i).toNat)
 case atStart => exact ⟨0, Nat.zero_le _, rfl, rfl, bl_refl _⟩
 case round =>
  obtain ⟨k, hk, rfl, rfl, HZ⟩ := hrel
  have hdl := HDL.out k
  by_cases hkm : k < m
  ·obtain ⟨ad, x, rfl, hx, _, HX⟩ := (HA.out.below HZ.out (Nat.le_refl _)).elt (k := k) (by rw [HM.out]; exact hkm)
   obtain ⟨bd, y, rfl, hy, _, HY⟩ := (HB.out.below HZ.out (Nat.le_refl _)).elt (k := k) (by rw [← HL.out]; exact hkm)
   have HS : Hid (dstN a b (k + 1) = if x = y then dstN a b k else dstN a b k + 1) := hid' (by show _ = _; rw [dstN, HX.out, HY.out])
   generalize dstN a b k = s at *
   by_cases hxy : x = y
   ·have e1 : (x != y) = false := by rw [bne_eq_false_iff_eq]; exact hxy
    have HS2 : Hid (dstN a b (k + 1) = s) := hid' (by rw [HS.out, if_pos hxy])
    clear hxy
    go_wp2_with fail
    go_quiet (fail)
    go_wp2_with fail
    exact ⟨⟨k + 1, by omega, by push_cast; rfl, by rw [HS2.out], bl_trans HZ.out (bl_drewN _ _)⟩, by simp only [intOf]; omega⟩
   ·have e1 : (x != y) = true := by rw [bne_iff_ne]; exact hxy
    have HS2 : Hid (dstN a b (k + 1) = s + 1) := hid' (by rw [HS.out, if_neg hxy])
    clear hxy
    go_wp2_with fail
    go_quiet (fail)
    go_wp2_with fail
    exact ⟨⟨k + 1, by omega, by push_cast; rfl, by rw [HS2.out]; push_cast; rfl, bl_trans HZ.out (bl_drewN _ _)⟩, by simp only [intOf]; omega⟩
  ·obtain rfl : m = k := by omega
   go_wp2_with fail
   go_ret
   exact ⟨rfl, HZ.out⟩
def atRow (q k s t : Nat) : List Int := rowOf k fun j => if k ≤ j + t then (dgt q s (k - 1 - j) : Int) else 0
theorem atRow_len (q k s t : Nat) : (atRow q k s t).length = k := rowOf_len _ _
theorem atRow_zero (q k s : Nat) : atRow q k s 0 = List.replicate k 0 := by
 rw [← rowOf_zero]
 exact rowOf_congr fun j hj => if_neg (by omega)
theorem atRow_full (q k s : Nat) : atRow q k s k = dgtL q k s := by
 refine ext_getD (by rw [atRow_len, dgtL_len]) fun j hj => ?_
 rw [atRow_len] at hj
 rw [dgtL_at hj, atRow, rowOf_getD hj, if_pos (by omega)]
theorem atRow_set {q k s t i : Nat} (hi : k = i + 1 + t) : (atRow q k s t).set i (dgt q s t : Int) = atRow q k s (t + 1) := by
 refine ext_getD (by rw [List.length_set, atRow_len, atRow_len]) fun j hj => ?_
 rw [List.length_set, atRow_len] at hj
 unfold atRow
 rw [rowOf_getD hj]
 by_cases e : i = j
 · subst e
   rw [if_pos (by omega), show k - 1 - i = t by omega]
   simp [List.getD, rowOf_len, hj]
 · have : ((rowOf k fun j => if k ≤ j + t then (dgt q s (k - 1 - j) : Int) else 0).set i (dgt q s t : Int)).getD j 0 = (rowOf k fun j => if k ≤ j + t then (dgt q s (k - 1 - j) : Int) else 0).getD j 0 := by
     simp only [List.getD, List.getElem?_set_ne e]
   rw [this, rowOf_getD hj]
   by_cases h : k ≤ j + t
   · rw [if_pos h, if_pos (by omega)]
   · rw [if_neg h, if_neg (by omega)]
set_option maxHeartbeats 16000000 in
theorem rAt_any (w : World) (P M : Int) (N q s : Nat) (mv gv : Value) (Mod : List Int) (gen : List (List Int)) (hm : SI w mv Mod) (hg : SS w gv gen) (hE : codeE P M Mod N gen = 0) (hO : (refOps P M Mod).Fld (orderF P M)) (hq : orderF P M = (q : Int)) (hs : s ≤ 1000000000) :
  Calls Tryz.prog 29 #[.agg #[.int .i64 P, .int .i64 M, mv, .int .i64 (N : Int), gv], .int .i64 (s : Int)] w (RetO w (pwL (refOps P M Mod) q N gen gen.length s)) := by
 obtain ⟨hf, _, h64, h256, hR, _⟩ := codeE_zero hE
 rw [Int.toNat_natCast] at hR
 have hq2 : 2 ≤ q := by have := hO.lt.pos; omega
 have hq256 : q ≤ 256 := by have := orderF_bounds P M; omega
 have HOR := Lib.hid (fun (w' : World) => by have := order_any w' P M mv; rw [hq] at this; exact this)
 have HCB := Lib.hid (fun (w' : World) (u : Value) (hb : Below w.heap.size w w') (hu : SI w' u (dgtL q gen.length s)) => rCombine_any w' P M N mv u gv Mod (dgtL q gen.length s) gen (hm.below hb (Nat.le_refl _)) hu (hg.below hb (Nat.le_refl _)) hf.1 hf.2.2.1 (fun k hk _ => by rw [(hR k hk).1]; exact Nat.le_refl _) (by omega))
 rw [combL_dgt (hq ▸ hO) (hq ▸ hR) s] at HCB
 unfold RetO at HCB
 obtain ⟨GA, gc, rfl, _⟩ := hg
 clear hm hE hO hf hR h64
 generalize pwL (refOps P M Mod) q N gen gen.length s = out at *
 generalize gen.length = k at *
 have hmk := fun (w : World) => run_mkI k (by omega) w
 have HF := Lib.hid (CBox.mk' w P M mv N (.slice GA k gc))
 go_enter Tryz.func29, Tryz.ntmps29
 go_upto_region 1 with fail
 generalize w.alloc (.cells #[.int .i64 P, .int .i64 M, mv, .int .i64 (N : Int), .slice GA k gc] 27) = w0 at *
 have c0 := HF.out.c0; have c1 := HF.out.c1; have c2 := HF.out.c2
 go_wp2_with fail
 refine (HOR.out w0).mono ?_
 rintro e w1 ⟨rfl, hb1⟩
 have HF1 := Lib.hid (HF.out.on hb1)
 clear hb1 c0 c1 c2
 have c4 := HF1.out.c4
 go_upto_region 3 with fail
 obtain ⟨w2, g, e1, e2, hX, hb2⟩ : ∃ w' g, w1.alloc (.cells (madeCells #[.int .i64 0] k) 3) = w' ∧ w1.heap.size = g ∧ RI w' g (List.replicate k 0) ∧ Below w1.heap.size w1 w' := ⟨_, _, rfl, rfl, RI.made w1 k, bl_alloc w1 _⟩
 rw [e1, e2]
 have hgw : w.heap.size < g := by have := HF1.out.blk.lt; omega
 have HX := Lib.hid hX
 rw [← atRow_zero q k s] at HX
 have HF2 := Lib.hid (HF1.out.on hb2)
 clear e1 e2 hX hb2 c4 hmk
 have hq0 : ¬ (q : Int) = 0 := by omega
 have hwk : IntKind.i64.wrap ((k : Int) - 1) = (k : Int) - 1 := IntWalk.i64_in _ (by omega)
 have hd0 : s / q ^ 0 = s := by simp
 go_wp2_with fail
 clear hwk
 go_loopw [1, 7] (fun nv iv wr => ∃ (t a : Nat), t ≤ k ∧ iv = .int .i64 ((k : Int) - 1 - (t : Int)) ∧ nv = .int .i64 (a : Int) ∧ a ≤ s ∧ Hid (a = s / q ^ t) ∧ Hid (RI wr g (atRow q k s t)) ∧ Hid (CBox w wr P M mv N (.slice GA k gc))) (fun _ iv _ => (intOf iv + 1).toNat)
 case atStart => exact ⟨0, s, Nat.zero_le _, by rw [Int.natCast_zero, Int.sub_zero], rfl, Nat.le_refl _, hd0.symm, HX, HF2⟩
 case round =>
  clear HX HF2 hd0
  obtain ⟨t, a, ht, rfl, rfl, has, HA, HX, HF⟩ := hrel
  by_cases htk : t < k
  ·obtain ⟨i, hi⟩ : ∃ i, k = i + 1 + t := ⟨k - 1 - t, by omega⟩
   have hii : (k : Int) - 1 - (t : Int) = (i : Int) := by omega
   have HI := Lib.hid hi
   have hik : i < k := by omega
   clear hi
   obtain ⟨d, hd⟩ : ∃ d, d = dgt q s t := ⟨_, rfl⟩
   obtain ⟨b, hb⟩ : ∃ b, b = a / q := ⟨_, rfl⟩
   have hrem : ((a : Int) % (q : Int)) = (d : Int) := by
    rw [hd, HA.out, dgt]; exact (Int.natCast_emod _ _).symm
   have hquo : ((a : Int) / (q : Int)) = (b : Int) := by rw [hb]; exact (Int.natCast_ediv _ _).symm
   have HBN : Hid (b = s / q ^ (t + 1)) := hid' (by rw [hb, HA.out, Nat.pow_succ, Nat.div_div_eq_div_mul])
   have hba : b ≤ a := by rw [hb]; exact Nat.div_le_self _ _
   have HST := Lib.hid (atRow_set (q := q) (s := s) HI.out)
   rw [← hd] at HST
   clear hd hb
   have hc := HX.out.cell i (by rw [atRow_len]; exact hik)
   have f1 := HX.out.frozen i
   have HX2 := Lib.hid (HX.out.set i (d : Int))
   rw [HST.out] at HX2
   have hgz := gr_set1 wr g i (.int .i64 (d : Int))
   have HFB := Lib.hid (HF.out.blk.grown hgz (by intro e; have := Option.some.inj e; omega))
   have HBB := Lib.hid (HF.out.bel.setCell (p := ⟨g, i, none⟩) (by show w.heap.size ≤ g; omega) (.int .i64 (d : Int)))
   clear hgz HST HA
   rw [hii]
   go_wp2_with fail
   exact ⟨⟨t + 1, b, by omega, by congr 1; push_cast; omega, rfl, by omega, HBN, HX2, ⟨HFB.out, HBB.out⟩⟩, by simp only [intOf]; omega⟩
  ·obtain rfl : t = k := by omega
   have hii : (t : Int) - 1 - (t : Int) = -1 := by omega
   rw [hii]
   rw [atRow_full] at HX
   have HSI := Lib.hid (HX.out.si (by rw [dgtL_len]; omega) (fun j => by
    by_cases hj : j < t
    ·rw [dgtL_at hj]; have := dgt_lt (show 0 < q by omega) s (t - 1 - j); exact I64.of_small (by omega) (by omega)
    ·rw [getD_len (by rw [dgtL_len]; omega)]; exact I64.zero))
   rw [dgtL_len] at HSI
   have c0 := HF.out.c0; have c1 := HF.out.c1; have c2 := HF.out.c2; have c3 := HF.out.c3; have c4 := HF.out.c4
   go_wp2_with fail
   refine (HCB.out wr _ HF.out.bel HSI.out).mono ?_
   rintro e w3 ⟨u, rfl, ho, hb3⟩
   have HO3 := Lib.hid (ho.mono HF.out.bel.size); have HB3 := Lib.hid (bl_trans HF.out.bel hb3)
   clear ho hb3 c0 c1 c2 c3 c4
   go_wp2_with fail
   go_ret
   exact ⟨_, rfl, HO3.out, HB3.out⟩
set_option maxHeartbeats 4000000 in
theorem clist1_any (w : World) (g a : Nat) (P M x : Int) (Mod : List Int) (hG : GF w a P M Mod) (hc : w.cell? ⟨g, 0, none⟩ = some (.pointer (some ⟨a, 0, none⟩))) :
  Calls Tryz.prog 93 #[.int .i64 x, .pointer (some ⟨g, 0, none⟩)] w (fun e w' => e = .returned (.bool (!(isB P M x))) ∧ w = w') := by
 have HG := Lib.hid hG; clear hG
 go_enter Tryz.func93, Tryz.ntmps93
 go_wp2_with fail
 refine (gis_any _ a P M x Mod HG.out).mono ?_
 rintro e w1 ⟨rfl, rfl⟩
 go_wp2_with fail
 go_ret
 exact ⟨rfl, rfl⟩
set_option maxHeartbeats 4000000 in
theorem indexC_any (w : World) (g a : Nat) (P M : Int) (Mod : List Int) (v : Value) (xs : List Int) (hG : GF w a P M Mod) (hc : w.cell? ⟨g, 0, none⟩ = some (.pointer (some ⟨a, 0, none⟩))) (hv : SI w v xs) :
  Calls Tryz.prog 122 #[v, .func (.func 93) #[] #[.pointer (some ⟨g, 0, none⟩)]] w (fun e w' => ∃ z, e = .returned (.int .i64 z) ∧ decide (0 ≤ z) = decide (entriesF (orderF P M) xs ≠ 0) ∧ w = w') := by
 obtain ⟨A, c, rfl, hv⟩ := hv
 have hn := hv.len
 have HV := Lib.hid hv; have HG := Lib.hid hG; have HC := Lib.hid hc; clear hv hG hc
 go_enter Tryz.func122, Tryz.ntmps122
 go_wp2_with fail
 go_loop [8] (fun i => ∃ k : Nat, k ≤ xs.length ∧ i = .int .i64 (k : Int) ∧ Hid (∀ j, j < k → 0 ≤ xs.getD j 0 ∧ xs.getD j 0 < orderF P M)) (fun i => xs.length - (intOf i).toNat)
 case atStart => exact ⟨0, Nat.zero_le _, rfl, hid' fun j hj => absurd hj (Nat.not_lt_zero _)⟩
 case round =>
  obtain ⟨k, hk, rfl, HK⟩ := hrel
  by_cases hlt : k < xs.length
  ·obtain ⟨ad, x, rfl, hcc, _, HX⟩ := HV.out.elt hlt
   go_wp2_with fail
   refine (clist1_any _ g a P M x Mod HG.out HC.out).mono ?_
   rintro e w1 ⟨rfl, rfl⟩
   by_cases hx : 0 ≤ x ∧ x < orderF P M
   ·rw [isB_true hx]
    have HXX := Lib.hid hx; clear hx
    go_wp2_with fail
    go_round
    case rel => exact ⟨k + 1, by omega, by go_num, hid' fun j hj => by
     by_cases e : j = k
     ·subst e; rw [HX.out]; exact HXX.out
     ·exact HK.out j (by omega)⟩
    case measure => simp [intOf]; omega
   ·rw [isB_false hx]
    have HE : Hid (entriesF (orderF P M) xs = 2) := entriesF_bad hlt (by rw [HX.out]; exact hx)
    clear hx
    go_wp2_with fail
    go_ret
    refine ⟨_, rfl, ?_, rfl⟩
    rw [HE.out]
    show decide ((0 : Int) ≤ (k : Int)) = true
    rw [decide_eq_true_eq]; omega
  ·obtain rfl : xs.length = k := by omega
   have HE : Hid (entriesF (orderF P M) xs = 0) := entriesF_ok HK.out
   go_wp2_with fail
   go_ret
   refine ⟨_, rfl, ?_, rfl⟩
   rw [HE.out]; rfl
set_option maxHeartbeats 8000000 in
theorem containsC_any (w : World) (g a : Nat) (P M : Int) (Mod : List Int) (v : Value) (xs : List Int) (hG : GF w a P M Mod) (hc : w.cell? ⟨g, 0, none⟩ = some (.pointer (some ⟨a, 0, none⟩))) (hv : SI w v xs) :
  Calls Tryz.prog 92 #[v, .func (.func 93) #[] #[.pointer (some ⟨g, 0, none⟩)]] w (fun e w' => e = .returned (.bool (decide (entriesF (orderF P M) xs ≠ 0))) ∧ w = w') := by
 have HI := Lib.hid (indexC_any w g a P M Mod v xs hG hc hv)
 clear hG hc hv
 go_enter Tryz.func92, Tryz.ntmps92
 go_wp2_with fail
 refine HI.out.mono ?_
 rintro e w2 ⟨z, rfl, hz, rfl⟩
 have HZ := Lib.hid hz; clear hz
 go_wp2_with fail
 go_ret
 exact ⟨by rw [← HZ.out]; rfl, rfl⟩
set_option maxHeartbeats 8000000 in
theorem cList_ok (w : World) (P M n : Int) (mv xv : Value) (Mod x : List Int) (hm : SI w mv Mod) (hx : SI w xv x) (hf : FieldP P M Mod) (hl : (x.length : Int) = n) (he : entriesF (orderF P M) x = 0) :
  Calls Tryz.prog 60 #[.agg #[.int .i64 P, .int .i64 M, mv], xv, .int .i64 n] w (RetI w 0) := by
 have HNW := Lib.hid (fun (w' : World) (hb : Below w.heap.size w w') => new_ok w' P M mv Mod (hm.below hb (Nat.le_refl _)) hf)
 unfold RetG at HNW
 have HX := Lib.hid hx
 have HE : Hid (decide (entriesF (orderF P M) x ≠ 0) = false) := hid' (by rw [he]; rfl)
 obtain ⟨XA, xc, rfl, _⟩ := hx
 obtain ⟨l, hll⟩ : ∃ l, l = x.length := ⟨_, rfl⟩
 rw [← hll] at HX hl ⊢
 clear hll hm hf he
 have hnb : ((l : Int) != n) = false := by rw [bne_eq_false_iff_eq]; exact hl
 clear hl
 have HF := Lib.hid (FBox.mk' w P M mv)
 go_enter Tryz.func60, Tryz.ntmps60
 go_upto_region 1 with fail
 generalize w.alloc (.cells #[.int .i64 P, .int .i64 M, mv] 24) = w0 at *
 have c0 := HF.out.c0; have c1 := HF.out.c1; have c2 := HF.out.c2
 go_wp2_with fail
 refine (HNW.out w0 HF.out.bel).mono ?_
 rintro e w1 ⟨a, rfl, hg, hb1⟩
 have HG := Lib.hid hg.out
 have HF1 := Lib.hid (HF.out.on hb1)
 clear hg hb1 c0 c1 c2
 go_upto_region 4 with fail
 obtain ⟨w2, g, e1, e2, hx2, hb2⟩ := mk_box w1 78 [.pointer (some ⟨a, 0, none⟩)]
 rw [e1, e2]
 have HF2 := Lib.hid (HF1.out.on hb2); have HG2 := Lib.hid (HG.out.on hb2); have HX2 := Lib.hid (HX.out.below HF2.out.bel (Nat.le_refl _))
 have HC := Lib.hid (containsC_any w2 g a P M Mod _ x HG2.out (hx2.cell 0) HX2.out)
 rw [HE.out] at HC
 clear e1 e2 hx2 hb2
 go_wp2_with fail
 refine HC.out.mono ?_
 rintro e w3 ⟨rfl, rfl⟩
 go_wp2_with fail
 go_ret
 exact ⟨rfl, HF2.out.bel⟩
set_option maxHeartbeats 8000000 in
theorem cWord_ok (w : World) (P M : Int) (n : Nat) (mv gv xv : Value) (Mod x : List Int) (gen : List (List Int)) (hm : SI w mv Mod) (hg : SS w gv gen) (hx : SI w xv x) (hE : codeE P M Mod n gen = 0) (hl : x.length = n) (he : entriesF (orderF P M) x = 0) :
  Calls Tryz.prog 76 #[.agg #[.int .i64 P, .int .i64 M, mv, .int .i64 (n : Int), gv], xv] w (RetI w 0) := by
 have HCK := Lib.hid (fun (w' : World) (hb : Below w.heap.size w w') => cCheck_any w' P M n mv gv Mod gen (hm.below hb (Nat.le_refl _)) (hg.below hb (Nat.le_refl _)))
 rw [hE] at HCK
 have HLI := Lib.hid (fun (w' : World) (hb : Below w.heap.size w w') => cList_ok w' P M n mv xv Mod x (hm.below hb (Nat.le_refl _)) (hx.below hb (Nat.le_refl _)) (codeE_zero hE).1 (by omega) he)
 clear hm hg hx hE hl he
 have HF := Lib.hid (CBox.mk' w P M mv n gv)
 go_enter Tryz.func76, Tryz.ntmps76
 go_upto_region 1 with fail
 generalize w.alloc (.cells #[.int .i64 P, .int .i64 M, mv, .int .i64 (n : Int), gv] 27) = w0 at *
 have c0 := HF.out.c0; have c1 := HF.out.c1; have c2 := HF.out.c2; have c3 := HF.out.c3; have c4 := HF.out.c4
 go_wp2_with fail
 refine (HCK.out w0 HF.out.bel).mono ?_
 rintro e w1 ⟨rfl, hb1⟩
 have HF1 := Lib.hid (HF.out.on hb1)
 clear hb1 c0 c1 c2 c3 c4
 have c0 := HF1.out.c0; have c1 := HF1.out.c1; have c2 := HF1.out.c2; have c3 := HF1.out.c3
 go_wp2_with fail
 refine (HLI.out w1 HF1.out.bel).mono ?_
 rintro e w2 ⟨rfl, hb2⟩
 have HF2 := Lib.hid (HF1.out.on hb2)
 clear hb2 c0 c1 c2 c3
 go_wp2_with fail
 go_ret
 exact ⟨rfl, HF2.out.bel⟩
set_option maxHeartbeats 8000000 in
theorem cHas_ok (w : World) (P M : Int) (n : Nat) (mv gv xv : Value) (Mod x : List Int) (gen : List (List Int)) (hm : SI w mv Mod) (hg : SS w gv gen) (hx : SI w xv x) (hE : codeE P M Mod n gen = 0) (hl : x.length = n) (he : entriesF (orderF P M) x = 0) :
  Calls Tryz.prog 39 #[.agg #[.int .i64 P, .int .i64 M, mv, .int .i64 (n : Int), gv], xv] w (fun e w' => e = .returned (.tuple #[.bool (inL (refOps P M Mod) gen x), .int .i64 0]) ∧ Below w.heap.size w w') := by
 have hsp : spaceE P M Mod n gen = 0 := by
  unfold codeE at hE
  split at hE
  ·rename_i h; exact absurd hE h
  split at hE
  ·exact hE
  ·cases hE
 have HWD := Lib.hid (fun (w' : World) (hb : Below w.heap.size w w') => cWord_ok w' P M n mv gv xv Mod x gen (hm.below hb (Nat.le_refl _)) (hg.below hb (Nat.le_refl _)) (hx.below hb (Nat.le_refl _)) hE hl he)
 have HSH := Lib.hid (fun (w' : World) (hb : Below w.heap.size w w') => sHas_ok w' P M n mv gv xv Mod gen x (hm.below hb (Nat.le_refl _)) (hg.below hb (Nat.le_refl _)) (hx.below hb (Nat.le_refl _)) hsp (by unfold vecE; rw [if_pos (by omega)]; exact he))
 obtain ⟨GA, gc, rfl, _⟩ := hg
 generalize gen.length = gl at *
 clear hm hx hE hl he hsp
 have HF := Lib.hid (CBox.mk' w P M mv n (.slice GA gl gc))
 go_enter Tryz.func39, Tryz.ntmps39
 go_upto_region 1 with fail
 generalize w.alloc (.cells #[.int .i64 P, .int .i64 M, mv, .int .i64 (n : Int), .slice GA gl gc] 27) = w0 at *
 have c0 := HF.out.c0; have c1 := HF.out.c1; have c2 := HF.out.c2; have c3 := HF.out.c3; have c4 := HF.out.c4
 go_wp2_with fail
 refine (HWD.out w0 HF.out.bel).mono ?_
 rintro e w1 ⟨rfl, hb1⟩
 have HF1 := Lib.hid (HF.out.on hb1)
 clear hb1 c0 c1 c2 c3 c4
 have c0 := HF1.out.c0; have c1 := HF1.out.c1; have c2 := HF1.out.c2; have c3 := HF1.out.c3; have c4 := HF1.out.c4
 go_upto_region 4 with fail
 refine Kept.start (S := fun w' => w'.cell? ⟨w.heap.size, 0, none⟩ = some (.int .i64 P) ∧ w'.cell? ⟨w.heap.size, 1, none⟩ = some (.int .i64 M) ∧ w'.cell? ⟨w.heap.size, 2, none⟩ = some mv ∧ w'.cell? ⟨w.heap.size, 3, none⟩ = some (.int .i64 (n : Int)) ∧ w'.cell? ⟨w.heap.size, 4, none⟩ = some (.slice GA gl gc)) (by kernel_rfl) (⟨c0, c1, c2, c3, c4⟩) (fun hHeld => ?_)
 change Kept _ _ _ _ 10 _ _ _
 refine Kept.tk 0 (v := ?_) rfl ?_ hHeld ?_
 rotate_left
 ·intro w' h; (try dsimp only at h); go_simp <;> with_reducible rfl
 try simp only [tda, tdb, tdc, Act.put, tdd, tde, tdf]
 refine Kept.tk 1 (v := ?_) rfl ?_ hHeld ?_
 rotate_left
 ·intro w' h; (try dsimp only at h); go_simp <;> with_reducible rfl
 try simp only [tda, tdb, tdc, Act.put, tdd, tde, tdf]
 refine Kept.tk 2 (v := ?_) rfl ?_ hHeld ?_
 rotate_left
 ·intro w' h; (try dsimp only at h); go_simp <;> with_reducible rfl
 try simp only [tda, tdb, tdc, Act.put, tdd, tde, tdf]
 refine Kept.tk 4 (v := ?_) rfl ?_ hHeld ?_
 rotate_left
 ·intro w' h; (try dsimp only at h); go_simp <;> with_reducible rfl
 try simp only [tda, tdb, tdc, Act.put, tdd, tde, tdf]
 refine Kept.only (i := 3) (by kernel_rfl) rfl (fun K hK => ?_)
 go_simp
 refine (cgen_any _ P M n mv GA gl gc).mono ?_; rintro e w3 ⟨rfl, hb3⟩; have HF3 := Lib.hid (HF1.out.on (bl_trans (bl_drew w1) hb3)); clear hb3
 refine hK.out _ _ (⟨HF3.out.c0, HF3.out.c1, HF3.out.c2, HF3.out.c3, HF3.out.c4⟩) (fun hHeld2 => ?_)
 clear hK K
 replace hHeld := hHeld2
 clear hHeld2
 try simp only [tda, tdb, tdc, Act.put, tdd, tde, tdf]
 refine Kept.only (i := 5) (by kernel_rfl) rfl (fun K hK => ?_)
 go_simp
 refine (HSH.out w3 HF3.out.bel).mono ?_; rintro e w4 ⟨rfl, hb4⟩; have HF4 := Lib.hid (HF3.out.on hb4); clear hb4
 refine hK.out _ _ (⟨HF4.out.c0, HF4.out.c1, HF4.out.c2, HF4.out.c3, HF4.out.c4⟩) (fun hHeld2 => ?_)
 clear hK K
 replace hHeld := hHeld2
 clear hHeld2
 try simp only [tda, tdb, tdc, Act.put, tdd, tde, tdf]
 refine Kept.tk 6 (v := ?_) rfl ?_ hHeld ?_
 rotate_left
 ·intro w' h; (try dsimp only at h); go_simp <;> with_reducible rfl
 try simp only [tda, tdb, tdc, Act.put, tdd, tde, tdf]
 refine Kept.tk 7 (v := ?_) rfl ?_ hHeld ?_
 rotate_left
 ·intro w' h; (try dsimp only at h); go_simp <;> with_reducible rfl
 try simp only [tda, tdb, tdc, Act.put, tdd, tde, tdf]
 refine Kept.tk 8 (v := ?_) rfl ?_ hHeld ?_
 rotate_left
 ·intro w' h; (try dsimp only at h); go_simp <;> with_reducible rfl
 try simp only [tda, tdb, tdc, Act.put, tdd, tde, tdf]
 refine Kept.only (i := 9) (by kernel_rfl) rfl (fun K hK => ?_)
 go_simp
 refine hK.out _ _ hHeld (fun hHeld2 => ?_)
 clear hK K
 clear hHeld2
 refine Kept.done (by kernel_rfl) ?_
 try simp only [tda, tdb, tdc, Act.put, tdd, tde, tdf]
 clear hHeld
 clear c0 c1 c2 c3 c4
 go_wp2_with fail
 go_ret2
 exact ⟨rfl, HF4.out.bel⟩
end Go.Proofs.YtlofhnmpbpjigaaGreat
namespace Go.Proofs.YtlofhnmpbpjigaaGreat
open Go.RowKit Go.Shelf
attribute [local go_sem] Oper.semAt_some
set_option linter.unusedVariables false
set_option maxRecDepth 100000
def Hd (Wz : World) (Dp : Nat → Prop) (W : World) : Prop := Wz.heap.size ≤ W.heap.size ∧ ∀ i, Dp i → W.heap[i]? = Wz.heap[i]?
theorem Hd.off {Wz W W' : World} {Dp X : Nat → Prop} (h : Hd Wz Dp W) (hl : ∀ i, Dp i → i < Wz.heap.size) (ho : Off X W W') (hx : ∀ i, Dp i → ¬ X i) : Hd Wz Dp W' :=
 ⟨Nat.le_trans h.1 ho.size, fun i hi => (ho.block i (Nat.lt_of_lt_of_le (hl i hi) h.1) (hx i hi)).trans (h.2 i hi)⟩
def capsW (cb ba by_ bg bf : Nat) : Array Value := #[.pointer (some ⟨cb, 0, none⟩), .pointer (some ⟨ba, 0, none⟩), .pointer (some ⟨by_, 0, none⟩), .pointer (some ⟨bg, 0, none⟩), .pointer (some ⟨bf, 0, none⟩)]
structure WD (Wz : World) (Dp : Nat → Prop) (P M : Int) (Mod : List Int) (gen : List (List Int)) (GA : Option Addr) (K gc cb ba by_ bg bf a l : Nat) : Prop where
 c4 : ∀ W, Hd Wz Dp W → W.cell? ⟨cb, 4, none⟩ = some (.slice GA K gc)
 gn : ∀ W, Hd Wz Dp W → SS W (.slice GA K gc) gen
 yl : ∀ W, Hd Wz Dp W → W.cell? ⟨by_, 0, none⟩ = some (.func (.yield l) #[] #[])
 gp : ∀ W, Hd Wz Dp W → W.cell? ⟨bg, 0, none⟩ = some (.pointer (some ⟨a, 0, none⟩))
 gf : ∀ W, Hd Wz Dp W → GF W a P M Mod
 fr : ∀ W, Hd Wz Dp W → W.cell? ⟨bf, 0, none⟩ = some (.func (.func 56) #[] (capsW cb ba by_ bg bf))
 nb : ¬ Dp ba
 lt : ∀ i, Dp i → i < Wz.heap.size
structure WS (Wz : World) (Dp Kp : Nat → Prop) (ba : Nat) (J : Nat → (Nat → Prop) → World → Prop) (t : Nat) (X : Nat → Prop) (W : World) : Prop where
 hd : Hd Wz Dp W
 at_ : Blk W ba 3 [.int .i64 (t : Int)]
 j : J t X W
 nx : ∀ i, Dp i → Kp i ∨ ¬ X i
 nb : ¬ X ba
theorem WS.bel {Wz W W' : World} {Dp Kp : Nat → Prop} {ba t : Nat} {J : Nat → (Nat → Prop) → World → Prop} {X : Nat → Prop} (h : WS Wz Dp Kp ba J t X W) (rJ : Rests J) (hl : ∀ i, Dp i → i < Wz.heap.size) (hb : Below W.heap.size W W') : WS Wz Dp Kp ba J t X W' :=
 ⟨h.hd.off hl (bel_off (X := fun _ => False) hb) (fun _ _ k => k), h.at_.belowS hb, rJ.on _ _ _ _ h.j ((bel_off (X := fun _ => False) hb).on fun i hi => ⟨rJ.lt _ _ _ h.j i hi, fun k => k⟩), h.nx, h.nb⟩
def FromPost (Wz : World) (Dp Kp : Nat → Prop) (ba : Nat) (J Jx : Nat → (Nat → Prop) → World → Prop) (n t' : Nat) (X : Nat → Prop) (W : World) (e : Ending) (W' : World) : Prop :=
 (e = .returned (.bool true) ∧ ∃ X', WS Wz Dp Kp ba J t' X' W' ∧ (∀ i, X' i → X i ∨ W.heap.size ≤ i) ∧ Off (fun i => X i ∨ i = ba) W W') ∨ (e = .returned (.bool false) ∧ ∃ k X', k < n ∧ Jx (k + 1) X' W')
theorem from_end {Wz W W1 w5 W6 : World} {Dp Kp : Nat → Prop} {ba t n : Nat} {J Jx : Nat → (Nat → Prop) → World → Prop} {X : Nat → Prop} {u : Value} {xs : List Int} {b : Bool} (hS : WS Wz Dp Kp ba J t X W) (rJ : Rests J) (hl : ∀ i, Dp i → i < Wz.heap.size) (hnb : ¬ Dp ba)
  (hO1 : Off (fun i => i = ba) W W1) (hsz : W1.heap.size = W.heap.size) (hA1 : Blk W1 ba 3 [.int .i64 ((t : Int) + 1)]) (hB5 : Below W1.heap.size W1 w5) (hO5 : OI W1.drew.heap.size w5 u xs) (ht : t < n)
  (h6 : (b = true → ∃ X', J (t + 1) X' W6 ∧ (∀ i, X' i → X i ∨ u.ownBlock = some i ∨ w5.heap.size ≤ i) ∧ Off X w5 W6 ∧ Kept2 Kp w5 W6) ∧ (b = false → ∃ X', Jx (t + 1) X' W6)) :
  FromPost Wz Dp Kp ba J Jx n (t + 1) X W (.returned (.bool b)) W6 := by
 cases b
 ·obtain ⟨X', h⟩ := h6.2 rfl
  exact .inr ⟨rfl, t, X', ht, h⟩
 ·obtain ⟨X', hj, hx, hoff, hkp⟩ := h6.1 rfl
  have hb5s := hB5.size
  have hba : ba < W.heap.size := hS.at_.lt
  have hu : ∀ i, u.ownBlock = some i → W.heap.size ≤ i := fun i hi => by have h1 : W1.heap.size ≤ i := (hO5.lt hi).1; omega
  have hbl : Blk w5 ba 3 [.int .i64 ((t : Int) + 1)] := hA1.belowS hB5
  have hhd : Hd Wz Dp W6 := by
   have h1 := (hS.hd.off hl hO1 fun i hi e => hnb (e ▸ hi)).off hl (bel_off (X := fun _ => False) hB5) fun _ _ k => k
   refine ⟨Nat.le_trans h1.1 hoff.size, fun i hi => ?_⟩
   rw [← h1.2 i hi]
   rcases hS.nx i hi with h2 | h2
   ·exact hkp i h2
   ·exact hoff.block i (Nat.lt_of_lt_of_le (hl i hi) h1.1) h2
  refine .inl ⟨rfl, X', ⟨hhd, ?_, by push_cast; exact hj, fun i hi => ?_, fun h => ?_⟩, fun i hi => ?_, ?_⟩
  ·have e : W6.heap[ba]? = w5.heap[ba]? := hoff.block ba (by omega) hS.nb
   have : Blk W6 ba 3 [.int .i64 ((t : Int) + 1)] := e.trans hbl
   push_cast; exact this
  ·rcases hS.nx i hi with h2 | h2
   ·exact .inl h2
   ·refine .inr fun h3 => ?_
    have h4 := hl i hi
    have h5 := hS.hd.1
    rcases hx i h3 with h6 | h6 | h6
    ·exact h2 h6
    ·have := hu i h6; omega
    ·omega
  ·rcases hx ba h with h6 | h6 | h6
   ·exact hS.nb h6
   ·have := hu ba h6; omega
   ·omega
  ·rcases hx i hi with h6 | h6 | h6
   ·exact .inl h6
   ·exact .inr (hu i h6)
   ·exact .inr (by omega)
  ·exact ((hO1.mono fun i _ h => .inr h).trans (bel_off hB5)).trans (hoff.mono fun i _ h => .inl h)
theorem roundZ_b {Kp : Nat → Prop} {J Jx : Nat → (Nat → Prop) → World → Prop} {k : Nat} {X : Nat → Prop} {u : Value} {W W' : World} {e : Ending} (h : RoundZ Kp J Jx k X u W e W') :
  ∃ b, e = .returned (.bool b) ∧ (b = true → ∃ X', J (k + 1) X' W' ∧ (∀ i, X' i → X i ∨ u.ownBlock = some i ∨ W.heap.size ≤ i) ∧ Off X W W' ∧ Kept2 Kp W W') ∧ (b = false → ∃ X', Jx (k + 1) X' W') := by
 rcases h with ⟨rfl, h⟩ | ⟨rfl, h⟩
 ·exact ⟨true, rfl, fun _ => h, (fun h => nomatch h)⟩
 ·exact ⟨false, rfl, (fun h => nomatch h), fun _ => h⟩
set_option maxHeartbeats 8000000 in
theorem from_zero {Wz : World} {Dp Kp : Nat → Prop} {P M : Int} {Mod : List Int} {gen L : List (List Int)} {GA : Option Addr} {K gc cb ba by_ bg bf a l : Nat} (hD : WD Wz Dp P M Mod gen GA K gc cb ba by_ bg bf a l)
  {J Jx : Nat → (Nat → Prop) → World → Prop} (rJ : Rests J) (hLL : (L.length ≤ 1000000 ∨ ∀ k X W, J k X W → k ≤ 1000000))
  (hY : ∀ k X1 W1 u, k < L.length → J k X1 W1 → SI W1 u (L.getD k []) → (∀ i, u.ownBlock = some i → i < W1.heap.size ∧ ¬ X1 i) → YieldAt Fence.wide 2 Tryz.prog l #[.int .i64 (k : Int), u] W1 (RoundZ Kp J Jx k X1 u W1))
  {t : Nat} (ht : t < L.length) {X : Nat → Prop} {W : World} (hS : WS Wz Dp Kp ba J t X W) {wv : Value} (hw : SI W wv (L.getD t [])) (hwn : ∀ i, wv.ownBlock = some i → i ≠ ba) :
  Calls Tryz.prog 56 #[.int .i64 (K : Int), wv, .pointer (some ⟨cb, 0, none⟩), .pointer (some ⟨ba, 0, none⟩), .pointer (some ⟨by_, 0, none⟩), .pointer (some ⟨bg, 0, none⟩), .pointer (some ⟨bf, 0, none⟩)] W
   (FromPost Wz Dp Kp ba J Jx L.length (t + 1) X W) := by
 have HWF := Lib.hid (show ∀ i, I64 ((L.getD t []).getD i 0) from by obtain ⟨A, c, rfl, h⟩ := hw; exact h.wf)
 have HD := Lib.hid hD; have HY := Lib.hid hY; have HS := Lib.hid hS; have HW := Lib.hid hw; have HRJ := Lib.hid rJ; have HT := Lib.hid ht; have HWN := Lib.hid hwn
 have ht6 : t ≤ 1000000 := by
  rcases hLL with h | h
  ·omega
  ·exact h _ _ _ hS.j
 clear hLL
 have c4 := hD.c4 W hS.hd
 have a0 : W.cell? ⟨ba, 0, none⟩ = some (.int .i64 (t : Int)) := hS.at_.cell 0
 have af := hS.at_.frozen 0
 have hw1 : wrap64 ((t : Int) + 1) = (t : Int) + 1 := by unfold wrap64; omega
 have HT6 := Lib.hid ht6; clear ht6
 have hkk : ((K : Int) == (K : Int)) = true := by simp
 have HA1 : Hid (Blk (W.setCell ⟨ba, 0, none⟩ (.int .i64 ((t : Int) + 1))) ba 3 [.int .i64 ((t : Int) + 1)]) := hS.at_.set_ 0 _
 have HO1 : Hid (Off (fun i => i = ba) W (W.setCell ⟨ba, 0, none⟩ (.int .i64 ((t : Int) + 1)))) := Off.setCell W ⟨ba, 0, none⟩ _ fun _ => rfl
 have HH1 : Hid (Hd Wz Dp (W.setCell ⟨ba, 0, none⟩ (.int .i64 ((t : Int) + 1)))) := hS.hd.off hD.lt HO1.out fun i hi e => hD.nb (e ▸ hi)
 have HJ1 : Hid (J t X (W.setCell ⟨ba, 0, none⟩ (.int .i64 ((t : Int) + 1)))) := rJ.on _ _ _ _ hS.j (HO1.out.on fun i hi => ⟨rJ.lt _ _ _ hS.j i hi, fun e => hS.nb (e ▸ hi)⟩)
 clear hD hY hS hw rJ ht hwn
 go_enter Tryz.func56, Tryz.ntmps56
 go_upto_region 3 with fail
 clear c4 a0 af
 have HW1 : Hid (SI (W.setCell ⟨ba, 0, none⟩ (.int .i64 ((t : Int) + 1))) wv (L.getD t [])) := hid' (HW.out.grown (gr_set1 W ba 0 _) fun _ g hg e => HWN.out g hg (Option.some.inj e).symm)
 have hsz1 : (W.setCell ⟨ba, 0, none⟩ (.int .i64 ((t : Int) + 1))).heap.size = W.heap.size := by show (W.heap.modify _ _).size = _; rw [Array.size_modify]
 have HSZ := Lib.hid hsz1
 rw [hw1]
 clear hw1 hsz1
 generalize W.setCell ⟨ba, 0, none⟩ (.int .i64 ((t : Int) + 1)) = W1 at *
 have y0 : W1.cell? ⟨by_, 0, none⟩ = some (.func (.yield l) #[] #[]) := HD.out.yl W1 HH1.out
 have a1 : W1.cell? ⟨ba, 0, none⟩ = some (.int .i64 ((t : Int) + 1)) := HA1.out.cell 0
 have ht6 := HT6.out
 have hw2 : wrap64 (t : Int) = (t : Int) := by unfold wrap64; omega
 have hw4 : IntKind.i64.wrap (t : Int) = (t : Int) := IntWalk.i64_in _ (by omega)
 have hw3 : (t : Int) + 1 - 1 = (t : Int) := by omega
 have hmix : Tryz.prog.follows .mixedOrders = true := by kernel_rfl
 clear ht6
 refine (wpIn_wide (n := 3)).1 ?_
 gi_region_with_o (first
  | (refine ⟨trivial, ?_⟩; gi_at_call 57; refine (callsIn_wide.2 (clone_any _ wv (L.getD t []) (HW1.out.below (bl_drew W1) (Nat.le_refl _)))).mono ?_; rintro e w5 ⟨u, rfl, ho, hb⟩; have hb := bl_trans (bl_drew W1) hb; have y5 := cell_below hb y0; have a5 := cell_below hb a1; have HB5 := Lib.hid hb; have HO5 := Lib.hid ho; clear ho hb; obtain ⟨fn, tmps, assign, body, hy, hR⟩ := HY.out t X w5 u HT.out (HRJ.out.on _ _ _ _ HJ1.out ((bel_off (X := fun _ => False) HB5.out).on fun i hi => ⟨HRJ.out.lt _ _ _ HJ1.out i hi, fun k => k⟩)) (HO5.out.si HW1.out.len' HWF.out) (fun i hi => ⟨(HO5.out.lt hi).2, fun hx => by have h1 := HRJ.out.lt _ _ _ HJ1.out i hx; have h2 := (HO5.out.lt hi).1; exact absurd h1 (Nat.not_lt_of_le h2)⟩); have HRR := Lib.hid hR; clear hR)
  | (refine ⟨fun h => (by cases h), ?_⟩; refine HRR.out.mono ?_; rintro e W6 hr; obtain ⟨b, rfl, hq⟩ := roundZ_b hr; have H6 := Lib.hid hq; clear hr hq)
  | (refine HRR.out.mono ?_; rintro e W6 hr; obtain ⟨b, rfl, hq⟩ := roundZ_b hr; have H6 := Lib.hid hq; clear hr hq)
  | fail)
 all_goals
  go_wp2_with fail
  go_ret
  exact from_end HS.out HRJ.out HD.out.lt HD.out.nb HO1.out HSZ.out HA1.out HB5.out HO5.out HT.out H6.out
end Go.Proofs.YtlofhnmpbpjigaaGreat
namespace Go.Proofs.YtlofhnmpbpjigaaGreat
open Go.RowKit
set_option maxRecDepth 100000
theorem Off.trans2 {X Y : Nat → Prop} {A B C : World} (h : Off X A B) (k : Off Y B C) (hy : ∀ i, i < A.heap.size → Y i → X i) : Off X A C :=
 ⟨k.os.trans h.os, k.tape.trans h.tape, k.output.trans h.output, Nat.le_trans h.size k.size, fun i hi hx => (k.block i (Nat.lt_of_lt_of_le hi h.size) fun hyi => hx (hy i hi hyi)).trans (h.block i hi hx)⟩
theorem SI.off {X : Nat → Prop} {W W' : World} {v : Value} {xs : List Int} (h : SI W v xs) (ho : Off X W W') (hn : ∀ i, v.ownBlock = some i → ¬ X i) : SI W' v xs := by
 obtain ⟨A, c, rfl, hs⟩ := h
 refine ⟨A, c, rfl, hs.len, hs.cap, fun k hk => ?_, hs.wf⟩
 obtain ⟨ad, e, hc⟩ := hs.cell k hk
 refine ⟨ad, e, ?_⟩
 subst e
 have hb := World.block_lt_of_cell? _ _ hc
 rw [World.cell?_of_block (ho.block _ hb (by rw [block_of_add]; exact hn ad.block rfl))]
 exact hc
def FromAt (Wz : World) (Dp Kp : Nat → Prop) (J Jx : Nat → (Nat → Prop) → World → Prop) (O : FOps) (q N K : Nat) (gen L : List (List Int)) (cb ba by_ bg bf r : Nat) : Prop :=
 ∀ (row s : Nat) (X : Nat → Prop) (W : World) (wv : Value), row + r = K → s < q ^ row → WS Wz Dp Kp ba J (s * q ^ r) X W → SI W wv (pwL O q N gen row s) → (∀ i, wv.ownBlock = some i → i ≠ ba ∧ ¬ X i) →
  Calls Tryz.prog 56 #[.int .i64 (row : Int), wv, .pointer (some ⟨cb, 0, none⟩), .pointer (some ⟨ba, 0, none⟩), .pointer (some ⟨by_, 0, none⟩), .pointer (some ⟨bg, 0, none⟩), .pointer (some ⟨bf, 0, none⟩)] W (FromPost Wz Dp Kp ba J Jx L.length ((s + 1) * q ^ r) X W)
set_option maxHeartbeats 32000000 in
theorem from_succ {Wz : World} {Dp Kp : Nat → Prop} {P M : Int} {Mod : List Int} {gen L : List (List Int)} {GA : Option Addr} {K N q gc cb ba by_ bg bf a l r : Nat} (hD : WD Wz Dp P M Mod gen GA K gc cb ba by_ bg bf a l)
   {J Jx : Nat → (Nat → Prop) → World → Prop} (rJ : Rests J) (hq : orderF P M = (q : Int)) (hf : FieldP P M Mod) (hK : gen.length = K) (hK2 : K ≤ 1000) (hN1 : 1 ≤ N) (hN : N ≤ 1000) (hR : Rows (q : Int) N gen)
   (IH : FromAt Wz Dp Kp J Jx (refOps P M Mod) q N K gen L cb ba by_ bg bf r) : FromAt Wz Dp Kp J Jx (refOps P M Mod) q N K gen L cb ba by_ bg bf (r + 1) := by
 intro row s X W wv hrow hs hS hw hwn
 have hO := ref_fld hf
 rw [hq] at hO
 have hq2 : 2 ≤ q := by have := hO.lt.pos; omega
 have hq6 : q ≤ 256 := by have := orderF_bounds P M; omega
 have HD := Lib.hid hD; have HRJ := Lib.hid rJ; have HIH := Lib.hid IH; have HW := Lib.hid hw; have HWN := Lib.hid hwn
 have HQ := Lib.hid hq
 have HFO := Lib.hid hf.1
 have HPL : Hid (∀ j, 0 ≤ (pwL (refOps P M Mod) q N gen row s).getD j 0 ∧ (pwL (refOps P M Mod) q N gen row s).getD j 0 < (q : Int)) := hid' (pwL_rng hO N gen row s)
 have HNX : Hid (∀ a, a < q → pwL (refOps P M Mod) q N gen (row + 1) (s * q + a) = rowOf N fun j => addF P M ((pwL (refOps P M Mod) q N gen row s).getD j 0) (mulR P M Mod (a : Int) (ent gen row j))) := hid' fun a ha => pwL_next ha
 have HAZ : Hid (∀ x, 0 ≤ x → x < (q : Int) → ∀ a y, (a = 0 ∨ y = 0) → addF P M x (mulR P M Mod a y) = x) := hid' fun x h1 h2 a y h => by
   have e : mulR P M Mod a y = 0 := by
     rcases h with rfl | rfl
     · exact hO.zero_mul y
     · exact hO.mul_zero a
   rw [e]; exact hO.add_zero x h1 h2
 have HNL : Hid (∀ a, a < q → s * q + a < q ^ (row + 1)) := hid' fun a ha => by
   rw [Nat.pow_succ]
   have := Nat.mul_le_mul_right q (show s + 1 ≤ q ^ row from hs)
   rw [Nat.add_mul, Nat.one_mul] at this; omega
 have HPL2 : Hid ((pwL (refOps P M Mod) q N gen row s).length = N) := hid' (pwL_len _ _ _ _ _ _)
 have HGL := Lib.hid hK; have HGR := Lib.hid hR
 obtain ⟨pw, hpw⟩ : ∃ pw, pw = pwL (refOps P M Mod) q N gen row s := ⟨_, rfl⟩
 rw [← hpw] at HW HPL HNX HPL2
 clear hpw
 have hrK : row < K := by omega
 have c4 := hD.c4 W hS.hd
 have g0 := hD.gp W hS.hd
 have HGF := Lib.hid (hD.gf W hS.hd)
 have k1 : ((row : Int) == (K : Int)) = false := by rw [beq_eq_false_iff_ne]; omega
 have HS0 : Hid (∃ X', WS Wz Dp Kp ba J ((s * q + 0) * q ^ r) X' W ∧ (∀ i, X' i → X i ∨ W.heap.size ≤ i) ∧ Off (fun i => X i ∨ i = ba) W W) := hid' ⟨X, by rw [Nat.add_zero, show s * q * q ^ r = s * q ^ (r + 1) by rw [Nat.pow_succ', Nat.mul_assoc]]; exact hS, fun i hi => .inl hi, Off.refl _ _⟩
 have HEN : Hid ((s * q + q) * q ^ r = (s + 1) * q ^ (r + 1)) := hid' (by rw [Nat.pow_succ', ← Nat.mul_assoc, Nat.add_mul s 1 q, Nat.one_mul])
 have HRW : Hid (row + 1 + r = K) := hid' (by omega)
 have HXS : Hid (∀ i, X i → i < W.heap.size) := hid' (rJ.lt _ _ _ hS.j)
 have HBS : Hid (ba < W.heap.size) := hid' hS.at_.lt
 clear hD rJ hq hf hK IH hrow hs hS hw hwn hO hR
 go_enter Tryz.func56, Tryz.ntmps56
 go_wp2_with fail
 refine (gorder_any _ a P M Mod HGF.out).mono ?_
 rintro e w0 ⟨rfl, rfl⟩
 rw [HQ.out]
 clear c4 g0
 go_wp2_with fail
 go_loopw [10, 11, 29] (fun _ _ i wr => ∃ x : Nat, x ≤ q ∧ i = .int .i64 (x : Int) ∧ Hid (∃ X', WS Wz Dp Kp ba J ((s * q + x) * q ^ r) X' wr ∧ (∀ i, X' i → X i ∨ W.heap.size ≤ i) ∧ Off (fun i => X i ∨ i = ba) W wr)) (fun _ _ i _ => q - (intOf i).toNat)
 case atStart => exact ⟨0, Nat.zero_le _, rfl, HS0⟩
 case round =>
   clear HS0
   obtain ⟨x, hx, rfl, HSX⟩ := hrel
   obtain ⟨Xa, hSa, hXa, hOa⟩ := HSX.out
   have HSA := Lib.hid hSa; have HXA := Lib.hid hXa; have HOA := Lib.hid hOa
   clear hSa hXa hOa HSX
   generalize wr = wo at *
   by_cases hxq : x < q
   · have e1 : decide (x < q) = true := decide_eq_true hxq
     have HWO : Hid (SI wo wv pw) := hid' (HW.out.off HOA.out fun i hi h => by rcases h with h | h; exact (HWN.out i hi).2 h; exact (HWN.out i hi).1 h)
     have c4o := HD.out.c4 wo HSA.out.hd
     obtain ⟨ad, Ak, ck, xs, hga, hcco, HX, HXE⟩ := (HD.out.gn wo HSA.out.hd).eltA (k := row) (by rw [HGL.out]; exact hrK)
     have HXL : Hid (xs.length = N ∧ ∀ j, ent gen row j = xs.getD j 0) := hid' ⟨by rw [← HXE.out]; exact (HGR.out row (by rw [HGL.out]; exact hrK)).1, fun j => by unfold ent; rw [HXE.out]⟩
     have HXR : Hid (∀ j, 0 ≤ xs.getD j 0 ∧ xs.getD j 0 < (q : Int)) := hid' fun j => by
       have := (HGR.out row (by rw [HGL.out]; exact hrK)).2 j
       rw [HXE.out] at this; exact this
     have hx1 := HX.out.si
     rw [HXL.out.1] at hcco hx1
     have HX1 := Lib.hid hx1
     rw [hga] at c4o
     clear hga hx1 HX
     go_wp2_with fail
     refine (clone_any wo wv pw HWO.out).mono ?_
     rintro e w1 ⟨u, rfl, ho, hb1⟩
     obtain ⟨g, c, rfl, hg0, hg1⟩ := ho.form (by rw [HPL2.out]; exact hN1)
     rw [HPL2.out] at ho ⊢
     have HGO := Lib.hid hg0
     obtain ⟨f, hfe⟩ : ∃ f : Nat → Int, f = fun j => addF P M (pw.getD j 0) (mulR P M Mod (x : Int) (ent gen row j)) := ⟨_, rfl⟩
     have HF : Hid (∀ j, f j = addF P M (pw.getD j 0) (mulR P M Mod (x : Int) (xs.getD j 0))) := hid' fun j => by rw [hfe]; dsimp only; rw [HXL.out.2 j]
     have HFN : Hid (rowOf N f = pwL (refOps P M Mod) q N gen (row + 1) (s * q + x)) := hid' (by rw [HNX.out x hxq, hfe])
     have HO0 : Hid (OI wo.heap.size w1 (.slice (some ⟨g, 0, none⟩) N c) (fillTo N f (fun j => pw.getD j 0) 0)) := hid' (by rw [fillTo_zero, rowOf_self HPL2.out]; exact ho)
     have HB1 := Lib.hid hb1
     have c4 := cell_below hb1 c4o
     have hcc := cell_below hb1 hcco
     clear ho hb1 hg0 hg1 hfe c4o hcco
     go_wp2_with fail
     clear c4 hcc
     go_loopw [12, 13, 40] (fun _ _ i wr => ∃ j : Nat, j ≤ N ∧ i = .int .i64 (j : Int) ∧ Hid (OI wo.heap.size wr (.slice (some ⟨g, 0, none⟩) N c) (fillTo N f (fun j => pw.getD j 0) j)) ∧ Hid (Below wo.heap.size wo wr)) (fun _ _ i _ => N - (intOf i).toNat)
     case atStart => exact ⟨0, Nat.zero_le _, rfl, HO0, HB1⟩
     case round =>
       clear HO0 HB1
       obtain ⟨j, hj, rfl, HO, HB⟩ := hrel
       have HSr := Lib.hid (HSA.out.bel HRJ.out HD.out.lt HB.out)
       by_cases hjN : j < N
       · have e2 : decide (j < N) = true := decide_eq_true hjN
         obtain ⟨xd, y, rfl, hyc, _, HYY⟩ := (HX1.out.below HB.out (Nat.le_refl _)).elt (k := j) (by rw [HXL.out.1]; exact hjN)
         have d1 := HO.out.cell j (by rw [fillTo_len]; exact hjN)
         rw [fillTo_getD hjN] at d1
         have f1 := HO.out.frozen j
         have HFJ : Hid (f j = addF P M (pw.getD j 0) (mulR P M Mod (x : Int) y)) := hid' (by rw [HF.out, HYY.out])
         have HSTY : Hid (((x : Int) = 0 ∨ y = 0) → fillTo N f (fun j => pw.getD j 0) (j + 1) = fillTo N f (fun j => pw.getD j 0) j) := hid' fun h => fillTo_stay fun _ => by
           rw [HFJ.out]; exact HAZ.out _ (HPL.out j).1 (HPL.out j).2 _ _ h
         have HSET := Lib.hid (fillTo_set (f := f) (g := fun j => pw.getD j 0) hjN)
         rw [HFJ.out] at HSET
         generalize pw.getD j 0 = z at *
         by_cases hx0 : (x : Int) = 0
         · have k2 : ((x : Int) != 0) = false := by rw [bne_eq_false_iff_eq]; exact hx0
           have HSN := Lib.hid (HSTY.out (.inl hx0))
           clear hx0
           go_wp2_with fail
           exact ⟨⟨j + 1, by omega, by push_cast; rfl, by rw [HSN.out]; exact HO, HB⟩, by simp only [intOf]; omega⟩
         have k2 : ((x : Int) != 0) = true := by rw [bne_iff_ne]; exact hx0
         by_cases hy0 : y = 0
         · have k3 : (y != 0) = false := by rw [bne_eq_false_iff_eq]; exact hy0
           have HSN := Lib.hid (HSTY.out (.inr hy0))
           clear hx0 hy0
           go_wp2_with fail
           exact ⟨⟨j + 1, by omega, by push_cast; rfl, by rw [HSN.out]; exact HO, HB⟩, by simp only [intOf]; omega⟩
         have k3 : (y != 0) = true := by rw [bne_iff_ne]; exact hy0
         have g0 := HD.out.gp wr HSr.out.hd
         have HGr := Lib.hid (HD.out.gf wr HSr.out.hd)
         clear hx0 hy0
         go_wp2_with fail
         refine Drawn.start (S := fun w' => w'.cell? ⟨bg, 0, none⟩ = some (.pointer (some ⟨a, 0, none⟩)) ∧ w'.cell? ⟨g, j, none⟩ = some (.int .i64 z)) (by kernel_rfl) (⟨g0, d1⟩) (fun hHeld => ?_)
         change Drawn _ _ _ _ 14 _ _ _
         refine Drawn.tk 0 (v := ?_) rfl ?_ hHeld ?_
         rotate_left
         · intro w' h; (try dsimp only at h); go_simp <;> with_reducible rfl
         try simp only [tda, tdb, tdc, Act.put, tdd, tde, tdf]
         refine Drawn.tk 1 (v := ?_) rfl ?_ hHeld ?_
         rotate_left
         · intro w' h; (try dsimp only at h); go_simp <;> with_reducible rfl
         try simp only [tda, tdb, tdc, Act.put, tdd, tde, tdf]
         refine Drawn.tk 2 (v := ?_) rfl ?_ hHeld ?_
         rotate_left
         · intro w' h; (try dsimp only at h); go_simp <;> with_reducible rfl
         try simp only [tda, tdb, tdc, Act.put, tdd, tde, tdf]
         refine Drawn.tk 3 (v := ?_) rfl ?_ hHeld ?_
         rotate_left
         · intro w' h; (try dsimp only at h); go_simp <;> with_reducible rfl
         try simp only [tda, tdb, tdc, Act.put, tdd, tde, tdf]
         refine Drawn.tk 4 (v := ?_) rfl ?_ hHeld ?_
         rotate_left
         · intro w' h; (try dsimp only at h); go_simp <;> with_reducible rfl
         try simp only [tda, tdb, tdc, Act.put, tdd, tde, tdf]
         refine Drawn.tk 5 (v := ?_) rfl ?_ hHeld ?_
         rotate_left
         · intro w' h; (try dsimp only at h); go_simp <;> with_reducible rfl
         try simp only [tda, tdb, tdc, Act.put, tdd, tde, tdf]
         refine Drawn.tk 6 (v := ?_) rfl ?_ hHeld ?_
         rotate_left
         · intro w' h; (try dsimp only at h); go_simp <;> with_reducible rfl
         try simp only [tda, tdb, tdc, Act.put, tdd, tde, tdf]
         refine Drawn.tk 7 (v := ?_) rfl ?_ hHeld ?_
         rotate_left
         · intro w' h; (try dsimp only at h); go_simp <;> with_reducible rfl
         try simp only [tda, tdb, tdc, Act.put, tdd, tde, tdf]
         refine Drawn.tk 8 (v := ?_) rfl ?_ hHeld ?_
         rotate_left
         · intro w' h; (try dsimp only at h); go_simp <;> with_reducible rfl
         try simp only [tda, tdb, tdc, Act.put, tdd, tde, tdf]
         refine Drawn.tk 9 (v := ?_) rfl ?_ hHeld ?_
         rotate_left
         · intro w' h; (try dsimp only at h); go_simp <;> with_reducible rfl
         try simp only [tda, tdb, tdc, Act.put, tdd, tde, tdf]
         refine Drawn.only (i := 10) (by kernel_rfl) rfl (fun K hK => ?_)
         go_simp
         refine (gmul_any _ a P M (x : Int) y Mod (HGr.out.on (bl_drew wr))).mono ?_; rintro e w3 ⟨rfl, hb⟩; have hb := bl_trans (bl_drew wr) hb; have HG3 := Lib.hid (HGr.out.on hb); have HB3 := Lib.hid (bl_trans HB.out hb); have HO3 := Lib.hid (HO.out.below hb (Nat.le_refl _)); have g3 := cell_below hb g0; have d3 := cell_below hb d1; clear hb
         refine hK.out _ _ (fun _ => ⟨g3, d3⟩) (fun hHeld2 => ?_)
         clear hK K
         replace hHeld := hHeld2 (by decide)
         clear hHeld2
         try simp only [tda, tdb, tdc, Act.put, tdd, tde, tdf]
         refine Drawn.only (i := 11) (by kernel_rfl) rfl (fun K hK => ?_)
         go_simp
         refine (gadd_any _ a P M z _ Mod HG3.out).mono ?_; rintro e w4 ⟨rfl, hb⟩; have HB4 := Lib.hid (bl_trans HB3.out hb); have HO4 := Lib.hid (HO3.out.below hb (Nat.le_refl _)); have g4 := cell_below hb g3; have d4 := cell_below hb d3; have f4 := HO4.out.frozen j; clear hb
         refine hK.out _ _ (fun _ => ⟨g4, d4⟩) (fun hHeld2 => ?_)
         clear hK K
         replace hHeld := hHeld2 (by decide)
         clear hHeld2
         try simp only [tda, tdb, tdc, Act.put, tdd, tde, tdf]
         refine Drawn.tk 12 (v := ?_) rfl ?_ hHeld ?_
         rotate_left
         · intro w' h; (try dsimp only at h); go_simp <;> with_reducible rfl
         try simp only [tda, tdb, tdc, Act.put, tdd, tde, tdf]
         refine Drawn.only (i := 13) (by kernel_rfl) rfl (fun K hK => ?_)
         go_simp
         refine hK.out _ _ (fun h => absurd rfl h) (fun hHeld2 => ?_)
         clear hK K
         clear hHeld2
         refine Drawn.done (by kernel_rfl) ?_
         try simp only [tda, tdb, tdc, Act.put, tdd, tde, tdf]
         clear hHeld
         have HO5 := Lib.hid (HO4.out.set j (addF P M z (mulR P M Mod (x : Int) y)))
         rw [HSET.out] at HO5
         have HB5 := Lib.hid (HB4.out.setCell (p := ⟨g, j, none⟩) HGO.out (.int .i64 (addF P M z (mulR P M Mod (x : Int) y))))
         clear g0 d1 f1 g3 d3 g4 d4 hyc
         go_wp2_with fail
         exact ⟨⟨j + 1, by omega, by push_cast; rfl, HO5, HB5⟩, by simp only [intOf]; omega⟩
       · have e2 : decide (j < N) = false := decide_eq_false hjN
         obtain rfl : N = j := by omega
         rw [fillTo_full, HFN.out] at HO
         have HNS : Hid (SI wr (.slice (some ⟨g, 0, none⟩) N c) (pwL (refOps P M Mod) q N gen (row + 1) (s * q + x))) := hid' (by
           have h := HO.out.si (by rw [pwL_len]; omega) (fun k => by
             rw [← HFN.out]
             by_cases hk : k < N
             · rw [rowOf_getD hk, HF.out]
               have := addF_lt HFO.out (pw.getD k 0) (mulR P M Mod (x : Int) (xs.getD k 0))
               have := orderF_bounds P M
               exact I64.of_small (by omega) (by omega)
             · rw [getD_len (by rw [rowOf_len]; omega)]; exact I64.zero)
           exact h)
         have frc : wr.cell? ⟨bf, 0, none⟩ = some (.func (.func 56) #[] #[.pointer (some ⟨cb, 0, none⟩), .pointer (some ⟨ba, 0, none⟩), .pointer (some ⟨by_, 0, none⟩), .pointer (some ⟨bg, 0, none⟩), .pointer (some ⟨bf, 0, none⟩)]) := HD.out.fr wr HSr.out.hd
         have HCALL := Lib.hid (HIH.out (row + 1) (s * q + x) Xa wr (.slice (some ⟨g, 0, none⟩) N c) HRW.out (HNL.out x hxq) HSr.out HNS.out (fun i hi => by
           have e : g = i := by simpa [Value.ownBlock] using hi
           subst e
           have h1 := HGO.out
           have h2 := HBS.out
           have h3 := HOA.out.size
           exact ⟨by omega, fun h => by have := HRJ.out.lt _ _ _ HSA.out.j _ h; omega⟩))
         have hw1 : wrap64 ((row : Int) + 1) = (row : Int) + 1 := by unfold wrap64; omega
         rw [show ((row + 1 : Nat) : Int) = (row : Int) + 1 by push_cast; rfl] at HCALL
         go_wp2_with fail
         refine HCALL.out.mono ?_
         rintro e w5 (⟨rfl, X5, hS5, hX5, hO5⟩ | ⟨rfl, k5, X5, hk5, hj5⟩)
         · have HS5 : Hid (∃ X', WS Wz Dp Kp ba J ((s * q + (x + 1)) * q ^ r) X' w5 ∧ (∀ i, X' i → X i ∨ W.heap.size ≤ i) ∧ Off (fun i => X i ∨ i = ba) W w5) := hid' (by
             have h3 := HOA.out.size
             have h4 := HB.out.size
             refine ⟨X5, by rw [← Nat.add_assoc]; exact hS5, fun i hi => ?_, ?_⟩
             · rcases hX5 i hi with h | h
               · exact HXA.out i h
               · exact .inr (by omega)
             · refine (HOA.out.trans (bel_off HB.out)).trans2 hO5 fun i hi h => ?_
               rcases h with h | h
               · rcases HXA.out i h with h2 | h2
                 · exact .inl h2
                 · omega
               · exact .inr h)
           clear hS5 hX5 hO5 frc
           go_wp2_with fail
           exact ⟨⟨x + 1, by omega, by push_cast; rfl, HS5⟩, by simp only [intOf]; omega⟩
         · have HJ5 : Hid (∃ k X', k < L.length ∧ Jx (k + 1) X' w5) := hid' ⟨k5, X5, hk5, hj5⟩
           clear hk5 hj5 frc
           go_wp2_with fail
           go_ret
           exact .inr ⟨rfl, HJ5.out⟩
   · have e1 : decide (x < q) = false := decide_eq_false hxq
     obtain rfl : q = x := by omega
     have HFIN : Hid (∃ X', WS Wz Dp Kp ba J ((s + 1) * q ^ (r + 1)) X' wo ∧ (∀ i, X' i → X i ∨ W.heap.size ≤ i) ∧ Off (fun i => X i ∨ i = ba) W wo) := hid' ⟨Xa, by rw [← HEN.out]; exact HSA.out, HXA.out, HOA.out⟩
     go_wp2_with fail
     go_ret
     exact .inl ⟨rfl, HFIN.out⟩
theorem from_all {Wz : World} {Dp Kp : Nat → Prop} {P M : Int} {Mod : List Int} {gen : List (List Int)} {GA : Option Addr} {K N q gc cb ba by_ bg bf a l : Nat} (hD : WD Wz Dp P M Mod gen GA K gc cb ba by_ bg bf a l)
  {J Jx : Nat → (Nat → Prop) → World → Prop} (rJ : Rests J) (hq : orderF P M = (q : Int)) (hf : FieldP P M Mod) (hK : gen.length = K) (hK2 : K ≤ 1000) (hN1 : 1 ≤ N) (hN : N ≤ 1000) (hR : Rows (q : Int) N gen) (hLb : ((wordsL (refOps P M Mod) q N gen).length ≤ 1000000 ∨ ∀ k X W, J k X W → k ≤ 1000000))
  (hY : ∀ k X1 W1 u, k < (wordsL (refOps P M Mod) q N gen).length → J k X1 W1 → SI W1 u ((wordsL (refOps P M Mod) q N gen).getD k []) → (∀ i, u.ownBlock = some i → i < W1.heap.size ∧ ¬ X1 i) → YieldAt Fence.wide 2 Tryz.prog l #[.int .i64 (k : Int), u] W1 (RoundZ Kp J Jx k X1 u W1)) :
  ∀ r, FromAt Wz Dp Kp J Jx (refOps P M Mod) q N K gen (wordsL (refOps P M Mod) q N gen) cb ba by_ bg bf r
 | 0 => fun row s X W wv hrow hs hS hw hwn => by
  obtain rfl : row = K := by omega
  have hs2 : s < q ^ gen.length := by rw [hK]; exact hs
  have := from_zero (L := wordsL (refOps P M Mod) q N gen) hD rJ hLb hY (t := s) (by rw [wordsL_len]; exact hs2) (X := X) (W := W) (by rw [Nat.pow_zero, Nat.mul_one] at hS; exact hS) (wv := wv) (by rw [wordsL_at hs2, hK]; exact hw) fun i hi => (hwn i hi).1
  rw [Nat.pow_zero, Nat.mul_one]
  exact this
 | r + 1 => from_succ hD rJ hq hf hK hK2 hN1 hN hR (from_all hD rJ hq hf hK hK2 hN1 hN hR hLb hY r)
set_option maxHeartbeats 8000000 in
theorem cList_any (w : World) (P M n : Int) (mv xv : Value) (Mod x : List Int) (hm : SI w mv Mod) (hx : SI w xv x) (hf : FieldP P M Mod) :
  Calls Tryz.prog 60 #[.agg #[.int .i64 P, .int .i64 M, mv], xv, .int .i64 n] w (RetI w (listF (orderF P M) x n)) := by
 by_cases hl : (x.length : Int) = n
 case neg =>
  have HE : Hid (listF (orderF P M) x n = 4) := hid' (by unfold listF; rw [if_neg hl])
  obtain ⟨XA, xc, rfl, _⟩ := hx
  obtain ⟨l, hll⟩ : ∃ l, l = x.length := ⟨_, rfl⟩
  rw [← hll] at hl ⊢
  clear hll hm hf
  have hnb : ((l : Int) != n) = true := by rw [bne_iff_ne]; exact hl
  clear hl
  have HF := Lib.hid (FBox.mk' w P M mv)
  go_enter Tryz.func60, Tryz.ntmps60
  go_upto_region 1 with fail
  generalize w.alloc (.cells #[.int .i64 P, .int .i64 M, mv] 24) = w0 at *
  go_wp2_with fail
  go_ret
  exact ⟨by rw [HE.out]; rfl, HF.out.bel⟩
 by_cases he : entriesF (orderF P M) x = 0
 ·rw [show listF (orderF P M) x n = 0 by unfold listF; rw [if_pos hl, he]]
  exact cList_ok w P M n mv xv Mod x hm hx hf hl he
 have he2 : entriesF (orderF P M) x = 2 := by rcases entriesF_cases (orderF P M) x with h | h; exact absurd h he; exact h
 rw [show listF (orderF P M) x n = 2 by unfold listF; rw [if_pos hl, he2]]
 have HNW := Lib.hid (fun (w' : World) (hb : Below w.heap.size w w') => new_ok w' P M mv Mod (hm.below hb (Nat.le_refl _)) hf)
 unfold RetG at HNW
 have HX := Lib.hid hx
 have HE : Hid (decide (entriesF (orderF P M) x ≠ 0) = true) := hid' (by rw [he2]; rfl)
 obtain ⟨XA, xc, rfl, _⟩ := hx
 obtain ⟨l, hll⟩ : ∃ l, l = x.length := ⟨_, rfl⟩
 rw [← hll] at HX hl ⊢
 clear hll hm hf he he2
 have hnb : ((l : Int) != n) = false := by rw [bne_eq_false_iff_eq]; exact hl
 clear hl
 have HF := Lib.hid (FBox.mk' w P M mv)
 go_enter Tryz.func60, Tryz.ntmps60
 go_upto_region 1 with fail
 generalize w.alloc (.cells #[.int .i64 P, .int .i64 M, mv] 24) = w0 at *
 have c0 := HF.out.c0; have c1 := HF.out.c1; have c2 := HF.out.c2
 go_wp2_with fail
 refine (HNW.out w0 HF.out.bel).mono ?_
 rintro e w1 ⟨a, rfl, hg, hb1⟩
 have HG := Lib.hid hg.out
 have HF1 := Lib.hid (HF.out.on hb1)
 clear hg hb1 c0 c1 c2
 go_upto_region 4 with fail
 obtain ⟨w2, g, e1, e2, hx2, hb2⟩ := mk_box w1 78 [.pointer (some ⟨a, 0, none⟩)]
 rw [e1, e2]
 have HF2 := Lib.hid (HF1.out.on hb2); have HG2 := Lib.hid (HG.out.on hb2); have HX2 := Lib.hid (HX.out.below HF2.out.bel (Nat.le_refl _))
 have HC := Lib.hid (containsC_any w2 g a P M Mod _ x HG2.out (hx2.cell 0) HX2.out)
 rw [HE.out] at HC
 clear e1 e2 hx2 hb2
 go_wp2_with fail
 refine HC.out.mono ?_
 rintro e w3 ⟨rfl, rfl⟩
 go_wp2_with fail
 go_ret
 exact ⟨rfl, HF2.out.bel⟩
set_option maxHeartbeats 8000000 in
theorem cWord_any (w : World) (P M n : Int) (mv gv xv : Value) (Mod x : List Int) (gen : List (List Int)) (hm : SI w mv Mod) (hg : SS w gv gen) (hx : SI w xv x) :
  Calls Tryz.prog 76 #[.agg #[.int .i64 P, .int .i64 M, mv, .int .i64 n, gv], xv] w (RetI w (wordE P M Mod n gen x)) := by
 have HCK := Lib.hid (fun (w' : World) (hb : Below w.heap.size w w') => cCheck_any w' P M n mv gv Mod gen (hm.below hb (Nat.le_refl _)) (hg.below hb (Nat.le_refl _)))
 by_cases hE : codeE P M Mod n gen = 0
 case neg =>
  have HE : Hid (wordE P M Mod n gen x = codeE P M Mod n gen) := hid' (by unfold wordE; rw [if_neg hE])
  rw [HE.out]
  have e2 : (codeE P M Mod n gen != 0) = true := by rw [bne_iff_ne]; exact hE
  generalize codeE P M Mod n gen = er at *
  clear hE hm hg hx HE
  have HF := Lib.hid (CBox.mk' w P M mv n gv)
  go_enter Tryz.func76, Tryz.ntmps76
  go_upto_region 1 with fail
  generalize w.alloc (.cells #[.int .i64 P, .int .i64 M, mv, .int .i64 n, gv] 27) = w0 at *
  have c0 := HF.out.c0; have c1 := HF.out.c1; have c2 := HF.out.c2; have c3 := HF.out.c3; have c4 := HF.out.c4
  go_wp2_with fail
  refine (HCK.out w0 HF.out.bel).mono ?_
  rintro e w1 ⟨rfl, hb1⟩
  have HF1 := Lib.hid (HF.out.on hb1)
  clear hb1 c0 c1 c2 c3 c4
  go_wp2_with fail
  go_ret
  exact ⟨rfl, HF1.out.bel⟩
 have HE : Hid (wordE P M Mod n gen x = listF (orderF P M) x n) := hid' (by unfold wordE; rw [if_pos hE])
 rw [HE.out]
 have HLI := Lib.hid (fun (w' : World) (hb : Below w.heap.size w w') => cList_any w' P M n mv xv Mod x (hm.below hb (Nat.le_refl _)) (hx.below hb (Nat.le_refl _)) (codeE_zero hE).1)
 rw [hE] at HCK
 generalize listF (orderF P M) x n = er at *
 clear hm hg hx hE HE
 have HF := Lib.hid (CBox.mk' w P M mv n gv)
 go_enter Tryz.func76, Tryz.ntmps76
 go_upto_region 1 with fail
 generalize w.alloc (.cells #[.int .i64 P, .int .i64 M, mv, .int .i64 n, gv] 27) = w0 at *
 have c0 := HF.out.c0; have c1 := HF.out.c1; have c2 := HF.out.c2; have c3 := HF.out.c3; have c4 := HF.out.c4
 go_wp2_with fail
 refine (HCK.out w0 HF.out.bel).mono ?_
 rintro e w1 ⟨rfl, hb1⟩
 have HF1 := Lib.hid (HF.out.on hb1)
 clear hb1 c0 c1 c2 c3 c4
 have c0 := HF1.out.c0; have c1 := HF1.out.c1; have c2 := HF1.out.c2; have c3 := HF1.out.c3
 go_wp2_with fail
 refine (HLI.out w1 HF1.out.bel).mono ?_
 rintro e w2 ⟨rfl, hb2⟩
 have HF2 := Lib.hid (HF1.out.on hb2)
 clear hb2 c0 c1 c2 c3
 go_wp2_with fail
 go_ret
 exact ⟨rfl, HF2.out.bel⟩
set_option maxHeartbeats 8000000 in
theorem cHas_any (w : World) (P M n : Int) (mv gv xv : Value) (Mod x : List Int) (gen : List (List Int)) (hm : SI w mv Mod) (hg : SS w gv gen) (hx : SI w xv x) :
  Calls Tryz.prog 39 #[.agg #[.int .i64 P, .int .i64 M, mv, .int .i64 n, gv], xv] w (RetBE w (hasB P M Mod n gen x) (wordE P M Mod n gen x)) := by
 by_cases hE : wordE P M Mod n gen x = 0
 ·have hc : codeE P M Mod n gen = 0 := Decidable.byContradiction fun h => h (by unfold wordE at hE; rwa [if_neg h] at hE)
  have hl : listF (orderF P M) x n = 0 := by unfold wordE at hE; rwa [if_pos hc] at hE
  obtain ⟨hf, hn1, hn2, _⟩ := codeE_zero hc
  obtain ⟨N, rfl⟩ : ∃ N : Nat, n = (N : Int) := ⟨n.toNat, by omega⟩
  have h1 := listF_zero hl
  have h := cHas_ok w P M N mv gv xv Mod x gen hm hg hx hc (by omega) (entriesF_ok fun k hk => h1.2 k hk)
  have hb : hasB P M Mod N gen x = inL (refOps P M Mod) gen x := by unfold hasB; rw [if_pos hE]
  rw [hE, hb]
  exact h
 ·have HWD := Lib.hid (fun (w' : World) (hb : Below w.heap.size w w') => cWord_any w' P M n mv gv xv Mod x gen (hm.below hb (Nat.le_refl _)) (hg.below hb (Nat.le_refl _)) (hx.below hb (Nat.le_refl _)))
  have hb : hasB P M Mod n gen x = false := by unfold hasB; rw [if_neg hE]
  rw [hb]
  have e2 : (wordE P M Mod n gen x != 0) = true := by rw [bne_iff_ne]; exact hE
  generalize wordE P M Mod n gen x = er at *
  clear hE hm hg hx hb
  have HF := Lib.hid (CBox.mk' w P M mv n gv)
  go_enter Tryz.func39, Tryz.ntmps39
  go_upto_region 1 with fail
  generalize w.alloc (.cells #[.int .i64 P, .int .i64 M, mv, .int .i64 n, gv] 27) = w0 at *
  have c0 := HF.out.c0; have c1 := HF.out.c1; have c2 := HF.out.c2; have c3 := HF.out.c3; have c4 := HF.out.c4
  go_wp2_with fail
  refine (HWD.out w0 HF.out.bel).mono ?_
  rintro e w1 ⟨rfl, hb1⟩
  have HF1 := Lib.hid (HF.out.on hb1)
  clear hb1 c0 c1 c2 c3 c4
  go_wp2_with fail
  go_ret2
  exact ⟨rfl, HF1.out.bel⟩
set_option maxHeartbeats 8000000 in
theorem cDual_no (w : World) (P M n : Int) (mv gv : Value) (Mod : List Int) (gen : List (List Int)) (hm : SI w mv Mod) (hg : SS w gv gen) (hE : codeE P M Mod n gen ≠ 0) :
  Calls Tryz.prog 35 #[.agg #[.int .i64 P, .int .i64 M, mv, .int .i64 n, gv]] w (RetCE w 0 0 [] 0 [] (codeE P M Mod n gen)) := by
 have HCK := Lib.hid (fun (w' : World) (hb : Below w.heap.size w w') => cCheck_any w' P M n mv gv Mod gen (hm.below hb (Nat.le_refl _)) (hg.below hb (Nat.le_refl _)))
 have e2 : (codeE P M Mod n gen != 0) = true := by rw [bne_iff_ne]; exact hE
 generalize codeE P M Mod n gen = er at *
 clear hm hg hE
 obtain ⟨w1, e1, hq⟩ := CCQ.mk' w P M mv n gv
 have HQ := Lib.hid hq; have HE1 := Lib.hid e1; clear hq e1
 go_enter Tryz.func35, Tryz.ntmps35
 go_upto_region 1 with fail
 rw [HE1.out]
 clear HE1
 have c0 := HQ.out.cb.c0; have c1 := HQ.out.cb.c1; have c2 := HQ.out.cb.c2; have c3 := HQ.out.cb.c3; have c4 := HQ.out.cb.c4
 go_wp2_with fail
 refine (HCK.out w1 HQ.out.cb.bel).mono ?_
 rintro e w2 ⟨rfl, hb2⟩
 have HQ2 := Lib.hid (HQ.out.on hb2)
 clear hb2 c0 c1 c2 c3 c4
 obtain ⟨d0, d1, d2, d3, d4, f0, f1, f2, f3, f4⟩ := HQ2.out.q.five
 go_wp2_with fail
 obtain ⟨w9, h9, HL⟩ := lay5 (x := .int .i64 0) (y := .int .i64 0) (z := .slice none 0 0) (u := .int .i64 0) (v := .slice none 0 0) HQ2.out.q
 rw [h9]
 have q0 := HL.c0; have q1 := HL.c1; have q2 := HL.c2; have q3 := HL.c3; have q4 := HL.c4
 refine bodyPost_ret (v := .tuple #[.agg #[.int .i64 0, .int .i64 0, .slice none 0 0, .int .i64 0, .slice none 0 0], .int .i64 er]) (by simp [results, Tryz.results35, go_sem, q0, q1, q2, q3, q4]) rfl ?_
 exact ⟨_, _, rfl, (SI.nilSep _ _).and (SS.nilSep _ _), HL.below HQ2.out.cb.bel HQ2.out.cb.bel.size (by omega)⟩
def fillB (m : Nat) (f : Nat → Bool) (k : Nat) : List Bool := (List.range m).map fun j => if j < k then f j else false
theorem fillB_len (m : Nat) (f : Nat → Bool) (k : Nat) : (fillB m f k).length = m := by simp [fillB]
theorem fillB_zero (m : Nat) (f : Nat → Bool) : fillB m f 0 = List.replicate m false := by simp [fillB, List.map_const']
theorem fillB_set {m k : Nat} (f : Nat → Bool) (h : k < m) : (fillB m f k).set k (f k) = fillB m f (k + 1) := by
 refine List.ext_getElem (by simp [fillB]) fun j h1 h2 => ?_
 have hj : j < m := by simpa [fillB] using h2
 simp only [fillB, List.getElem_set, List.getElem_map, List.getElem_range]
 by_cases e : k = j
 ·subst e; rw [if_pos rfl, if_pos (by omega)]
 ·rw [if_neg e]
  by_cases e2 : j < k
  ·rw [if_pos e2, if_pos (by omega)]
  ·rw [if_neg e2, if_neg (by omega)]
theorem fillB_at {m k j : Nat} (f : Nat → Bool) (h : j < m) (hk : j < k) : (fillB m f k).getD j false = f j := by simp [fillB, List.getD, h, hk]
set_option maxHeartbeats 8000000 in
theorem mOrth_no (w : World) (P M n i : Int) (mv gv cv : Value) (Mod : List Int) (gen checks : List (List Int)) (hm : SI w mv Mod) (hg : SS w gv gen) (hc : SS w cv checks) (hE : codeE P M Mod n gen ≠ 0) :
  Calls Tryz.prog 13 #[.agg #[.int .i64 P, .int .i64 M, mv, .int .i64 n, gv], .int .i64 i, cv] w (RetI w (codeE P M Mod n gen)) := by
 have HDU := Lib.hid (fun (w' : World) (hb : Below w.heap.size w w') => cDual_no w' P M n mv gv Mod gen (hm.below hb (Nat.le_refl _)) (hg.below hb (Nat.le_refl _)) hE)
 have k1 : (codeE P M Mod n gen != 0) = true := by rw [bne_iff_ne]; exact hE
 generalize codeE P M Mod n gen = er at *
 clear hm hg hE
 obtain ⟨VA, vc, rfl, _⟩ := hc
 have HF := Lib.hid (CBox.mk' w P M mv n gv)
 go_enter Tryz.func13, Tryz.ntmps13
 go_upto_region 1 with fail
 generalize w.alloc (.cells #[.int .i64 P, .int .i64 M, mv, .int .i64 n, gv] 27) = w0 at *
 have T0 := Lib.hid HF.out.blk; have HB := Lib.hid HF.out.bel
 clear HF
 have cT00 : w0.cell? ⟨w.heap.size, 0, none⟩ = some (.int .i64 P) := T0.out.cell 0
 have cT01 : w0.cell? ⟨w.heap.size, 1, none⟩ = some (.int .i64 M) := T0.out.cell 1
 have cT02 : w0.cell? ⟨w.heap.size, 2, none⟩ = some (mv) := T0.out.cell 2
 have cT03 : w0.cell? ⟨w.heap.size, 3, none⟩ = some (.int .i64 n) := T0.out.cell 3
 have cT04 : w0.cell? ⟨w.heap.size, 4, none⟩ = some (gv) := T0.out.cell 4
 go_wp2_with fail
 refine (HDU.out _ HB.out).mono ?_
 rintro e y1 ⟨u, gg, rfl, hx, hb1⟩
 clear cT00 cT01 cT02 cT03 cT04
 replace T0 := Lib.hid (T0.out.belowS hb1)
 replace HB := Lib.hid (bl_trans HB.out hb1)
 obtain ⟨⟨MD, mD, rfl, _⟩, ⟨GD, cD, rfl, _⟩⟩ := hx.out
 have XMD := Lib.hid hx.out.1; have XGD := Lib.hid hx.out.2; clear hx
 change Hid (SI _ (.slice MD 0 mD) []) at XMD
 change Hid (SS _ (.slice GD 0 cD) ([] : List (List Int))) at XGD
 go_upto_region 2 with fail
 obtain ⟨z1, gD, e1, e2, hbx, hbz⟩ := mk_box y1 27 [.int .i64 0, .int .i64 0, .slice MD 0 mD, .int .i64 0, .slice GD 0 cD]
 rw [e1, e2]
 clear e1
 replace T0 := Lib.hid (T0.out.belowS hbz)
 replace XMD := Lib.hid (XMD.out.below hbz (Nat.le_refl _))
 replace XGD := Lib.hid (XGD.out.below hbz (Nat.le_refl _))
 replace HB := Lib.hid (bl_trans HB.out hbz)
 have TD := Lib.hid hbx; clear hbx hbz e2
 go_wp2_with fail
 go_ret
 exact ⟨rfl, HB.out⟩
set_option maxHeartbeats 8000000 in
theorem mOrth_rng (w : World) (P M : Int) (N : Nat) (i : Int) (mv gv cv : Value) (Mod : List Int) (gen checks : List (List Int)) (hm : SI w mv Mod) (hg : SS w gv gen) (hc : SS w cv checks) (hE : codeE P M Mod N gen = 0) (hi : i < 0 ∨ (N : Int) ≤ i) :
  Calls Tryz.prog 13 #[.agg #[.int .i64 P, .int .i64 M, mv, .int .i64 (N : Int), gv], .int .i64 i, cv] w (RetI w 6) := by
 have HDU := Lib.hid (fun (w' : World) (hb : Below w.heap.size w w') => cDual_ok w' P M N mv gv Mod gen (hm.below hb (Nat.le_refl _)) (hg.below hb (Nat.le_refl _)) hE)
 generalize nullL (refOps P M Mod) gen N = D at *
 clear hm hg hE
 obtain ⟨VA, vc, rfl, _⟩ := hc
 have HF := Lib.hid (CBox.mk' w P M mv N gv)
 go_enter Tryz.func13, Tryz.ntmps13
 go_upto_region 1 with fail
 generalize w.alloc (.cells #[.int .i64 P, .int .i64 M, mv, .int .i64 (N : Int), gv] 27) = w0 at *
 have T0 := Lib.hid HF.out.blk; have HB := Lib.hid HF.out.bel
 clear HF
 have cT00 : w0.cell? ⟨w.heap.size, 0, none⟩ = some (.int .i64 P) := T0.out.cell 0
 have cT01 : w0.cell? ⟨w.heap.size, 1, none⟩ = some (.int .i64 M) := T0.out.cell 1
 have cT02 : w0.cell? ⟨w.heap.size, 2, none⟩ = some (mv) := T0.out.cell 2
 have cT03 : w0.cell? ⟨w.heap.size, 3, none⟩ = some (.int .i64 (N : Int)) := T0.out.cell 3
 have cT04 : w0.cell? ⟨w.heap.size, 4, none⟩ = some (gv) := T0.out.cell 4
 go_wp2_with fail
 refine (HDU.out _ HB.out).mono ?_
 rintro e y1 ⟨u, gg, rfl, hx, hb1⟩
 clear cT00 cT01 cT02 cT03 cT04
 replace T0 := Lib.hid (T0.out.belowS hb1)
 replace HB := Lib.hid (bl_trans HB.out hb1)
 obtain ⟨⟨MD, mD, rfl, _⟩, ⟨GD, cD, rfl, _⟩⟩ := hx.out
 have XMD := Lib.hid hx.out.1; have XGD := Lib.hid hx.out.2; clear hx
 change Hid (SI _ (.slice MD Mod.length mD) Mod) at XMD
 change Hid (SS _ (.slice GD D.length cD) D) at XGD
 go_upto_region 2 with fail
 obtain ⟨z1, gD, e1, e2, hbx, hbz⟩ := mk_box y1 27 [.int .i64 P, .int .i64 M, .slice MD Mod.length mD, .int .i64 (N : Int), .slice GD D.length cD]
 rw [e1, e2]
 clear e1
 replace T0 := Lib.hid (T0.out.belowS hbz)
 replace XMD := Lib.hid (XMD.out.below hbz (Nat.le_refl _))
 replace XGD := Lib.hid (XGD.out.below hbz (Nat.le_refl _))
 replace HB := Lib.hid (bl_trans HB.out hbz)
 have TD := Lib.hid hbx; clear hbx hbz e2
 have cT00 : z1.cell? ⟨w.heap.size, 0, none⟩ = some (.int .i64 P) := T0.out.cell 0
 have cT01 : z1.cell? ⟨w.heap.size, 1, none⟩ = some (.int .i64 M) := T0.out.cell 1
 have cT02 : z1.cell? ⟨w.heap.size, 2, none⟩ = some (mv) := T0.out.cell 2
 have cT03 : z1.cell? ⟨w.heap.size, 3, none⟩ = some (.int .i64 (N : Int)) := T0.out.cell 3
 have cT04 : z1.cell? ⟨w.heap.size, 4, none⟩ = some (gv) := T0.out.cell 4
 by_cases h0 : i < 0
 ·go_wp2_with fail
  go_ret
  exact ⟨rfl, HB.out⟩
 ·have h1 : (N : Int) ≤ i := by omega
  clear hi
  go_wp2_with fail
  go_ret
  exact ⟨rfl, HB.out⟩
set_option maxHeartbeats 32000000 in
theorem mOrth_core (w : World) (P M : Int) (N I m : Nat) (mv gv cv : Value) (Mod : List Int) (gen checks : List (List Int)) (X : Int) (ok : List Int → Bool) (hm : SI w mv Mod) (hg : SS w gv gen) (hc : SS w cv checks) (hE : codeE P M Mod N gen = 0) (hI : I < N) (hml : checks.length = m) (hm2 : m ≤ 17592186044416)
  (hok : ∀ h, listF (orderF P M) h N = 0 → ok h = ((h.getD I 0 == 1) && inL (refOps P M Mod) (nullL (refOps P M Mod) gen N) h))
  (h1 : ∀ k, k < m → (∀ j, j < k → listF (orderF P M) (checks.getD j []) N = 0) → listF (orderF P M) (checks.getD k []) N ≠ 0 → X = listF (orderF P M) (checks.getD k []) N)
  (h2 : (∀ j, j < m → listF (orderF P M) (checks.getD j []) N = 0) → orT ok I N checks m = none → X = 13)
  (h3 : (∀ j, j < m → listF (orderF P M) (checks.getD j []) N = 0) → ∀ u, orT ok I N checks m = some u → X = 0) :
  Calls Tryz.prog 13 #[.agg #[.int .i64 P, .int .i64 M, mv, .int .i64 (N : Int), gv], .int .i64 (I : Int), cv] w (RetI w X) := by
 have hN64 : N ≤ 64 := by have := (codeE_zero hE).2.2.1; omega
 have hq6 := orderF_bounds P M
 have HDU := Lib.hid (fun (w' : World) (hb : Below w.heap.size w w') => cDual_ok w' P M N mv gv Mod gen (hm.below hb (Nat.le_refl _)) (hg.below hb (Nat.le_refl _)) hE)
 have hO := ref_fld (codeE_zero hE).1
 have hcD : codeE P M Mod N (nullL (refOps P M Mod) gen N) = 0 := by
  obtain ⟨hf, hn1, hn2, hgl, hR, hcan⟩ := codeE_zero hE
  rw [Int.toNat_natCast] at hR
  have hDn : Cn (refOps P M Mod) (orderF P M) N (nullL (refOps P M Mod) gen N) := Cn.null hO hR
  unfold codeE
  rw [if_neg (by rw [checkF_ok hf]; simp), if_pos (by omega)]
  exact hDn.spaceE hf (by omega)
 have HHA := Lib.hid (fun (w' : World) (u1 u2 u3 : Value) (x : List Int) (a1 : SI w' u1 Mod) (a2 : SS w' u2 (nullL (refOps P M Mod) gen N)) (a3 : SI w' u3 x) => cHas_any w' P M N u1 u2 u3 Mod x _ a1 a2 a3)
 have HWE : Hid (∀ x, wordE P M Mod N (nullL (refOps P M Mod) gen N) x = listF (orderF P M) x N) := hid' fun x => by unfold wordE; rw [if_pos hcD]
 have HHB : Hid (∀ x, hasB P M Mod N (nullL (refOps P M Mod) gen N) x = if listF (orderF P M) x N = 0 then inL (refOps P M Mod) (nullL (refOps P M Mod) gen N) x else false) := hid' fun x => by unfold hasB; rw [HWE.out]
 have HLZ : Hid (∀ x, listF (orderF P M) x N = 0 → x.length = N) := hid' fun x h => by have := (listF_zero h).1; omega
 have HC := Lib.hid hc; have HOK := Lib.hid hok; have H1 := Lib.hid h1; have H2 := Lib.hid h2; have H3 := Lib.hid h3; have HML := Lib.hid hml
 generalize nullL (refOps P M Mod) gen N = D at *
 generalize orderF P M = q at *
 unfold RetBE at HHA
 obtain ⟨VA, vc, rfl, _⟩ := hc
 rw [hml] at HC ⊢
 clear hm hg hE hcD hok h1 h2 h3 hml hO
 obtain ⟨inb, hinb⟩ : ∃ inb : Nat → Bool, inb = fun j => inL (refOps P M Mod) D (checks.getD j []) := ⟨_, rfl⟩
 have HIN := Lib.hid hinb
 clear hinb
 have HF := Lib.hid (CBox.mk' w P M mv N gv)
 have hmk := fun (w : World) => run_mkB m (by omega) w
 have hmk2 := fun (w : World) => run_mkB N (by omega) w
 go_enter Tryz.func13, Tryz.ntmps13
 go_upto_region 1 with fail
 generalize w.alloc (.cells #[.int .i64 P, .int .i64 M, mv, .int .i64 (N : Int), gv] 27) = w0 at *
 have T0 := Lib.hid HF.out.blk; have HB := Lib.hid HF.out.bel
 clear HF
 have cT00 : w0.cell? ⟨w.heap.size, 0, none⟩ = some (.int .i64 P) := T0.out.cell 0
 have cT01 : w0.cell? ⟨w.heap.size, 1, none⟩ = some (.int .i64 M) := T0.out.cell 1
 have cT02 : w0.cell? ⟨w.heap.size, 2, none⟩ = some (mv) := T0.out.cell 2
 have cT03 : w0.cell? ⟨w.heap.size, 3, none⟩ = some (.int .i64 (N : Int)) := T0.out.cell 3
 have cT04 : w0.cell? ⟨w.heap.size, 4, none⟩ = some (gv) := T0.out.cell 4
 go_wp2_with fail
 refine (HDU.out _ HB.out).mono ?_
 rintro e y1 ⟨u, gg, rfl, hx, hb1⟩
 clear cT00 cT01 cT02 cT03 cT04
 replace T0 := Lib.hid (T0.out.belowS hb1)
 replace HB := Lib.hid (bl_trans HB.out hb1)
 obtain ⟨⟨MD, mD, rfl, _⟩, ⟨GD, cD, rfl, _⟩⟩ := hx.out
 have XMD := Lib.hid hx.out.1; have XGD := Lib.hid hx.out.2; clear hx
 change Hid (SI _ (.slice MD Mod.length mD) Mod) at XMD
 change Hid (SS _ (.slice GD D.length cD) D) at XGD
 go_upto_region 2 with fail
 obtain ⟨z1, gD, e1, e2, hbx, hbz⟩ := mk_box y1 27 [.int .i64 P, .int .i64 M, .slice MD Mod.length mD, .int .i64 (N : Int), .slice GD D.length cD]
 rw [e1, e2]
 clear e1
 replace T0 := Lib.hid (T0.out.belowS hbz)
 replace XMD := Lib.hid (XMD.out.below hbz (Nat.le_refl _))
 replace XGD := Lib.hid (XGD.out.below hbz (Nat.le_refl _))
 replace HB := Lib.hid (bl_trans HB.out hbz)
 have TD := Lib.hid hbx; clear hbx hbz e2
 have cT00 : z1.cell? ⟨w.heap.size, 0, none⟩ = some (.int .i64 P) := T0.out.cell 0
 have cT01 : z1.cell? ⟨w.heap.size, 1, none⟩ = some (.int .i64 M) := T0.out.cell 1
 have cT02 : z1.cell? ⟨w.heap.size, 2, none⟩ = some (mv) := T0.out.cell 2
 have cT03 : z1.cell? ⟨w.heap.size, 3, none⟩ = some (.int .i64 (N : Int)) := T0.out.cell 3
 have cT04 : z1.cell? ⟨w.heap.size, 4, none⟩ = some (gv) := T0.out.cell 4
 have i0 : ¬ (I : Int) < 0 := by omega
 have i1 : ¬ (N : Int) ≤ (I : Int) := by omega
 have HR0 : Hid (RB (z1.alloc (.cells (madeCells #[.bool false] m) 4)) z1.heap.size (fillB m inb 0)) := hid' (by rw [fillB_zero]; exact RB.made z1 m)
 have HBA := Lib.hid (bl_alloc z1 (.cells (madeCells #[.bool false] m) 4))
 go_wp2_with fail
 clear hmk i0 i1
 clear cT00 cT01 cT02 cT03 cT04
 obtain ⟨gi, hgi⟩ : ∃ gi, gi = z1.heap.size := ⟨_, rfl⟩
 have HGI := Lib.hid hgi
 rw [← hgi] at HR0 ⊢
 clear hgi
 go_loopw [8, 10, 11, 38] (fun e _ _ i wr => ∃ k : Nat, k ≤ m ∧ e = .int .i64 0 ∧ i = .int .i64 (k : Int) ∧ Hid (∀ j, j < k → listF q (checks.getD j []) N = 0) ∧ Hid (RB wr gi (fillB m inb k)) ∧ Hid (Below z1.heap.size z1 wr)) (fun _ _ _ i _ => m - (intOf i).toNat)
 case atStart => exact ⟨0, Nat.zero_le _, rfl, rfl, (fun j hj => absurd hj (Nat.not_lt_zero _)), HR0, HBA⟩
 case round =>
  clear HR0 HBA
  obtain ⟨k, hk, rfl, rfl, HLS, HR, HBr⟩ := hrel
  by_cases hkm : k < m
  ·obtain ⟨ad, Ak, ck, xs, rfl, hcc, HX, HXE⟩ := (HC.out.below (bl_trans HB.out HBr.out) (Nat.le_refl _)).eltA (k := k) (by rw [HML.out]; exact hkm)
   have TDr := Lib.hid (TD.out.belowS HBr.out)
   have cD0 : wr.cell? ⟨gD, 0, none⟩ = some (.int .i64 P) := TDr.out.cell 0
   have cD1 : wr.cell? ⟨gD, 1, none⟩ = some (.int .i64 M) := TDr.out.cell 1
   have cD2 : wr.cell? ⟨gD, 2, none⟩ = some (.slice MD Mod.length mD) := TDr.out.cell 2
   have cD3 : wr.cell? ⟨gD, 3, none⟩ = some (.int .i64 (N : Int)) := TDr.out.cell 3
   have cD4 : wr.cell? ⟨gD, 4, none⟩ = some (.slice GD D.length cD) := TDr.out.cell 4
   go_wp2_with fail
   refine (HHA.out _ _ _ _ xs (XMD.out.below HBr.out (Nat.le_refl _)) (XGD.out.below HBr.out (Nat.le_refl _)) HX.out.si).mono ?_
   rintro e w4 ⟨rfl, hb4⟩
   rw [HWE.out, HHB.out]
   have HB4 := Lib.hid (bl_trans HBr.out hb4)
   have HR4 := Lib.hid (HR.out.belowS hb4)
   clear hb4 cD0 cD1 cD2 cD3 cD4 hcc
   have u0 := HR4.out.cell k (by rw [fillB_len]; exact hkm)
   generalize hz : (fillB m inb k).getD k false = z0 at u0
   clear hz
   have uf := HR4.out.frozen k
   by_cases hli : listF q xs N = 0
   ·rw [hli, if_pos rfl]
    have hinx : inb k = inL (refOps P M Mod) D xs := by rw [HIN.out]; dsimp only; rw [HXE.out]
    have hst := HR4.out.set k (inb k)
    rw [fillB_set inb hkm, hinx] at hst
    have HR5 := Lib.hid hst
    have HB5 := Lib.hid (HB4.out.setCell (p := ⟨gi, k, none⟩) (by rw [HGI.out]; exact Nat.le_refl _) (.bool (inL (refOps P M Mod) D xs)))
    have HLS2 : Hid (∀ j, j < k + 1 → listF q (checks.getD j []) N = 0) := hid' fun j hj => by
     by_cases e : j = k
     ·subst e; rw [HXE.out]; exact hli
     ·exact HLS.out j (by omega)
    clear hli hst hinx
    generalize inL (refOps P M Mod) D xs = bx at *
    go_wp2_with fail
    exact ⟨⟨k + 1, by omega, rfl, by push_cast; rfl, HLS2, HR5, HB5⟩, by simp only [intOf]; omega⟩
   ·rw [if_neg hli]
    have k1 : (listF q xs N != 0) = true := by rw [bne_iff_ne]; exact hli
    have HXX : Hid (X = listF q xs N) := hid' (by
     have h := H1.out k hkm HLS.out (by rw [HXE.out]; exact hli)
     rw [HXE.out] at h; exact h)
    have HB5 := Lib.hid (bl_trans HB.out (HB4.out.setCell (p := ⟨gi, k, none⟩) (by rw [HGI.out]; exact Nat.le_refl _) (.bool false)))
    clear hli
    generalize listF q xs N = er at *
    go_wp2_with fail
    go_ret
    exact ⟨by rw [HXX.out]; rfl, HB5.out⟩
  ·obtain rfl : m = k := by omega
   have T0r := Lib.hid (T0.out.belowS HBr.out)
   have c0 : wr.cell? ⟨w.heap.size, 3, none⟩ = some (.int .i64 (N : Int)) := T0r.out.cell 3
   generalize wr = wo at *
   have HU0 : Hid (RB (wo.alloc (.cells (madeCells #[.bool false] N) 4)) wo.heap.size (List.replicate N false)) := RB.made wo N
   have HBU := Lib.hid (bl_alloc wo (.cells (madeCells #[.bool false] N) 4))
   have HRU := Lib.hid (HR.out.belowS HBU.out)
   have HBo := Lib.hid (bl_trans HB.out HBr.out)
   have hgo := HR.out.lt
   clear HBr HR T0r
   go_wp2_with fail
   clear hmk2 c0
   obtain ⟨gu, hgu⟩ : ∃ gu, gu = wo.heap.size := ⟨_, rfl⟩
   have HGU := Lib.hid hgu
   rw [← hgu] at HU0 hgo ⊢
   clear hgu
   go_loopw [13, 14, 15, 16, 61] (fun _ _ _ _ i wr => ∃ (k : Nat) (u : List Bool), k ≤ m ∧ i = .int .i64 (k : Int) ∧ Hid (orT ok I N checks k = some u) ∧ Hid (RB wr gu u) ∧ Hid (RB wr gi (fillB m inb m)) ∧ Hid (Below wo.heap.size wo wr)) (fun _ _ _ _ i _ => m - (intOf i).toNat)
   case atStart => exact ⟨0, List.replicate N false, Nat.zero_le _, rfl, rfl, HU0, HRU, HBU⟩
   case round =>
    clear HU0 HRU HBU
    obtain ⟨k, u, hk, rfl, HOT, HU, HR, HBr⟩ := hrel
    by_cases hkm : k < m
    ·obtain ⟨ad, Ak, ck, xs, rfl, hcc0, HXo, HXE⟩ := (HC.out.below HBo.out (Nat.le_refl _)).eltA (k := k) (by rw [HML.out]; exact hkm)
     have hcc := cell_below HBr.out hcc0
     have hlz : listF q xs N = 0 := by rw [← HXE.out]; exact HLS.out k hkm
     have hxl := HLZ.out xs hlz
     have HXL := Lib.hid hxl
     have hok := HOK.out xs hlz
     have hur := HR.out.cell k (by rw [fillB_len]; exact hkm)
     rw [fillB_at inb hkm hkm] at hur
     have hinx : inb k = inL (refOps P M Mod) D xs := by rw [HIN.out]; dsimp only; rw [HXE.out]
     rw [hinx] at hur
     have HOR : Hid (orT ok I N checks (k + 1) = if ok xs then usT I xs u N else none) := hid' (show orT ok I N checks (k + 1) = _ by rw [orT, HOT.out, HXE.out])
     have HNO : Hid (orT ok I N checks (k + 1) = none → X = 13) := hid' fun h => H2.out HLS.out (orT_none h m (by omega))
     obtain ⟨xd, xi, rfl, hxi, _, HXI⟩ := (HXo.out.si.below HBr.out (Nat.le_refl _)).elt (k := I) (by rw [HXL.out]; exact hI)
     rw [HXI.out] at hok
     rw [hxl] at hcc
     clear hlz hxl hinx hcc0
     cases hin : inL (refOps P M Mod) D xs
     ·rw [hin] at hur hok
      rw [Bool.and_false] at hok
      have HX13 : Hid (X = 13) := hid' (HNO.out (by rw [HOR.out, hok]; rfl))
      clear hok hin
      have HBF := Lib.hid (bl_trans HBo.out HBr.out)
      go_wp2_with fail
      go_ret
      exact ⟨by rw [HX13.out]; rfl, HBF.out⟩
     ·rw [hin] at hur hok
      rw [Bool.and_true] at hok
      clear hin
      cases hx1 : (xi == 1)
      ·rw [hx1] at hok
       have HX13 : Hid (X = 13) := hid' (HNO.out (by rw [HOR.out, hok]; rfl))
       have hx2 : (xi != 1) = true := by rw [bne_iff_ne]; exact beq_eq_false_iff_ne.1 hx1
       clear hok
       have HBF := Lib.hid (bl_trans HBo.out HBr.out)
       go_wp2_with fail
       go_ret
       exact ⟨by rw [HX13.out]; rfl, HBF.out⟩
      ·rw [hx1] at hok
       have hx2 : (xi != 1) = false := by rw [bne_eq_false_iff_eq]; exact beq_iff_eq.1 hx1
       rw [hok, if_pos rfl] at HOR
       clear hok
       generalize wr = wk at *
       go_wp2_with fail
       clear hx1 hx2 hxi hur hcc
       go_loopw [15, 16, 80] (fun _ _ i wr => ∃ (j : Nat) (u' : List Bool), j ≤ N ∧ i = .int .i64 (j : Int) ∧ Hid (usT I xs u j = some u') ∧ Hid (RB wr gu u') ∧ Hid (RB wr gi (fillB m inb m)) ∧ Hid (Below wo.heap.size wo wr)) (fun _ _ i _ => N - (intOf i).toNat)
       case atStart => exact ⟨0, u, Nat.zero_le _, rfl, rfl, HU, HR, HBr⟩
       case round =>
        clear HU HR HBr
        obtain ⟨j, u', hj, rfl, HUS, HU, HR, HBr⟩ := hrel
        by_cases hjN : j < N
        ·obtain ⟨xd2, xj, e2, hxj, _, HXJ⟩ := (HXo.out.si.below HBr.out (Nat.le_refl _)).elt (k := j) (by rw [HXL.out]; exact hjN)
         cases e2
         have hul : u'.length = N := by rw [usT_len HUS.out, orT_len HOT.out]
         have HUL := Lib.hid hul
         have huc := HU.out.cell j (by rw [hul]; exact hjN)
         have huf := HU.out.frozen j
         have HUN : Hid (usT I xs u (j + 1) = if j = I ∨ xj = 0 then some u' else if u'.getD j false then none else some (u'.set j true)) := hid' (show usT I xs u (j + 1) = _ by rw [usT, HUS.out, HXJ.out])
         have HNO2 : Hid (usT I xs u (j + 1) = none → X = 13) := hid' fun h => HNO.out (by rw [HOR.out]; exact usT_none h N (by omega))
         clear hul
         by_cases hjI : j = I
         ·have k1 : ((j : Int) == (I : Int)) = true := by rw [beq_iff_eq]; omega
          have HUE : Hid (usT I xs u (j + 1) = some u') := hid' (by rw [HUN.out, if_pos (.inl hjI)])
          clear hjI
          go_wp2_with fail
          exact ⟨⟨j + 1, u', by omega, by push_cast; rfl, HUE, HU, HR, HBr⟩, by simp only [intOf]; omega⟩
         ·have k1 : ((j : Int) == (I : Int)) = false := by rw [beq_eq_false_iff_ne]; omega
          by_cases hx0 : xj = 0
          ·have k2 : (xj == 0) = true := by rw [beq_iff_eq]; exact hx0
           have HUE : Hid (usT I xs u (j + 1) = some u') := hid' (by rw [HUN.out, if_pos (.inr hx0)])
           clear hjI hx0
           go_wp2_with fail
           exact ⟨⟨j + 1, u', by omega, by push_cast; rfl, HUE, HU, HR, HBr⟩, by simp only [intOf]; omega⟩
          ·have k2 : (xj == 0) = false := by rw [beq_eq_false_iff_ne]; exact hx0
           have hnn : ¬ (j = I ∨ xj = 0) := fun h => h.elim hjI hx0
           cases hub : u'.getD j false
           ·rw [hub] at huc
            have HUE : Hid (usT I xs u (j + 1) = some (u'.set j true)) := hid' (by rw [HUN.out, if_neg hnn, hub]; rfl)
            have HU2 := Lib.hid (HU.out.set j true)
            have HR2 : Hid (RB (wr.setCell ⟨gu, j, none⟩ (.bool true)) gi (fillB m inb m)) := hid' (HR.out.far (p := ⟨gu, j, none⟩) (by show gi ≠ gu; omega) _)
            have HB2 := Lib.hid (HBr.out.setCell (p := ⟨gu, j, none⟩) (by rw [HGU.out]; exact Nat.le_refl _) (.bool true))
            clear hub hnn hjI hx0
            go_wp2_with fail
            exact ⟨⟨j + 1, u'.set j true, by omega, by push_cast; rfl, HUE, HU2, HR2, HB2⟩, by simp only [intOf]; omega⟩
           ·rw [hub] at huc
            have HX13 : Hid (X = 13) := hid' (HNO2.out (by rw [HUN.out, if_neg hnn, hub]; rfl))
            have HBF := Lib.hid (bl_trans HBo.out HBr.out)
            clear hub hnn hjI hx0
            go_wp2_with fail
            go_ret
            exact ⟨by rw [HX13.out]; rfl, HBF.out⟩
        ·obtain rfl : N = j := by omega
         go_wp2_with fail
         exact ⟨⟨k + 1, u', by omega, by push_cast; rfl, by rw [HOR.out]; exact HUS.out, HU, HR, HBr⟩, by simp only [intOf]; omega⟩
    ·obtain rfl : m = k := by omega
     have HX0 : Hid (X = 0) := hid' (H3.out HLS.out u HOT.out)
     have HBF := Lib.hid (bl_trans HBo.out HBr.out)
     go_wp2_with fail
     go_ret
     exact ⟨by rw [HX0.out]; rfl, HBF.out⟩
end Go.Proofs.YtlofhnmpbpjigaaGreat
namespace Go.Proofs.YtlofhnmpbpjigaaGreat
set_option maxRecDepth 100000
def xA : List (List Int) := [[1, 0, 1], [0, 1, 1]]
def xB : List (List Int) := [[1, 0, 0]]
def xS : List (List Int) := [[1, 0, 0], [0, 1, 0], [0, 0, 1]]
theorem x1 : sumS (refOps 2 1 []) xA xB 3 = xS := by decide +kernel
theorem x2 : meetS (refOps 2 1 []) xA xB 3 = [] := by decide +kernel
theorem x3 : nullL (refOps 2 1 []) xA 3 = [[1, 1, 1]] := by decide +kernel
theorem x4 : crdL (refOps 2 1 []) xA 3 [1, 1, 0] = [1, 1] := by decide +kernel
theorem x5 : restL (refOps 2 1 []) xA [1, 0, 0] = [0, 0, 1] := by decide +kernel
theorem x7 : supL (refOps 2 1 []) xA 3 (othersL [1, 2] 3) = [[0, 1, 1]] := by decide +kernel
theorem x8 : inL (refOps 2 1 []) xA [1, 0, 0] = false := by decide +kernel
theorem x10 : inL (refOps 2 1 []) xA [1, 1, 0] = true := by decide +kernel
theorem x11 : canonL (refOps 2 1 []) xA 3 = xA := by decide +kernel
theorem x12 : canonL (refOps 2 1 []) xB 3 = xB := by decide +kernel
theorem x13 : canonL (refOps 2 1 []) xS 3 = xS := by decide +kernel
theorem rows_of {n : Nat} {l : List (List Int)} (h : (l.all fun r => decide (r.length = n) && r.all fun x => decide (0 ≤ x ∧ x < 2)) = true) : Rows (orderF 2 1) n l := fun k hk => by
 rw [List.all_eq_true] at h
 have hm : l.getD k [] ∈ l := by simp [List.getD, hk]
 have h1 := h _ hm
 rw [Bool.and_eq_true, decide_eq_true_eq, List.all_eq_true] at h1
 refine ⟨h1.1, fun i => ?_⟩
 rw [order21]
 by_cases hi : i < (l.getD k []).length
 ·have h2 := h1.2 _ (getD_mem hi)
  rwa [decide_eq_true_eq] at h2
 ·rw [getD_len (by omega)]; omega
theorem fld21 : FieldP 2 1 [] := ⟨by rw [order21]; decide, ⟨by decide, fun d h1 h2 => by omega⟩, ⟨fun _ => rfl, fun h => absurd rfl h⟩, fun h => absurd rfl h⟩
theorem sp_of {l : List (List Int)} (h : (l.all fun r => decide (r.length = 3) && r.all fun x => decide (0 ≤ x ∧ x < 2)) = true) (h2 : canonL (refOps 2 1 []) l 3 = l) (hl : l.length ≤ 256) : spaceE 2 1 [] 3 l = 0 :=
 spaceE_ok (matE_mk (n := 3) fld21 (by omega) hl (rows_of h)) h2
end Go.Proofs.YtlofhnmpbpjigaaGreat
namespace Go.Proofs.YtlofhnmpbpjigaaGreat
open Go.RowKit
set_option maxRecDepth 100000
theorem eA : spaceE 2 1 [] 3 xA = 0 := sp_of (by decide) x11 (by decide)
theorem eB : spaceE 2 1 [] 3 xB = 0 := sp_of (by decide) x12 (by decide)
theorem eS : spaceE 2 1 [] 3 xS = 0 := sp_of (by decide) x13 (by decide)
theorem ve_of {x : List Int} (hl : (x.length : Int) = 3) (h : (x.all fun y => decide (0 ≤ y ∧ y < 2)) = true) : vecE (orderF 2 1) x 3 = 0 := by
 unfold vecE
 rw [if_pos hl]
 refine entriesF_ok fun k hk => ?_
 rw [order21]
 rw [List.all_eq_true] at h
 have := h _ (getD_mem hk)
 rwa [decide_eq_true_eq] at this
section
variable (w : World) (a b c : Value)
theorem k1 (hA : SS w a xA) (hB : SS w b xB) : Calls Tryz.prog 134 #[.agg #[.int .i64 2, .int .i64 1, .slice none 0 0], .agg #[.int .i64 3, a], .agg #[.int .i64 3, b]] w (RetMx w 3 [[1, 0, 0], [0, 1, 0], [0, 0, 1]]) := by
 have h := sSum_ok w 2 1 3 (.slice none 0 0) a b [] xA xB (SI.none_ w) hA hB eA eB (by omega)
 rw [x1] at h
 exact h
theorem k2 (hA : SS w a xA) (hB : SS w b xB) : Calls Tryz.prog 111 #[.agg #[.int .i64 2, .int .i64 1, .slice none 0 0], .agg #[.int .i64 3, a], .agg #[.int .i64 3, b]] w (RetMx w 3 []) := by
 have h := sMeet_ok w 2 1 3 (.slice none 0 0) a b [] xA xB (SI.none_ w) hA hB eA eB (by omega)
 rw [x2] at h
 exact h
theorem k4 (hA : SS w a xA) (hc : SI w c [1, 1, 0]) : Calls Tryz.prog 78 #[.agg #[.int .i64 2, .int .i64 1, .slice none 0 0], .agg #[.int .i64 3, a], c] w (RetIs w [1, 1]) := by
 have h := sCoord_ok w 2 1 3 (.slice none 0 0) a c [] xA [1, 1, 0] (SI.none_ w) hA hc eA (ve_of rfl (by decide)) x10
 rw [x4] at h
 exact h
theorem k8 (hA : SS w a xA) (hc : SI w c [1, 0, 0]) : Calls Tryz.prog 77 #[.agg #[.int .i64 2, .int .i64 1, .slice none 0 0], .agg #[.int .i64 3, a], c] w (fun e w' => e = .returned (.tuple #[.bool false, .int .i64 0]) ∧ Below w.heap.size w w') := by
 have h := sHas_ok w 2 1 3 (.slice none 0 0) a c [] xA [1, 0, 0] (SI.none_ w) hA hc eA (ve_of rfl (by decide))
 rw [x8] at h
 exact h
end
theorem codeE_mk {P M : Int} {Mod : List Int} {n : Nat} {gen : List (List Int)} (hf : FieldP P M Mod) (h1 : 1 ≤ n) (h2 : n ≤ 64) (hC : Cn (refOps P M Mod) (orderF P M) n gen) : codeE P M Mod n gen = 0 := by
 have h0 := checkF_ok hf
 have hle := hC.le
 have hm : matE P M Mod n gen = 0 := matE_mk hf (by omega) (by omega) hC.rows
 unfold codeE
 rw [if_neg (by rw [h0]; decide), if_pos (by omega)]
 unfold spaceE
 rw [if_neg (by rw [hm]; decide), Int.toNat_natCast, if_pos (hC.self (ref_fld hf))]
structure WU (bo bu sz : Nat) (w5 : World) (Lk : Nat → List (List Int)) (Uk : Nat → List Bool) (k : Nat) (X : Nat → Prop) (W : World) : Prop where
 x0 : ∀ i, i < sz → X i
 kp : ∀ i, i < sz → i ≠ bo → i ≠ bu → W.heap[i]? = w5.heap[i]?
 st : ∃ v, Blk W bo 25 [v] ∧ OS sz (fun g => ¬ X g ∨ g < sz) W v (Lk k) ∧ ∀ g, v.ownBlock = some g → X g
 us : RB W bu (Uk k)
 hb : bo < sz ∧ bu < sz ∧ bo ≠ bu
 size : sz ≤ W.heap.size
 lt : ∀ i, X i → i < W.heap.size
 os : W.os = w5.os
 tape : W.tape = w5.tape
 output : W.output = w5.output
variable {bo bu sz : Nat} {w5 : World} {Lk : Nat → List (List Int)} {Uk : Nat → List Bool}
theorem WU.on {k : Nat} {X : Nat → Prop} {W W' : World} (h : WU bo bu sz w5 Lk Uk k X W) (ho : On X W W') : WU bo bu sz w5 Lk Uk k X W' := by
 obtain ⟨v, h1, h2, h3⟩ := h.st
 exact ⟨h.x0, fun i hi ha hb => (ho.block i (h.x0 i hi)).trans (h.kp i hi ha hb),
  ⟨v, (ho.block _ (h.x0 _ h.hb.1)).trans h1, h2.onb (fun g hg => ho.block g (h3 g hg)) (fun g _ hn => ho.block g (Classical.byContradiction fun hx => hn (.inl hx))), h3⟩,
  (ho.block _ (h.x0 _ h.hb.2.1)).trans h.us, h.hb, Nat.le_trans h.size ho.size, fun i hi => Nat.lt_of_lt_of_le (h.lt i hi) ho.size, ho.os.trans h.os, ho.tape.trans h.tape, ho.output.trans h.output⟩
theorem WU.rests (bo bu sz : Nat) (w5 : World) (Lk : Nat → List (List Int)) (Uk : Nat → List Bool) : Rests (WU bo bu sz w5 Lk Uk) := ⟨fun k X W W' h ho => h.on ho, fun k X W h => h.lt⟩
def KpU (bo bu sz : Nat) : Nat → Prop := fun i => i < sz ∧ i ≠ bo ∧ i ≠ bu
theorem WU.skip {k : Nat} {X : Nat → Prop} {W : World} (h : WU bo bu sz w5 Lk Uk k X W) (hL : Lk (k + 1) = Lk k) (hU : Uk (k + 1) = Uk k) (u : Value) :
  Off X W W ∧ Kept2 (KpU bo bu sz) W W ∧ ∃ X', WU bo bu sz w5 Lk Uk (k + 1) X' W ∧ ∀ i, X' i → X i ∨ u.ownBlock = some i ∨ W.heap.size ≤ i :=
 ⟨Off.refl _ _, fun _ _ => rfl, X, ⟨h.x0, h.kp, by rw [hL]; exact h.st, by rw [hU]; exact h.us, h.hb, h.size, h.lt, h.os, h.tape, h.output⟩, fun i hi => .inl hi⟩
theorem WU.push {k : Nat} {X : Nat → Prop} {W W1 : World} {u : Value} {y : List Int} (h : WU bo bu sz w5 Lk Uk k X W) (ho1 : Off (fun i => i = bu) W W1) (hs1 : W1.heap.size = W.heap.size) (hU : RB W1 bu (Uk (k + 1))) (hL : Lk (k + 1) = Lk k ++ [y])
   (hux : ∀ i, u.ownBlock = some i → i < W.heap.size ∧ ¬ X i) :
   ∃ v, Blk W1 bo 25 [v] ∧ OS sz (fun g => ¬ (X g ∨ u.ownBlock = some g) ∨ g < sz) (W1.alloc (.cells #[u] 22)) v (Lk k) ∧ (∀ g, u.ownBlock = some g → v.ownBlock ≠ some g ∧ ¬ (¬ (X g ∨ u.ownBlock = some g) ∨ g < sz)) ∧
     ∀ v' W2, OS sz (fun g => ¬ (X g ∨ u.ownBlock = some g) ∨ g < sz) W2 v' (Lk k ++ [y]) → (W1.alloc (.cells #[u] 22)).grownBy W2 v.ownBlock → (v'.ownBlock = v.ownBlock ∨ v'.ownBlock = some (W1.alloc (.cells #[u] 22)).heap.size) →
       Blk W2 bo 25 [v] ∧ Off X W (W2.setCell ⟨bo, 0, none⟩ v') ∧ Kept2 (KpU bo bu sz) W (W2.setCell ⟨bo, 0, none⟩ v') ∧ ∃ X', WU bo bu sz w5 Lk Uk (k + 1) X' (W2.setCell ⟨bo, 0, none⟩ v') ∧ ∀ i, X' i → X i ∨ u.ownBlock = some i ∨ W.heap.size ≤ i := by
 obtain ⟨v, h1, h2, h3⟩ := h.st
 obtain ⟨b1, b2, b3⟩ := h.hb
 have hsz := h.size
 have hvb : ∀ g, v.ownBlock = some g → sz ≤ g ∧ g < W.heap.size := fun g hg => h2.lt hg
 have hxb : ∀ g, u.ownBlock = some g → sz ≤ g := fun g hg => Nat.le_of_not_lt fun hlt => (hux g hg).2 (h.x0 g hlt)
 have hW1 : ∀ i, i < W.heap.size → i ≠ bu → W1.heap[i]? = W.heap[i]? := fun i hi hn => ho1.block i hi hn
 have hbl1 : Blk W1 bo 25 [v] := (hW1 bo (by omega) b3).trans h1
 have hos1 : OS sz (fun g => ¬ X g ∨ g < sz) W1 v (Lk k) := h2.onb (fun g hg => hW1 g (hvb g hg).2 (by have := (hvb g hg).1; omega)) (fun g hgl hn => hW1 g hgl (by intro e; exact hn (.inr (by omega))))
 refine ⟨v, hbl1, ?_, ?_, fun v' W2 ho hg hv => ?_⟩
 · refine (hos1.names (Y := fun g => ¬ (X g ∨ u.ownBlock = some g) ∨ g < sz) fun g _ hy => ?_).alloc _
   rcases hy with hy | hy
   · exact .inl fun e => hy (.inl e)
   · exact .inr hy
 · intro g hg
   obtain ⟨hlt, hnx⟩ := hux g hg
   refine ⟨fun e => hnx (h3 g e), fun hy => ?_⟩
   rcases hy with hy | hy
   · exact hy (.inr hg)
   · exact hnx (h.x0 g hy)
 · have hszA : (W1.alloc (.cells #[u] 22)).heap.size = W.heap.size + 1 := by rw [World.size_alloc, hs1]
   have hWA : Below W1.heap.size W1 (W1.alloc (.cells #[u] 22)) := bl_alloc W1 _
   have hsz2 := hg.size
   have hbl : ∀ i, i < W.heap.size → i ≠ bu → v.ownBlock ≠ some i → W2.heap[i]? = W.heap[i]? := fun i hi hn hne => (hg.block i (by omega) fun e => hne e.symm).trans ((hWA.block i (by omega)).trans (hW1 i hi hn))
   have hblk2 : Blk W2 bo 25 [v] := (hbl bo (by omega) b3 fun e => by have := (hvb bo e).1; omega).trans h1
   have hset : ∀ i, i ≠ bo → (W2.setCell ⟨bo, 0, none⟩ v').heap[i]? = W2.heap[i]? := fun i hi => Below.heap_setCell W2 ⟨bo, 0, none⟩ v' i hi
   have hsz3 : (W2.setCell ⟨bo, 0, none⟩ v').heap.size = W2.heap.size := by show (W2.heap.modify _ _).size = _; rw [Array.size_modify]
   have hv' : ∀ g, v'.ownBlock = some g → (v.ownBlock = some g ∨ g = W.heap.size + 1) := fun g hg' => by
     rcases hv with e | e
     · exact .inl (e.symm.trans hg')
     · rw [e] at hg'; injection hg' with hg'; exact .inr (by omega)
   have hold : ∀ i, i < W.heap.size → i ≠ bo → i ≠ bu → v.ownBlock ≠ some i → (W2.setCell ⟨bo, 0, none⟩ v').heap[i]? = W.heap[i]? := fun i hi h1 h2 h3 => (hset i h1).trans (hbl i hi h2 h3)
   have hOS := hg.os.trans (hWA.os.trans ho1.os); have hTP := hg.tape.trans (hWA.tape.trans ho1.tape); have hOU := hg.output.trans (hWA.output.trans ho1.output)
   have hlow : ∀ i, i < sz → v.ownBlock ≠ some i := fun i hi e => by have := (hvb i e).1; omega
   have hbu2 : (W2.setCell ⟨bo, 0, none⟩ v').heap[bu]? = W1.heap[bu]? := (hset bu (fun e => b3 e.symm)).trans ((hg.block bu (by omega) fun e => hlow bu b2 e.symm).trans (hWA.block bu (by omega)))
   refine ⟨hblk2, ⟨hOS, hTP, hOU, by omega, fun i hi hx => hold i hi (fun e => hx (by rw [e]; exact h.x0 _ b1)) (fun e => hx (by rw [e]; exact h.x0 _ b2)) fun e => hx (h3 i e)⟩, fun i hi => hold i (by have := hi.1; omega) hi.2.1 hi.2.2 (hlow i hi.1),
     fun i => X i ∨ u.ownBlock = some i ∨ v'.ownBlock = some i, ⟨fun i hi => .inl (h.x0 i hi), fun i hi ha hb => (hold i (by omega) ha hb (hlow i hi)).trans (h.kp i hi ha hb), ⟨v', hblk2.set_ 0 v', ?_, fun g hg' => .inr (.inr hg')⟩, ?_, h.hb, by omega, fun i hi => ?_, hOS.trans h.os, hTP.trans h.tape, hOU.trans h.output⟩, fun i hi => ?_⟩
   · rw [hL]
     refine (ho.onb (fun g hg' => hset g ?_) fun g hgl hy => hset g fun e => hy (.inr (by omega))).names fun g hgl hy => ?_
     · rcases hv' g hg' with e | e
       · have := (hvb g e).1; omega
       · omega
     · rcases hy with hy | hy
       · exact .inl fun e => hy (e.elim .inl fun e => .inr (.inl e))
       · exact .inr hy
   · show _ = _
     rw [hbu2]; exact hU
   · rcases hi with hi | hi | hi
     · have := h.lt i hi; omega
     · have := (hux i hi).1; omega
     · rcases hv' i hi with e | e
       · have := (hvb i e).2; omega
       · have := ho.lt hi; omega
   · rcases hi with hi | hi | hi
     · exact .inl hi
     · exact .inr (.inl hi)
     · rcases hv' i hi with e | e
       · exact .inl (h3 i e)
       · exact .inr (.inr (by omega))
theorem WU.bel {k : Nat} {X : Nat → Prop} {W : World} (h : WU bo bu sz w5 Lk Uk k X W) (hsz : w5.heap.size = sz) {B : Nat} (hB : B ≤ sz) (h1 : B ≤ bo) (h2 : B ≤ bu) : Below B w5 W :=
 ⟨h.os, h.tape, h.output, by rw [hsz]; exact h.size, fun i hi => h.kp i (by omega) (by omega) (by omega)⟩
end Go.Proofs.YtlofhnmpbpjigaaGreat
