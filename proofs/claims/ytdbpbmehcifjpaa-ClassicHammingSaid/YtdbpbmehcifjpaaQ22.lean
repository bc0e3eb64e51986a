/- Texts of a claim, merged: words, plain facts and walks that the last of its texts uses. -/
import Derived.Test.YtdbpbmehcifjpaaQ1
import Derived.Test.YtdbpbmehcifjpaaQ6
import Derived.Test.YtdbpbmehcifjpaaQ7
import Derived.Test.YtdbpbmehcifjpaaQ9
import Derived.Test.YtdbpbmehcifjpaaQ10
import Derived.Test.YtdbpbmehcifjpaaQ13
import Derived.Test.YtdbpbmehcifjpaaQ14
import Derived.Test.YtdbpbmehcifjpaaQ21
set_option linter.unusedSimpArgs false
set_option linter.unusedVariables false

/- A row of rows of the call's own is appended to (OM.app). -/
namespace Go.Proofs.Ytdbpbmehcifjpaa
open Go.RowKit
set_option linter.unusedVariables false
set_option maxRecDepth 100000

/-- something is appended to a row, and the header laid anew -/
theorem OM.app {B : Nat} {X : Nat → Prop} {w w1 : World} {g n c : Nat} {l : List (List Int)} (h : OM B X w (.slice (some ⟨g, 0, none⟩) n c) l) (hX : ∀ g, X g → g < w.heap.size) {i : Nat} (hi : i < l.length) {u u' : Value} (hu : w.cell? ⟨g, i, none⟩ = some u)
    (hg : w.grownBy w1 u.ownBlock) {ys : List Int} (ho : OI B w1 u' ys) (hv' : u'.ownBlock = u.ownBlock ∨ u'.ownBlock = some w.heap.size) :
    OM B X (w1.setCell ⟨g, i, none⟩ u') (.slice (some ⟨g, 0, none⟩) n c) (l.set i ys) := by
  have hg0 := h.lt (g := g) rfl
  obtain ⟨us, h⟩ := h
  rw [h.hd hi] at hu
  obtain rfl := Option.some.inj hu
  have hn := h.lenEq
  subst hn
  have hfr : ∀ j, j < l.length → ∀ b, (us j).ownBlock = some b → b < w.heap.size := fun j hj b hb2 => ((h.2.1 j hj).1.lt hb2).2
  obtain ⟨h1, hr, hin, hv⟩ := h
  have h1' : w1.ownsRow B 22 1 (.slice (some ⟨g, 0, none⟩) l.length c) l.length ((List.range l.length).map us) := by
    refine World.ownsRow.kept h1 hg ?_
    cases hb : (us i).ownBlock with
    | none => exact .inr (by intro e; cases e)
    | some b => exact .inr ((hr i hi).2 b hb).1
  have hst := (World.ownsRow.stored h1' i u').1
  have hgs := gr_set1 w1 g i u'
  have hnew : ∀ b, u'.ownBlock = some b → (us i).ownBlock = some b ∨ b = w.heap.size := fun b hb => by
    rcases hv' with e | e
    · exact .inl (e.symm.trans hb)
    · exact .inr (Option.some.inj (hb.symm.trans e))
  refine ⟨fun j => if i = j then u' else us j, ?_, fun j hj => ?_, fun a b ha hb2 hne b' hb' => ?_, hv⟩
  · have e : ((List.range l.length).map us).set i u' = (List.range (l.set i ys).length).map fun j => if i = j then u' else us j := by
      rw [List.length_set]
      refine List.ext_getElem (by simp) fun k h2 h3 => ?_
      simp only [List.getElem_set, List.getElem_map, List.getElem_range]
    rw [← e, List.length_set]
    exact hst
  · rw [List.length_set] at hj
    rw [getD_setL]
    by_cases e : i = j
    · subst e
      rw [if_pos ⟨rfl, hi⟩]
      dsimp only
      rw [if_pos rfl]
      refine ⟨ho.grown hgs fun b hb2 e2 => ?_, fun b hb2 => ⟨fun e2 => ?_, fun hx => ?_⟩⟩
      · have h4 : g = b := Option.some.inj e2
        rcases hnew b hb2 with h5 | h5
        · exact ((hr i hi).2 b h5).1 (by rw [h4.symm]; rfl)
        · have := hg0.2; omega
      · have h4 : g = b := Option.some.inj e2
        rcases hnew b hb2 with h5 | h5
        · exact ((hr i hi).2 b h5).1 (by rw [h4.symm]; rfl)
        · have := hg0.2; omega
      · rcases hnew b hb2 with h5 | h5
        · exact ((hr i hi).2 b h5).2 hx
        · have := hX b hx; omega
    · rw [if_neg (fun h => e h.1)]
      dsimp only
      rw [if_neg e]
      exact ⟨((hr j hj).1.grown hg fun b hb e2 => hin j i hj hi (fun e3 => e e3.symm) b hb e2).grown hgs fun b hb2 e2 => ((hr j hj).2 b hb2).1 e2, (hr j hj).2⟩
  · rw [List.length_set] at ha hb2
    dsimp only at hb' ⊢
    by_cases e1 : i = a
    · rw [if_pos e1] at hb'
      rw [if_neg (by omega)]
      intro e2
      rcases hnew b' hb' with h5 | h5
      · exact hin a b ha hb2 hne b' (by rw [← e1]; exact h5) e2
      · have := hfr b hb2 b' e2; omega
    · rw [if_neg e1] at hb'
      by_cases e2 : i = b
      · rw [if_pos e2]
        intro e3
        rcases hnew b' e3 with h5 | h5
        · exact hin a b ha hb2 hne b' hb' (by rw [← e2]; exact h5)
        · have := hfr a ha b' hb'; omega
      · rw [if_neg e2]
        exact hin a b ha hb2 hne b' hb'
end Go.Proofs.Ytdbpbmehcifjpaa

/- ref09.Turn. -/
namespace Go.Proofs.Ytdbpbmehcifjpaa
open Go.RowKit
set_option linter.unusedVariables false
set_option maxRecDepth 100000

theorem trnL_succ (rows : List (List Int)) (k : Nat) : trnL rows (k + 1) = trnL rows k ++ [rowOf rows.length fun i => ent rows i k] := by unfold trnL; rw [List.range_succ, List.map_append]; rfl
theorem rowOf_snoc (f : Nat → Int) (k : Nat) : rowOf (k + 1) f = rowOf k f ++ [f k] := by unfold rowOf; rw [List.range_succ, List.map_append]; rfl
theorem rowOf_none (f : Nat → Int) : rowOf 0 f = [] := rfl
theorem rowOf_i64 {N : Nat} {f : Nat → Int} (h : ∀ i, i < N → I64 (f i)) (k : Nat) : I64 ((rowOf N f).getD k 0) := by
  by_cases hk : k < N
  · rw [rowOf_getD hk]; exact h k hk
  · rw [getD_len (by rw [rowOf_len]; omega)]; exact I64.zero

set_option maxHeartbeats 16000000 in
theorem rTurn_any (w : World) (v : Value) (q : Int) (m : Nat) (rows : List (List Int)) (hv : SS w v rows) (hq : q ≤ 100000) (hR : Rows q m rows) (hm : m ≤ 100000) (hl : rows.length ≤ 100000) :
    Calls Try.prog 48 #[v, .int .i64 (m : Int)] w (RetNu w (trnL rows m)) := by
  have HV := Lib.hid hv; have HR := Lib.hid hR
  obtain ⟨VA, vc, rfl, _⟩ := hv
  clear hR
  obtain ⟨r, hr⟩ : ∃ r, r = rows.length := ⟨_, rfl⟩
  have HTS : Hid (∀ k, trnL rows (k + 1) = trnL rows k ++ [rowOf r fun i => ent rows i k]) := hid' fun k => by rw [trnL_succ, hr]
  rw [← hr] at HV hl ⊢
  have HRR := Lib.hid hr; clear hr
  have HE : Hid (∀ i k, i < r → I64 (ent rows i k)) := hid' fun i k hi => by
    have h := (HR.out i (by rw [← HRR.out]; exact hi)).2 k
    exact I64.of_small (by unfold ent; omega) (by unfold ent; omega)
  go_enter Try.func48, Try.ntmps48
  go_wp2_with fail
  go_loopw [5, 6] (fun out i wr => ∃ (k : Nat) (OA : Option Addr) (oc : Nat), k ≤ m ∧ i = .int .i64 (k : Int) ∧ out = .slice OA k oc ∧ Hid (OS w.heap.size (fun g => g < w.heap.size) wr (.slice OA k oc) (trnL rows k)) ∧ Hid (Below w.heap.size w wr)) (fun _ i _ => m - (intOf i).toNat)
  case atStart => exact ⟨0, none, 0, Nat.zero_le _, rfl, rfl, OS.nil _ _ _, bl_refl _⟩
  case round =>
    obtain ⟨k, OA, oc, hk, rfl, rfl, HO, HB⟩ := hrel
    by_cases hkm : k < m
    · obtain ⟨f, hf⟩ : ∃ f : Nat → Int, f = fun i => ent rows i k := ⟨_, rfl⟩
      have HTK := Lib.hid (HTS.out k)
      rw [← hf] at HTK
      have HF := Lib.hid hf; clear hf
      have HFI : Hid (∀ i, i < r → I64 (f i)) := hid' fun i hi => by rw [HF.out]; exact HE.out i k hi
      generalize wr = wo at *
      go_wp2_with fail
      go_loopw [7, 8] (fun col i ws => ∃ (j : Nat) (CA : Option Addr) (cc : Nat), j ≤ r ∧ i = .int .i64 (j : Int) ∧ col = .slice CA j cc ∧ Hid (OI wo.heap.size ws (.slice CA j cc) (rowOf j f)) ∧ Hid (Below wo.heap.size wo ws)) (fun _ i _ => r - (intOf i).toNat)
      case atStart => exact ⟨0, none, 0, Nat.zero_le _, rfl, rfl, OI.nil _ _, bl_refl _⟩
      case round =>
        obtain ⟨j, CA, cc, hj, rfl, rfl, HC, HB2⟩ := hrel
        by_cases hjr : j < r
        · have HBW := Lib.hid (bl_trans HB.out HB2.out)
          obtain ⟨ad, Ak, ck, row, rfl, hc, HRW, HRE⟩ := (HV.out.below HBW.out (Nat.le_refl _)).eltA (k := j) (by rw [← HRR.out]; exact hjr)
          have hrl : row.length = m := by rw [← HRE.out]; exact (HR.out j (by rw [← HRR.out]; exact hjr)).1
          obtain ⟨rd, y, rfl, hyc, _, HY⟩ := HRW.out.elt (k := k) (by rw [hrl]; exact hkm)
          rw [hrl] at hc
          have HSN : Hid (rowOf (j + 1) f = rowOf j f ++ [y]) := hid' (by rw [rowOf_snoc, HF.out]; dsimp only; unfold ent; rw [HRE.out, HY.out])
          have HP := Lib.hid (PushI.mk' (B := wo.heap.size) (w := wr) (w0 := wo) HC.out HB2.out HB2.out.size y)
          clear hrl
          go_wp2_with (at_builtin; go_must (refine wpList_pushI rfl _ _ rfl wo.heap.size _ (rowOf j f) rfl HP.out.own wr.heap.size 1 y rfl HP.out.box (by rw [rowOf_len]; omega) HP.out.up ?_); (intro v1 w2 ho hg); (rw [← HSN.out] at ho); (have HB3 := Lib.hid (HP.out.below (Nat.le_refl _) hg)); (obtain ⟨A1, c1, rfl⟩ := ho.form'); (rw [rowOf_len] at ho ⊢); (have HO2 := Lib.hid ho); clear ho hg)
          exact ⟨⟨j + 1, A1, c1, by omega, by push_cast; rfl, rfl, HO2, HB3⟩, by simp only [intOf]; omega⟩
        · obtain rfl : r = j := by omega
          have hs1 := HB.out.size
          have hs2 := HB2.out.size
          have HCS := Lib.hid (HC.out.si (by rw [rowOf_len]; omega) (rowOf_i64 HFI.out))
          have HOA := Lib.hid ((HO.out.below HB2.out).alloc (.cells #[.slice CA r cc] 22))
          have HBX := Lib.hid (box1 (w := wr) (u := .slice CA r cc) (t := 22))
          have HXA := Lib.hid (HCS.out.below (bl_alloc wr (.cells #[.slice CA r cc] 22)) (Nat.le_refl _))
          have HUP := Lib.hid (up_alloc (w := wr) (B := w.heap.size) (by omega) (.cells #[.slice CA r cc] 22))
          have HBA := Lib.hid ((bl_trans HB.out HB2.out).alloc (by omega) (.cells #[.slice CA r cc] 22))
          have HNB : Hid (∀ g, (Value.slice CA r cc).ownBlock = some g → wo.heap.size ≤ g) := hid' fun g hg => (HC.out.lt hg).1
          have HOL : Hid (∀ g, (Value.slice OA k oc).ownBlock = some g → g < wo.heap.size) := hid' fun g hg => (HO.out.lt hg).2
          clear HCS HC HO
          go_wp2_with (at_builtin; refine wpList_pushS rfl _ _ rfl w.heap.size (fun g => g < w.heap.size) _ (trnL rows k) rfl HOA.out wr.heap.size 1 _ (rowOf r f) rfl HBX.out HXA.out (fun _ g hg => ⟨fun e => by have h1 := HNB.out g hg; have h2 := HOL.out g e; omega, by have h1 := HNB.out g hg; show ¬ g < w.heap.size; omega⟩) (by rw [trnL_len]; omega) HUP.out ?_; (intro v5 w8 ho5 hg5 hv5); (rw [← HTK.out] at ho5); (have HB8 := Lib.hid (HOA.out.bgrown HBA.out HUP.out hg5)); (obtain ⟨A5, c5, rfl⟩ := ho5.form); (rw [trnL_len] at ho5 ⊢); (have HO8 := Lib.hid ho5); clear ho5 hg5 hv5)
          exact ⟨⟨k + 1, A5, c5, by omega, by push_cast; rfl, rfl, HO8, HB8⟩, by simp only [intOf]; omega⟩
    · obtain rfl : m = k := by omega
      have HSS := Lib.hid (HO.out.sep (fun g hg => hg) (by rw [trnL_len]; omega))
      go_wp2_with fail
      go_ret
      exact ⟨_, rfl, HSS.out, HO.out, HB.out⟩
end Go.Proofs.Ytdbpbmehcifjpaa

/- classic.Simplex, ref15.Simplex, over what Points gives. Printed by a program (gen_smp2.py). -/
namespace Go.Proofs.Ytdbpbmehcifjpaa
open Go.RowKit
set_option linter.unusedVariables false
set_option maxRecDepth 100000

/-- rows of which the first k are filled -/
def stS (N : Nat) (f : Nat → List Int) (k : Nat) : List (List Int) := (List.range N).map fun p => if p < k then f p else []
theorem stS_zero (N : Nat) (f : Nat → List Int) : stS N f 0 = List.replicate N [] := by simp [stS, List.map_const']
theorem stS_full (N : Nat) (f : Nat → List Int) : stS N f N = (List.range N).map f := List.map_congr_left fun p hp => by rw [if_pos (by simpa using hp)]
theorem stS_len (N : Nat) (f : Nat → List Int) (k : Nat) : (stS N f k).length = N := by simp [stS]
theorem stS_set {N : Nat} {f : Nat → List Int} {k : Nat} (h : k < N) : (stS N f k).set k (f k) = stS N f (k + 1) := by
  apply List.ext_getElem?
  intro i
  by_cases hi : i < N
  · by_cases e : k = i
    · subst e; simp [stS, hi]
    · have h2 : (i < k + 1) = (i < k) := by simp; omega
      simp [stS, List.getElem?_set, e, hi, h2]
  · simp [stS, List.getElem?_set, hi]
theorem stS_nil {N : Nat} {f : Nat → List Int} {k : Nat} (h : k < N) : (stS N f k).set k [] = stS N f k := by
  apply List.ext_getElem?
  intro i
  by_cases hi : i < N
  · by_cases e : k = i
    · subst e; simp [stS, hi]
    · simp [stS, List.getElem?_set, e, hi]
  · simp [stS, List.getElem?_set, hi]
theorem mk_rowsM (w : World) (n : Nat) (h : n ≤ 1000000) : ∃ w' g, w.alloc (.cells (madeCells #[.slice none 0 0] n) 22) = w' ∧ w.heap.size = g ∧ OM w.heap.size (fun g => g < w.heap.size) w' (.slice (some ⟨g, 0, none⟩) n n) (List.replicate n []) ∧ Below w.heap.size w w' :=
  ⟨_, _, rfl, rfl, OM.made w n (Nat.le_refl _) h, bl_alloc w _⟩
theorem orderF_small (P M : Int) : orderF P M ≤ 100000 := by have := orderF_bounds P M; omega

set_option maxHeartbeats 8000000 in
theorem cSmp_no (w : World) (P M r er : Int) (mv : Value) (he : er ≠ 0) (hP : ∀ w', Below w.heap.size w w' → Calls Try.prog 46 #[.agg #[.int .i64 P, .int .i64 M, mv], .int .i64 r] w' (RetSE w' [] er)) :
    Calls Try.prog 19 #[.agg #[.int .i64 P, .int .i64 M, mv], .int .i64 r] w (RetCE w 0 0 [] 0 [] er) := by
  have hb1 : (er != 0) = true := by rw [bne_iff_ne]; exact he
  obtain ⟨w1, e1, hq⟩ := FCQ.mk' w P M mv
  have HQ := Lib.hid hq; have HE1 := Lib.hid e1; clear hq e1
  go_enter Try.func19, Try.ntmps19
  go_upto_region 1 with fail
  rw [HE1.out]
  clear HE1
  have c0 := HQ.out.fb.c0; have c1 := HQ.out.fb.c1; have c2 := HQ.out.fb.c2
  go_wp2_with fail
  refine (hP w1 HQ.out.fb.bel).mono ?_
  rintro e w2 ⟨u2, rfl, hs2, hnw2, hb2⟩
  obtain ⟨PA, pc, rfl, _⟩ := id hs2
  have HS2 := Lib.hid hs2
  have HQ2 := Lib.hid (HQ.out.on hb2)
  clear hs2 hnw2 hb2 c0 c1 c2
  obtain ⟨d0, d1, d2, d3, d4, f0, f1, f2, f3, f4⟩ := HQ2.out.q.five
  go_wp2_with fail
  obtain ⟨w9, h9, HL⟩ := lay5 (x := .int .i64 0) (y := .int .i64 0) (z := .slice none 0 0) (u := .int .i64 0) (v := .slice none 0 0) HQ2.out.q
  rw [h9]
  have q0 := HL.c0; have q1 := HL.c1; have q2 := HL.c2; have q3 := HL.c3; have q4 := HL.c4
  refine bodyPost_ret (v := .tuple #[.agg #[.int .i64 0, .int .i64 0, .slice none 0 0, .int .i64 0, .slice none 0 0], .int .i64 er]) (by simp [results, Try.results19, go_sem, q0, q1, q2, q3, q4]) rfl ?_
  exact ⟨_, _, rfl, (SI.nilSep _ _).and (SS.nilSep _ _), HL.below HQ2.out.fb.bel HQ2.out.fb.bel.size (by omega)⟩

set_option maxHeartbeats 8000000 in
theorem rSmp_no (w : World) (P M r er : Int) (mv : Value) (he : er ≠ 0) (hP : ∀ w', Below w.heap.size w w' → Calls Try.prog 47 #[.agg #[.int .i64 P, .int .i64 M, mv], .int .i64 r] w' (RetSE w' [] er)) :
    Calls Try.prog 20 #[.agg #[.int .i64 P, .int .i64 M, mv], .int .i64 r] w (RetCE w 0 0 [] 0 [] er) := by
  have hb1 : (er != 0) = true := by rw [bne_iff_ne]; exact he
  obtain ⟨w1, e1, hq⟩ := FCQ.mk' w P M mv
  have HQ := Lib.hid hq; have HE1 := Lib.hid e1; clear hq e1
  go_enter Try.func20, Try.ntmps20
  go_upto_region 1 with fail
  rw [HE1.out]
  clear HE1
  have c0 := HQ.out.fb.c0; have c1 := HQ.out.fb.c1; have c2 := HQ.out.fb.c2
  go_wp2_with fail
  refine (hP w1 HQ.out.fb.bel).mono ?_
  rintro e w2 ⟨u2, rfl, hs2, hnw2, hb2⟩
  obtain ⟨PA, pc, rfl, _⟩ := id hs2
  have HS2 := Lib.hid hs2
  have HQ2 := Lib.hid (HQ.out.on hb2)
  clear hs2 hnw2 hb2 c0 c1 c2
  obtain ⟨d0, d1, d2, d3, d4, f0, f1, f2, f3, f4⟩ := HQ2.out.q.five
  go_wp2_with fail
  obtain ⟨w9, h9, HL⟩ := lay5 (x := .int .i64 0) (y := .int .i64 0) (z := .slice none 0 0) (u := .int .i64 0) (v := .slice none 0 0) HQ2.out.q
  rw [h9]
  have q0 := HL.c0; have q1 := HL.c1; have q2 := HL.c2; have q3 := HL.c3; have q4 := HL.c4
  refine bodyPost_ret (v := .tuple #[.agg #[.int .i64 0, .int .i64 0, .slice none 0 0, .int .i64 0, .slice none 0 0], .int .i64 er]) (by simp [results, Try.results20, go_sem, q0, q1, q2, q3, q4]) rfl ?_
  exact ⟨_, _, rfl, (SI.nilSep _ _).and (SS.nilSep _ _), HL.below HQ2.out.fb.bel HQ2.out.fb.bel.size (by omega)⟩

set_option maxHeartbeats 16000000 in
theorem rSmp_ok (w : World) (P M : Int) (R N : Nat) (mv : Value) (Mod : List Int) (pts : List (List Int)) (hm : SI w mv Mod) (hf : FieldP P M Mod) (hR : R ≤ 1000) (hN : pts.length = N) (hN2 : N ≤ 64) (hr : Rows (orderF P M) R pts)
    (hP : ∀ w', Below w.heap.size w w' → Calls Try.prog 47 #[.agg #[.int .i64 P, .int .i64 M, mv], .int .i64 (R : Int)] w' (RetSE w' pts 0)) :
    Calls Try.prog 20 #[.agg #[.int .i64 P, .int .i64 M, mv], .int .i64 (R : Int)] w (RetCE w P M Mod N (canonL (refOps P M Mod) (trnL pts R) N) 0) := by
  have ht : Rows (orderF P M) N (trnL pts R) := by have h := turn_rows (show 0 < orderF P M by have := one_lt_order hf.1; omega) hr R; rwa [hN] at h
  have HMK := Lib.hid (fun (w' : World) (rv : Value) (hb : Below w.heap.size w w') (hs : SS w' rv (trnL pts R)) => rMake_any w' P M N mv rv Mod _ (hm.below hb (Nat.le_refl _)) hs hf.1 hf.2.2.1 ht (by omega) (by rw [trnL_len]; omega))
  have HTU := Lib.hid (fun (w' : World) (v : Value) (hs : SS w' v pts) => rTurn_any w' v (orderF P M) R pts hs (orderF_small P M) hr (by omega) (by omega))
  unfold RetC at HMK
  unfold RetNu at HTU
  generalize canonL (refOps P M Mod) (trnL pts R) N = C at *
  generalize trnL pts R = T at *
  clear ht hr hf
  obtain ⟨w1, e1, hq⟩ := FCQ.mk' w P M mv
  have HQ := Lib.hid hq; have HE1 := Lib.hid e1; clear hq e1
  go_enter Try.func20, Try.ntmps20
  go_upto_region 1 with fail
  rw [HE1.out]
  clear HE1
  have c0 := HQ.out.fb.c0; have c1 := HQ.out.fb.c1; have c2 := HQ.out.fb.c2
  go_wp2_with fail
  refine (hP w1 HQ.out.fb.bel).mono ?_
  rintro e w2 ⟨u2, rfl, hs2, hnw2, hb2⟩
  obtain ⟨PA, pc, rfl, _⟩ := id hs2
  have HS2 := Lib.hid hs2
  have HQ2 := Lib.hid (HQ.out.on hb2)
  clear hs2 hnw2 hb2 c0 c1 c2
  change Hid (SS w2 (.slice PA pts.length pc) pts) at HS2
  rw [hN] at HS2 ⊢
  have c0 := HQ2.out.fb.c0; have c1 := HQ2.out.fb.c1; have c2 := HQ2.out.fb.c2
  go_upto_region 4 with fail
  refine Kept.start (S := fun w' => w'.cell? ⟨w.heap.size, 0, none⟩ = some (.int .i64 P) ∧ w'.cell? ⟨w.heap.size, 1, none⟩ = some (.int .i64 M) ∧ w'.cell? ⟨w.heap.size, 2, none⟩ = some mv) (by kernel_rfl) (⟨c0, c1, c2⟩) (fun hHeld => ?_)
  change Kept _ _ _ _ 9 _ _ _
  refine Kept.take (i := 0) (v := ?_) rfl (by kernel_rfl) (by kernel_rfl) (by kernel_rfl) (fun _ _ _ h => h) (Or.inl ⟨by kernel_rfl, ?_⟩) hHeld ?_
  rotate_left
  · intro w' hSw; (try dsimp only at hSw); first | (go_simp; done) | (go_simp; with_reducible rfl)
  try simp only [List.getElem_toArray, List.getElem_cons_zero, List.getElem_cons_succ, Act.put, List.setIfInBounds_toArray, List.set_cons_zero, List.set_cons_succ]
  refine Kept.take (i := 1) (v := ?_) rfl (by kernel_rfl) (by kernel_rfl) (by kernel_rfl) (fun _ _ _ h => h) (Or.inl ⟨by kernel_rfl, ?_⟩) hHeld ?_
  rotate_left
  · intro w' hSw; (try dsimp only at hSw); first | (go_simp; done) | (go_simp; with_reducible rfl)
  try simp only [List.getElem_toArray, List.getElem_cons_zero, List.getElem_cons_succ, Act.put, List.setIfInBounds_toArray, List.set_cons_zero, List.set_cons_succ]
  refine Kept.take (i := 2) (v := ?_) rfl (by kernel_rfl) (by kernel_rfl) (by kernel_rfl) (fun _ _ _ h => h) (Or.inl ⟨by kernel_rfl, ?_⟩) hHeld ?_
  rotate_left
  · intro w' hSw; (try dsimp only at hSw); first | (go_simp; done) | (go_simp; with_reducible rfl)
  try simp only [List.getElem_toArray, List.getElem_cons_zero, List.getElem_cons_succ, Act.put, List.setIfInBounds_toArray, List.set_cons_zero, List.set_cons_succ]
  refine Kept.take (i := 4) (v := ?_) rfl (by kernel_rfl) (by kernel_rfl) (by kernel_rfl) (fun _ _ _ h => h) (Or.inl ⟨by kernel_rfl, ?_⟩) hHeld ?_
  rotate_left
  · intro w' hSw; (try dsimp only at hSw); first | (go_simp; done) | (go_simp; with_reducible rfl)
  try simp only [List.getElem_toArray, List.getElem_cons_zero, List.getElem_cons_succ, Act.put, List.setIfInBounds_toArray, List.set_cons_zero, List.set_cons_succ]
  refine Kept.take (i := 5) (v := ?_) rfl (by kernel_rfl) (by kernel_rfl) (by kernel_rfl) (fun _ _ _ h => h) (Or.inl ⟨by kernel_rfl, ?_⟩) hHeld ?_
  rotate_left
  · intro w' hSw; (try dsimp only at hSw); first | (go_simp; done) | (go_simp; with_reducible rfl)
  try simp only [List.getElem_toArray, List.getElem_cons_zero, List.getElem_cons_succ, Act.put, List.setIfInBounds_toArray, List.set_cons_zero, List.set_cons_succ]
  refine Kept.only (i := 3) (by kernel_rfl) rfl (fun K hK => ?_)
  go_simp
  refine (HTU.out _ _ (HS2.out.below (bl_drew w2) (Nat.le_refl _))).mono ?_; rintro e w3 ⟨u3, rfl, hx3, _, hb3⟩; have HX3 := Lib.hid hx3.out; have HQ3 := Lib.hid (HQ2.out.on (bl_trans (bl_drew w2) hb3)); obtain ⟨TA, tc, rfl, _⟩ := hx3.out; clear hx3 hb3
  refine hK.out _ _ (⟨HQ3.out.fb.c0, HQ3.out.fb.c1, HQ3.out.fb.c2⟩) (fun hHeld2 => ?_)
  clear hK K
  replace hHeld := hHeld2
  clear hHeld2
  try simp only [List.getElem_toArray, List.getElem_cons_zero, List.getElem_cons_succ, Act.put, List.setIfInBounds_toArray, List.set_cons_zero, List.set_cons_succ]
  refine Kept.only (i := 6) (by kernel_rfl) rfl (fun K hK => ?_)
  go_simp
  refine (HMK.out w3 _ HQ3.out.fb.bel HX3.out).mono ?_; rintro e w4 ⟨u4, g4, rfl, hx4, hb4⟩; obtain ⟨⟨MA, mc, rfl, _⟩, ⟨DA, dc, rfl, _⟩⟩ := hx4.out; have HX4 : Hid (Sep w3.heap.size w4 fun w9 => SI w9 (.slice MA Mod.length mc) Mod ∧ SS w9 (.slice DA C.length dc) C) := hid' hx4; have HQ4 := Lib.hid (HQ3.out.on hb4); clear hx4 hb4; generalize C.length = dl at *; generalize Mod.length = ml at *
  refine hK.out _ _ (⟨HQ4.out.fb.c0, HQ4.out.fb.c1, HQ4.out.fb.c2⟩) (fun hHeld2 => ?_)
  clear hK K
  replace hHeld := hHeld2
  clear hHeld2
  try simp only [List.getElem_toArray, List.getElem_cons_zero, List.getElem_cons_succ, Act.put, List.setIfInBounds_toArray, List.set_cons_zero, List.set_cons_succ]
  refine Kept.only (i := 7) (o := ?op1) (by kernel_rfl) ?ho1 (fun K hK => ?_)
  case ho1 => (conv => lhs; simp only [List.getElem?_toArray, List.getElem?_cons_succ, List.getElem?_cons_zero])
  obtain ⟨y0, y1, y2, y3, y4, f0, f1, f2, f3, f4⟩ := HQ4.out.q.five; go_simp; obtain ⟨w5, hz, HL⟩ := lay5 (x := .int .i64 P) (y := .int .i64 M) (z := .slice MA ml mc) (u := .int .i64 (N : Int)) (v := .slice DA dl dc) HQ4.out.q; rw [hz]; have q0 := HL.c0; have q1 := HL.c1; have q2 := HL.c2; have q3 := HL.c3; have q4 := HL.c4; have hql := HQ3.out.q.lt; have HF5 := Lib.hid (HQ4.out.fb.blk.grown HL.gr (by intro e; have := Option.some.inj e; omega)); have HX5 := Lib.hid (HX4.out.grown HL.gr (by rintro b e; cases e; omega)); have HBZ := Lib.hid (HL.below HQ4.out.fb.bel HQ4.out.fb.bel.size (by omega)); clear hz y0 y1 y2 y3 y4 f0 f1 f2 f3 f4 HL
  refine hK.out _ _ (⟨HF5.out.cell 0, HF5.out.cell 1, HF5.out.cell 2⟩) (fun hHeld2 => ?_)
  clear hK K
  replace hHeld := hHeld2
  clear hHeld2
  try simp only [List.getElem_toArray, List.getElem_cons_zero, List.getElem_cons_succ, Act.put, List.setIfInBounds_toArray, List.set_cons_zero, List.set_cons_succ]
  refine Kept.only (i := 8) (by kernel_rfl) rfl (fun K hK => ?_)
  go_simp
  refine hK.out _ _ hHeld (fun hHeld2 => ?_)
  clear hK K
  clear hHeld2
  refine Kept.done (by kernel_rfl) ?_
  try simp only [List.getElem_toArray, List.getElem_cons_zero, List.getElem_cons_succ, Act.put, List.setIfInBounds_toArray, List.set_cons_zero, List.set_cons_succ]
  clear hHeld
  clear c0 c1 c2
  go_wp2_with fail
  refine bodyPost_ret (v := .tuple #[.agg #[.int .i64 P, .int .i64 M, .slice MA ml mc, .int .i64 (N : Int), .slice DA dl dc], .int .i64 0]) (by simp [results, Try.results20, go_sem, q0, q1, q2, q3, q4]) rfl ?_
  exact ⟨_, _, rfl, HX5.out.mono HQ3.out.fb.bel.size, HBZ.out⟩

set_option maxHeartbeats 32000000 in
theorem cSmp_ok (w : World) (P M : Int) (R N : Nat) (mv : Value) (Mod : List Int) (pts : List (List Int)) (hm : SI w mv Mod) (hf : FieldP P M Mod) (hR : R ≤ 256) (hN : pts.length = N) (hN1 : 1 ≤ N) (hN2 : N ≤ 64) (hr : Rows (orderF P M) R pts)
    (hP : ∀ w', Below w.heap.size w w' → Calls Try.prog 46 #[.agg #[.int .i64 P, .int .i64 M, mv], .int .i64 (R : Int)] w' (RetSE w' pts 0)) :
    Calls Try.prog 19 #[.agg #[.int .i64 P, .int .i64 M, mv], .int .i64 (R : Int)] w (RetCE w P M Mod N (canonL (refOps P M Mod) (trnL pts R) N) 0) := by
  have ht : Rows (orderF P M) N (trnL pts R) := by have h := turn_rows (show 0 < orderF P M by have := one_lt_order hf.1; omega) hr R; rwa [hN] at h
  have HNEW := Lib.hid (fun (w' : World) (rv : Value) (hb : Below w.heap.size w w') (hs : SS w' rv (trnL pts R)) => cNew_ok w' P M N mv rv Mod _ (hm.below hb (Nat.le_refl _)) hs (matE_mk hf (by omega) (by rw [trnL_len]; exact hR) ht) hN1 hN2)
  have hob := orderF_small P M
  have HE : Hid (∀ i k, I64 (ent pts i k)) := hid' fun i k => by
    by_cases hi : i < pts.length
    · have h := (hr i hi).2 k
      exact I64.of_small (by unfold ent; omega) (by unfold ent; omega)
    · have e : pts.getD i [] = [] := by simp [List.getD, List.getElem?_eq_none (show pts.length ≤ i by omega)]
      unfold ent; rw [e]; exact I64.zero
  have HRW := Lib.hid hr
  have HNN := Lib.hid hN
  unfold RetCE at HNEW
  generalize canonL (refOps P M Mod) (trnL pts R) N = C at *
  obtain ⟨F, hF⟩ : ∃ F : Nat → List Int, F = fun p => rowOf N fun i => ent pts i p := ⟨_, rfl⟩
  have HTF : Hid (stS R F R = trnL pts R) := hid' (by rw [stS_full, hF]; unfold trnL; rw [hN])
  have HF := Lib.hid hF
  clear ht hr hf hF hob
  have hmk := fun (w : World) => run_mkR R (by omega) w
  obtain ⟨w1, e1, hq⟩ := FCQ.mk' w P M mv
  have HQ := Lib.hid hq; have HE1 := Lib.hid e1; clear hq e1
  go_enter Try.func19, Try.ntmps19
  go_upto_region 1 with fail
  rw [HE1.out]
  clear HE1
  have c0 := HQ.out.fb.c0; have c1 := HQ.out.fb.c1; have c2 := HQ.out.fb.c2
  go_wp2_with fail
  refine (hP w1 HQ.out.fb.bel).mono ?_
  rintro e w2 ⟨u2, rfl, hs2, hnw2, hb2⟩
  obtain ⟨PA, pc, rfl, _⟩ := id hs2
  have HS2 := Lib.hid hs2
  have HQ2 := Lib.hid (HQ.out.on hb2)
  clear hs2 hnw2 hb2 c0 c1 c2
  change Hid (SS w2 (.slice PA pts.length pc) pts) at HS2
  rw [hN] at HS2 ⊢
  clear hN
  go_upto_region 5 with fail
  clear hmk
  obtain ⟨w3, gv, e1, e2, hOM, hb3⟩ := mk_rowsM w2 R (by omega)
  rw [e1, e2]
  obtain ⟨w4, g8, e3, e4, h8, hb4⟩ := mk_box w3 56 [.int .i64 (N : Int), .slice (some ⟨gv, 0, none⟩) R R]
  have e5 : gv + 1 = g8 := by rw [← e4, ← e1, World.size_alloc, e2]
  rw [e3, e5]
  have hs3 := hb3.size
  have hgv : w2.heap.size = gv := e2
  have hg8 : w3.heap.size = g8 := e4
  have hgl := hOM.lt (g := gv) rfl
  have hgne : gv ≠ g8 := by omega
  rw [← stS_zero R F] at hOM
  have HO : Hid (OM w2.heap.size (fun g => g < w2.heap.size ∨ g = g8) w4 (.slice (some ⟨gv, 0, none⟩) R R) (stS R F 0)) := hid' ((hOM.names (Y := fun g => g < w2.heap.size ∨ g = g8) (fun g hl hy => hy.resolve_right (by omega))).below hb4)
  have H8 := Lib.hid h8
  have HB := Lib.hid (bl_trans hb3 hb4)
  clear e1 e2 e3 e4 e5 hOM hb3 h8 hb4
  have b1 : w4.cell? ⟨g8, 1, none⟩ = some (.slice (some ⟨gv, 0, none⟩) R R) := H8.out.cell 1
  go_wp2_with fail
  clear b1
  go_loopw [30] (fun i wr => ∃ j : Nat, j ≤ R ∧ i = .int .i64 (j : Int) ∧ Hid (OM w2.heap.size (fun g => g < w2.heap.size ∨ g = g8) wr (.slice (some ⟨gv, 0, none⟩) R R) (stS R F j)) ∧ Hid (Blk wr g8 56 [.int .i64 (N : Int), .slice (some ⟨gv, 0, none⟩) R R]) ∧ Hid (Below w2.heap.size w2 wr) ∧ w3.heap.size < wr.heap.size) (fun i _ => R - (intOf i).toNat)
  case atStart => exact ⟨0, Nat.zero_le _, rfl, HO, H8, HB, by have := H8.out.lt; omega⟩
  case round =>
    clear HO H8 HB
    obtain ⟨j, hj, rfl, HO, H8, HB, hsr⟩ := hrel
    by_cases hjR : j < R
    · obtain ⟨f, hf⟩ : ∃ f : Nat → Int, f = fun i => ent pts i j := ⟨_, rfl⟩
      have HFJ : Hid (F j = rowOf N f) := hid' (by rw [HF.out, hf])
      have Hf := Lib.hid hf; clear hf
      have HO0 : Hid (OM w2.heap.size (fun g => g < w2.heap.size ∨ g = g8) wr (.slice (some ⟨gv, 0, none⟩) R R) ((stS R F j).set j (rowOf 0 f))) := hid' (by rw [rowOf_none, stS_nil hjR]; exact HO.out)
      have HLS : Hid ((stS R F j).length = R) := hid' (stS_len _ _ _)
      have HST : Hid ((stS R F j).set j (rowOf N f) = stS R F (j + 1)) := hid' (by rw [← HFJ.out, stS_set hjR])
      clear HO
      go_wp2_with fail
      go_loopw [35] (fun i wr => ∃ k : Nat, k ≤ N ∧ i = .int .i64 (k : Int) ∧ Hid (OM w2.heap.size (fun g => g < w2.heap.size ∨ g = g8) wr (.slice (some ⟨gv, 0, none⟩) R R) ((stS R F j).set j (rowOf k f))) ∧ Hid (Blk wr g8 56 [.int .i64 (N : Int), .slice (some ⟨gv, 0, none⟩) R R]) ∧ Hid (Below w2.heap.size w2 wr) ∧ w3.heap.size < wr.heap.size) (fun i _ => N - (intOf i).toNat)
      case atStart => exact ⟨0, Nat.zero_le _, rfl, HO0, H8, HB, hsr⟩
      case round =>
        clear HO0 H8 HB hsr
        obtain ⟨k, hk, rfl, HO, H8, HB, hsr⟩ := hrel
        by_cases hkN : k < N
        · obtain ⟨ad, Ak, ck, row, rfl, hc2, HRo, HRE⟩ := HS2.out.eltA (k := k) (by rw [HNN.out]; exact hkN)
          have hrl : row.length = R := by rw [← HRE.out]; exact (HRW.out k (by rw [HNN.out]; exact hkN)).1
          obtain ⟨rd, y, rfl, hyc2, HYI, HY⟩ := HRo.out.elt (k := j) (by rw [hrl]; exact hjR)
          rw [hrl] at hc2
          have hyb := World.block_lt_of_cell? _ _ hyc2
          have hc := cell_below HB.out hc2; have hyc := cell_below HB.out hyc2
          clear hc2 hyc2
          have HSN : Hid (rowOf (k + 1) f = rowOf k f ++ [y]) := hid' (by rw [rowOf_snoc, Hf.out]; dsimp only; unfold ent; rw [HRE.out, HY.out])
          have hlj : ((stS R F j).set j (rowOf k f)).length = R := by rw [List.length_set, HLS.out]
          have hgd : ((stS R F j).set j (rowOf k f)).getD j [] = rowOf k f := by rw [getD_setL, if_pos ⟨rfl, by rw [HLS.out]; exact hjR⟩]
          obtain ⟨u0, u1, ho0, hne0⟩ := HO.out.row (k := j) (by rw [hlj]; exact hjR)
          rw [hgd] at ho0
          obtain ⟨UA, uc, rfl⟩ := ho0.form'
          rw [rowOf_len] at ho0 u1 hne0
          have HOI := Lib.hid ho0; have HNE := Lib.hid hne0
          have HLJ := Lib.hid hlj
          have g1 : wr.cell? ⟨g8, 1, none⟩ = some (.slice (some ⟨gv, 0, none⟩) R R) := H8.out.cell 1
          have G1 := Lib.hid g1; have U1 := Lib.hid u1; have YC := Lib.hid hyc
          clear hlj hgd ho0 hne0 hrl
          go_wp2_with fail
          refine Drawn.start (S := fun w' => w'.cell? ⟨g8, 1, none⟩ = some (.slice (some ⟨gv, 0, none⟩) R R) ∧ w'.cell? ⟨gv, j, none⟩ = some (.slice UA k uc) ∧ w'.cell? (rd.add j) = some (.int .i64 y)) (by kernel_rfl) (⟨g1, u1, hyc⟩) (fun hHeld => ?_)
          change Drawn _ _ _ _ 16 _ _ _
          refine Drawn.take (i := 0) (v := ?_) rfl (by kernel_rfl) (by kernel_rfl) (by kernel_rfl) (by kernel_rfl) (fun _ _ _ h => h) (Or.inl ⟨by kernel_rfl, ?_⟩) hHeld ?_
          rotate_left
          · intro w' hSw; (try dsimp only at hSw); first | (go_simp; done) | (go_simp; with_reducible rfl)
          try simp only [List.getElem_toArray, List.getElem_cons_zero, List.getElem_cons_succ, Act.put, List.setIfInBounds_toArray, List.set_cons_zero, List.set_cons_succ]
          refine Drawn.take (i := 1) (v := ?_) rfl (by kernel_rfl) (by kernel_rfl) (by kernel_rfl) (by kernel_rfl) (fun _ _ _ h => h) (Or.inl ⟨by kernel_rfl, ?_⟩) hHeld ?_
          rotate_left
          · intro w' hSw; (try dsimp only at hSw); first | (go_simp; done) | (go_simp; with_reducible rfl)
          try simp only [List.getElem_toArray, List.getElem_cons_zero, List.getElem_cons_succ, Act.put, List.setIfInBounds_toArray, List.set_cons_zero, List.set_cons_succ]
          refine Drawn.take (i := 2) (v := ?_) rfl (by kernel_rfl) (by kernel_rfl) (by kernel_rfl) (by kernel_rfl) (fun _ _ _ h => h) (Or.inl ⟨by kernel_rfl, ?_⟩) hHeld ?_
          rotate_left
          · intro w' hSw; (try dsimp only at hSw); first | (go_simp; done) | (go_simp; with_reducible rfl)
          try simp only [List.getElem_toArray, List.getElem_cons_zero, List.getElem_cons_succ, Act.put, List.setIfInBounds_toArray, List.set_cons_zero, List.set_cons_succ]
          refine Drawn.take (i := 3) (v := ?_) rfl (by kernel_rfl) (by kernel_rfl) (by kernel_rfl) (by kernel_rfl) (fun _ _ _ h => h) (Or.inl ⟨by kernel_rfl, ?_⟩) hHeld ?_
          rotate_left
          · intro w' hSw; (try dsimp only at hSw); first | (go_simp; done) | (go_simp; with_reducible rfl)
          try simp only [List.getElem_toArray, List.getElem_cons_zero, List.getElem_cons_succ, Act.put, List.setIfInBounds_toArray, List.set_cons_zero, List.set_cons_succ]
          refine Drawn.take (i := 4) (v := ?_) rfl (by kernel_rfl) (by kernel_rfl) (by kernel_rfl) (by kernel_rfl) (fun _ _ _ h => h) (Or.inl ⟨by kernel_rfl, ?_⟩) hHeld ?_
          rotate_left
          · intro w' hSw; (try dsimp only at hSw); first | (go_simp; done) | (go_simp; with_reducible rfl)
          try simp only [List.getElem_toArray, List.getElem_cons_zero, List.getElem_cons_succ, Act.put, List.setIfInBounds_toArray, List.set_cons_zero, List.set_cons_succ]
          refine Drawn.take (i := 5) (v := ?_) rfl (by kernel_rfl) (by kernel_rfl) (by kernel_rfl) (by kernel_rfl) (fun _ _ _ h => h) (Or.inl ⟨by kernel_rfl, ?_⟩) hHeld ?_
          rotate_left
          · intro w' hSw; (try dsimp only at hSw); first | (go_simp; done) | (go_simp; with_reducible rfl)
          try simp only [List.getElem_toArray, List.getElem_cons_zero, List.getElem_cons_succ, Act.put, List.setIfInBounds_toArray, List.set_cons_zero, List.set_cons_succ]
          refine Drawn.take (i := 6) (v := ?_) rfl (by kernel_rfl) (by kernel_rfl) (by kernel_rfl) (by kernel_rfl) (fun _ _ _ h => h) (Or.inl ⟨by kernel_rfl, ?_⟩) hHeld ?_
          rotate_left
          · intro w' hSw; (try dsimp only at hSw); first | (go_simp; done) | (go_simp; with_reducible rfl)
          try simp only [List.getElem_toArray, List.getElem_cons_zero, List.getElem_cons_succ, Act.put, List.setIfInBounds_toArray, List.set_cons_zero, List.set_cons_succ]
          refine Drawn.take (i := 7) (v := ?_) rfl (by kernel_rfl) (by kernel_rfl) (by kernel_rfl) (by kernel_rfl) (fun _ _ _ h => h) (Or.inl ⟨by kernel_rfl, ?_⟩) hHeld ?_
          rotate_left
          · intro w' hSw; (try dsimp only at hSw); first | (go_simp; done) | (go_simp; with_reducible rfl)
          try simp only [List.getElem_toArray, List.getElem_cons_zero, List.getElem_cons_succ, Act.put, List.setIfInBounds_toArray, List.set_cons_zero, List.set_cons_succ]
          refine Drawn.take (i := 8) (v := ?_) rfl (by kernel_rfl) (by kernel_rfl) (by kernel_rfl) (by kernel_rfl) (fun _ _ _ h => h) (Or.inl ⟨by kernel_rfl, ?_⟩) hHeld ?_
          rotate_left
          · intro w' hSw; (try dsimp only at hSw); first | (go_simp; done) | (go_simp; with_reducible rfl)
          try simp only [List.getElem_toArray, List.getElem_cons_zero, List.getElem_cons_succ, Act.put, List.setIfInBounds_toArray, List.set_cons_zero, List.set_cons_succ]
          refine Drawn.take (i := 9) (v := ?_) rfl (by kernel_rfl) (by kernel_rfl) (by kernel_rfl) (by kernel_rfl) (fun _ _ _ h => h) (Or.inl ⟨by kernel_rfl, ?_⟩) hHeld ?_
          rotate_left
          · intro w' hSw; (try dsimp only at hSw); first | (go_simp; done) | (go_simp; with_reducible rfl)
          try simp only [List.getElem_toArray, List.getElem_cons_zero, List.getElem_cons_succ, Act.put, List.setIfInBounds_toArray, List.set_cons_zero, List.set_cons_succ]
          refine Drawn.take (i := 10) (v := ?_) rfl (by kernel_rfl) (by kernel_rfl) (by kernel_rfl) (by kernel_rfl) (fun _ _ _ h => h) (Or.inl ⟨by kernel_rfl, ?_⟩) hHeld ?_
          rotate_left
          · intro w' hSw; (try dsimp only at hSw); first | (go_simp; done) | (go_simp; with_reducible rfl)
          try simp only [List.getElem_toArray, List.getElem_cons_zero, List.getElem_cons_succ, Act.put, List.setIfInBounds_toArray, List.set_cons_zero, List.set_cons_succ]
          refine Drawn.take (i := 11) (v := ?_) rfl (by kernel_rfl) (by kernel_rfl) (by kernel_rfl) (by kernel_rfl) (fun _ _ _ h => h) (Or.inl ⟨by kernel_rfl, ?_⟩) hHeld ?_
          rotate_left
          · intro w' hSw; (try dsimp only at hSw); first | (go_simp; done) | (go_simp; with_reducible rfl)
          try simp only [List.getElem_toArray, List.getElem_cons_zero, List.getElem_cons_succ, Act.put, List.setIfInBounds_toArray, List.set_cons_zero, List.set_cons_succ]
          refine Drawn.only (i := 12) (o := ?op2) (by kernel_rfl) ?ho2 (fun K hK => ?_)
          case ho2 => (conv => lhs; simp only [List.getElem?_toArray, List.getElem?_cons_succ, List.getElem?_cons_zero])
          go_simp; obtain ⟨w5, gE, e1, e2, hX, hb5⟩ := mk_boxD wr 3 [.int .i64 y]; rw [e1, e2]; have HX5 : Hid (RI w5 gE [y]) := hid' hX; have HB5 := Lib.hid hb5; have HGE : Hid (wr.heap.size = gE) := hid' e2; clear e1 e2 hX hb5; have v1 := cell_below HB5.out G1.out; have v2 := cell_below HB5.out U1.out; have v3 := cell_below HB5.out YC.out
          refine hK.out _ _ (fun _ => ⟨v1, v2, v3⟩) (fun hHeld2 => ?_)
          clear hK K
          replace hHeld := hHeld2 (by decide)
          clear hHeld2
          try simp only [List.getElem_toArray, List.getElem_cons_zero, List.getElem_cons_succ, Act.put, List.setIfInBounds_toArray, List.set_cons_zero, List.set_cons_succ]
          refine Drawn.only (i := 13) (o := ?op3) (by kernel_rfl) ?ho3 (fun K hK => ?_)
          case ho3 => (conv => lhs; simp only [List.getElem?_toArray, List.getElem?_cons_succ, List.getElem?_cons_zero])
          have HOI5 := Lib.hid (HOI.out.below HB5.out (Nat.le_refl _)); refine step_catI rfl _ _ rfl w2.heap.size _ (rowOf k f) rfl HOI5.out (.slice (some ⟨gE, 0, none⟩) 1 1) [y] rfl (HX5.out.si (by simp) (fun i => by rcases i with _ | i; exact HYI.out; exact I64.zero)) (by rw [rowOf_len, List.length_singleton]; omega) (by have h1 := HB5.out.size; have h2 := HB.out.size; omega) ?_; intro v' w6 ho6 hg6 hv6; rw [← HSN.out] at ho6; obtain ⟨A6, c6, rfl⟩ := ho6.form'; rw [rowOf_len] at ho6 hv6 ⊢; have HO6 := Lib.hid ho6; have HG6 := Lib.hid hg6; have HV6 := Lib.hid hv6; have HNB : Hid (∀ b, (Value.slice UA k uc).ownBlock = some b → w2.heap.size ≤ b ∧ b ≠ gv ∧ b ≠ g8) := hid' (fun b hb => ⟨(HOI.out.lt hb).1, (HNE.out b hb).1, fun e => (HNE.out b hb).2 (.inr e)⟩); have H86 := Lib.hid ((H8.out.belowS HB5.out).grown hg6 (fun e => (HNB.out _ e.symm).2.2 rfl)); have HB6 := Lib.hid ((bl_trans HB.out HB5.out).grown hg6 (bl_trans HB.out HB5.out).size (fun b hb => (HNB.out b hb).1)); have x1 : w6.cell? ⟨g8, 1, none⟩ = some (.slice (some ⟨gv, 0, none⟩) R R) := H86.out.cell 1; have hgl5 : gv < w5.heap.size := (by have h1 := HB5.out.size; omega); have hga6 := hg6.block gv hgl5 (fun e => (HNB.out _ e.symm).2.1 rfl); have x2 : w6.cell? ⟨gv, j, none⟩ = some (.slice UA k uc) := (World.cell?_of_block (w := w5) (a := ⟨gv, j, none⟩) hga6).trans v2; have xf : w6.frozen? ⟨gv, j, none⟩ = false := (World.frozen?_of_block (w := w5) (a := ⟨gv, j, none⟩) hga6).trans ((HO.out.below HB5.out).frozen j); have x3 : w6.cell? (rd.add j) = some (.int .i64 y) := (World.cell?_of_block (w := w5) (a := rd.add j) (hg6.block _ (by have h1 := HB5.out.size; have h2 := HB.out.size; omega) (fun e => by have h3 := (HNB.out _ e.symm).1; omega))).trans v3; clear ho6 hg6 hv6 hga6
          refine hK.out _ _ (fun _ => ⟨x1, x2, x3⟩) (fun hHeld2 => ?_)
          clear hK K
          replace hHeld := hHeld2 (by decide)
          clear hHeld2
          try simp only [List.getElem_toArray, List.getElem_cons_zero, List.getElem_cons_succ, Act.put, List.setIfInBounds_toArray, List.set_cons_zero, List.set_cons_succ]
          refine Drawn.take (i := 14) (v := ?_) rfl (by kernel_rfl) (by kernel_rfl) (by kernel_rfl) (by kernel_rfl) (fun _ _ _ h => h) (Or.inl ⟨by kernel_rfl, ?_⟩) hHeld ?_
          rotate_left
          · intro w' hSw; (try dsimp only at hSw); first | (go_simp; done) | (go_simp; with_reducible rfl)
          try simp only [List.getElem_toArray, List.getElem_cons_zero, List.getElem_cons_succ, Act.put, List.setIfInBounds_toArray, List.set_cons_zero, List.set_cons_succ]
          refine Drawn.only (i := 15) (by kernel_rfl) rfl (fun K hK => ?_)
          go_simp
          refine hK.out _ _ (fun h => absurd rfl h) (fun hHeld2 => ?_)
          clear hK K
          clear hHeld2
          refine Drawn.done (by kernel_rfl) ?_
          try simp only [List.getElem_toArray, List.getElem_cons_zero, List.getElem_cons_succ, Act.put, List.setIfInBounds_toArray, List.set_cons_zero, List.set_cons_succ]
          clear hHeld
          have HOA := Lib.hid ((HO.out.below HB5.out).app (fun g hg => by have h1 := HB5.out.size; rcases hg with hg | hg <;> omega) (i := j) (by rw [HLJ.out]; exact hjR) v2 HG6.out HO6.out HV6.out)
          rw [List.set_set] at HOA
          have hgz := gr_set1 w6 gv j (.slice A6 (k + 1) c6)
          have H87 := Lib.hid (H86.out.grown hgz (by intro e; have := Option.some.inj e; omega))
          have HB7 := Lib.hid (HB6.out.setCell (p := ⟨gv, j, none⟩) (show w2.heap.size ≤ gv by omega) (.slice A6 (k + 1) c6))
          have hs7 : w3.heap.size < (w6.setCell ⟨gv, j, none⟩ (.slice A6 (k + 1) c6)).heap.size := by have h1 := HB5.out.size; have h2 := HG6.out.size; have h3 := hgz.size; omega
          clear hgz
          go_wp2_with fail
          exact ⟨⟨k + 1, by omega, by push_cast; rfl, HOA, H87, HB7, hs7⟩, by simp only [intOf]; omega⟩
        · obtain rfl : N = k := by omega
          rw [HST.out] at HO
          go_wp2_with fail
          exact ⟨⟨j + 1, by omega, by push_cast; rfl, HO, H8, HB, hsr⟩, by simp only [intOf]; omega⟩
    · obtain rfl : R = j := by omega
      rw [HTF.out] at HO
      have hos := HO.out.os (fun p hp => by
        rw [trnL_len] at hp
        rw [trnL_row pts hp]
        exact ⟨by rw [rowOf_len, HNN.out]; omega, rowOf_i64 fun i _ => HE.out i p⟩)
      have HSS := Lib.hid (hos.ss (by rw [trnL_len]; omega))
      clear hos
      have HQ5 := Lib.hid (HQ2.out.on HB.out)
      have c0 := HQ5.out.fb.c0; have c1 := HQ5.out.fb.c1; have c2 := HQ5.out.fb.c2
      have b0 : wr.cell? ⟨g8, 0, none⟩ = some (.int .i64 (N : Int)) := H8.out.cell 0
      have b1 : wr.cell? ⟨g8, 1, none⟩ = some (.slice (some ⟨gv, 0, none⟩) R R) := H8.out.cell 1
      go_wp2_with fail
      refine (HNEW.out wr _ HQ5.out.fb.bel HSS.out).mono ?_
      rintro e w5 ⟨u5, g5, rfl, hx5, hb5⟩
      obtain ⟨⟨MA, mc, rfl, _⟩, ⟨DA, dc, rfl, _⟩⟩ := hx5.out
      have HX5 : Hid (Sep wr.heap.size w5 fun w9 => SI w9 (.slice MA Mod.length mc) Mod ∧ SS w9 (.slice DA C.length dc) C) := hid' hx5
      have HQ6 := Lib.hid (HQ5.out.on hb5)
      clear hx5 hb5 c0 c1 c2 b0 b1
      generalize C.length = dl at *
      generalize Mod.length = ml at *
      obtain ⟨d0, d1, d2, d3, d4, f0, f1, f2, f3, f4⟩ := HQ6.out.q.five
      go_wp2_with fail
      obtain ⟨w9, h9, HL⟩ := lay5 (x := .int .i64 P) (y := .int .i64 M) (z := .slice MA ml mc) (u := .int .i64 (N : Int)) (v := .slice DA dl dc) HQ6.out.q
      rw [h9]
      have q0 := HL.c0; have q1 := HL.c1; have q2 := HL.c2; have q3 := HL.c3; have q4 := HL.c4
      have hql := HQ5.out.q.lt
      refine bodyPost_ret (v := .tuple #[.agg #[.int .i64 P, .int .i64 M, .slice MA ml mc, .int .i64 (N : Int), .slice DA dl dc], .int .i64 0]) (by simp [results, Try.results19, go_sem, q0, q1, q2, q3, q4]) rfl ?_
      exact ⟨_, _, rfl, (HX5.out.grown HL.gr (by rintro b e; cases e; omega)).mono HQ5.out.fb.bel.size, HL.below HQ6.out.fb.bel HQ6.out.fb.bel.size (by omega)⟩
end Go.Proofs.Ytdbpbmehcifjpaa

/- The points of projective space as numbers and their words. No program in sight. -/
namespace Go.Proofs.Ytdbpbmehcifjpaa

/-- the digits of n, the highest of r first -/
def wordN (q r n : Nat) : List Int := rowOf r fun j => ((n / q ^ (r - 1 - j) % q : Nat) : Int)
theorem wordN_len (q r n : Nat) : (wordN q r n).length = r := rowOf_len _ _
theorem wordN_getD {q r n c : Nat} (hc : c < r) : (wordN q r n).getD (r - 1 - c) 0 = ((n / q ^ c % q : Nat) : Int) := by
  unfold wordN
  rw [rowOf_getD (by omega), show r - 1 - (r - 1 - c) = c by omega]
theorem rowOf_set {N k : Nat} {f : Nat → Int} {x : Int} : (rowOf N f).set k x = rowOf N fun i => if i = k then x else f i := by
  apply List.ext_getElem?
  intro i
  by_cases hi : i < N
  · by_cases e : k = i
    · subst e; simp [rowOf, hi]
    · have e' : ¬ i = k := fun h => e h.symm
      simp [rowOf, List.getElem?_set, e, e', hi]
  · simp [rowOf, List.getElem?_set, hi]
theorem wordN_set {q r n n' c d : Nat} (hc : c < r) (hd : n' / q ^ c % q = d) (h : ∀ e, e ≠ c → e < r → n' / q ^ e % q = n / q ^ e % q) : (wordN q r n).set (r - 1 - c) (d : Int) = wordN q r n' := by
  unfold wordN
  rw [rowOf_set]
  refine rowOf_congr fun j hj => ?_
  by_cases e : j = r - 1 - c
  · rw [if_pos e, e, show r - 1 - (r - 1 - c) = c by omega, hd]
  · rw [if_neg e, h (r - 1 - j) (by omega) (by omega)]
theorem dig_mul {q : Nat} (hq : 2 ≤ q) (a c e : Nat) : a * q ^ c / q ^ e % q = if e < c then 0 else a / q ^ (e - c) % q := by
  have hp : ∀ k, 0 < q ^ k := fun k => Nat.pow_pos (by omega)
  by_cases h : e < c
  · rw [if_pos h]
    obtain ⟨d, rfl⟩ : ∃ d, c = e + (d + 1) := ⟨c - e - 1, by omega⟩
    rw [Nat.pow_add, show a * (q ^ e * q ^ (d + 1)) = q ^ e * (a * q ^ (d + 1)) by rw [Nat.mul_left_comm], Nat.mul_div_cancel_left _ (hp e), Nat.pow_succ, ← Nat.mul_assoc, Nat.mul_mod_left]
  · rw [if_neg h]
    obtain ⟨d, rfl⟩ : ∃ d, e = c + d := ⟨e - c, by omega⟩
    rw [Nat.pow_add, ← Nat.div_div_eq_div_mul, Nat.mul_div_cancel _ (hp c), show c + d - c = d by omega]
/-- the carry: a digit q-1 becomes 0 -/
theorem word_carry {q r a c : Nat} (hq : 2 ≤ q) (hc : c < r) : (wordN q r (a * q ^ c)).set (r - 1 - c) 0 = wordN q r (a / q * q ^ (c + 1)) :=
  wordN_set (d := 0) hc (by rw [dig_mul hq, if_pos (by omega)]) fun e he _ => by
    rw [dig_mul hq, dig_mul hq]
    by_cases h : e < c
    · rw [if_pos h, if_pos (by omega)]
    · rw [if_neg h, if_neg (by omega), Nat.div_div_eq_div_mul, ← Nat.pow_succ', show (e - (c + 1)).succ = e - c by omega]
/-- the digit at which the carry ends -/
theorem word_up {q r a c : Nat} (hq : 2 ≤ q) (hc : c < r) (h : a % q + 1 < q) : (wordN q r (a * q ^ c)).set (r - 1 - c) ((a % q + 1 : Nat) : Int) = wordN q r ((a + 1) * q ^ c) :=
  have h1 : (a + 1) % q = a % q + 1 := by rw [Nat.add_mod, Nat.mod_eq_of_lt (show 1 < q by omega), Nat.mod_eq_of_lt h]
  have h2 : (a + 1) / q = a / q := by
    have e1 := Nat.div_add_mod a q
    have e2 := Nat.div_add_mod (a + 1) q
    rw [h1] at e2
    have : q * ((a + 1) / q) = q * (a / q) := by omega
    exact Nat.eq_of_mul_eq_mul_left (by omega) this
  wordN_set hc (by rw [dig_mul hq, if_neg (by omega), Nat.sub_self, Nat.pow_zero, Nat.div_one, h1]) fun e he _ => by
    rw [dig_mul hq, dig_mul hq]
    by_cases h : e < c
    · rw [if_pos h, if_pos h]
    · rw [if_neg h, if_neg h]
      obtain ⟨d, hd⟩ : ∃ d, e - c = d + 1 := ⟨e - c - 1, by omega⟩
      rw [hd, Nat.pow_succ', ← Nat.div_div_eq_div_mul, ← Nat.div_div_eq_div_mul, h2]
theorem word_dig {q r a c : Nat} (hq : 2 ≤ q) (hc : c < r) : (wordN q r (a * q ^ c)).getD (r - 1 - c) 0 = ((a % q : Nat) : Int) := by
  rw [wordN_getD hc, dig_mul hq, if_neg (by omega), Nat.sub_self, Nat.pow_zero, Nat.div_one]
/-- the word with a single 1 -/
theorem word_lead {q r s : Nat} (hq : 2 ≤ q) (hs : s < r) : (List.replicate r (0 : Int)).set (r - 1 - s) 1 = wordN q r (q ^ s) := by
  have e : List.replicate r (0 : Int) = wordN q r 0 := by
    unfold wordN
    rw [← rowOf_zero]
    exact rowOf_congr fun p _ => by simp
  rw [e]
  have := @wordN_set q r 0 (1 * q ^ s) s 1 hs (by rw [dig_mul hq, if_neg (by omega), Nat.sub_self, Nat.pow_zero, Nat.div_one, Nat.mod_eq_of_lt (by omega)]) fun e he _ => by
    rw [dig_mul hq, Nat.zero_div, Nat.zero_mod]
    by_cases h : e < s
    · rw [if_pos h]
    · rw [if_neg h, Nat.div_eq_of_lt (Nat.one_lt_pow (by omega) (by omega)), Nat.zero_mod]
  rw [Nat.one_mul] at this
  exact this

/-- the numbers whose highest digit is 1 -/
def ptsN (q : Nat) : Nat → List Nat
  | 0 => []
  | s + 1 => ptsN q s ++ (List.range (q ^ s)).map fun t => q ^ s + t
/-- 1 + q + .. + q^(k-1) -/
def geoN (q : Nat) : Nat → Nat
  | 0 => 0
  | k + 1 => geoN q k + q ^ k
theorem ptsN_len (q : Nat) : ∀ s, (ptsN q s).length = geoN q s
  | 0 => rfl
  | s + 1 => by rw [ptsN, List.length_append, List.length_map, List.length_range, ptsN_len q s, geoN]
theorem geoN_mono {q : Nat} {a b : Nat} (h : a ≤ b) : geoN q a ≤ geoN q b := by
  induction b with
  | zero => rw [show a = 0 by omega]; exact Nat.le_refl _
  | succ b ih =>
    by_cases e : a = b + 1
    · rw [e]; exact Nat.le_refl _
    · have := ih (by omega)
      rw [geoN]; omega
theorem geoN_ge {q : Nat} (hq : 2 ≤ q) : ∀ k, k ≤ geoN q k
  | 0 => Nat.le_refl _
  | k + 1 => by
    have := geoN_ge hq k
    have := Nat.pow_pos (n := k) (show 0 < q by omega)
    rw [geoN]; omega
/-- the highest digit other than 0 of the c lowest ones -/
def topD (q n : Nat) : Nat → Nat
  | 0 => 0
  | c + 1 => if n / q ^ c % q ≠ 0 then n / q ^ c % q else topD q n c
theorem topD_eq {q n s : Nat} (hq : 2 ≤ q) (h1 : q ^ s ≤ n) (h2 : n < q ^ (s + 1)) : ∀ c, s + 1 ≤ c → topD q n c = n / q ^ s
  | 0, h => by omega
  | c + 1, h => by
    have hp : ∀ k, 0 < q ^ k := fun k => Nat.pow_pos (by omega)
    rw [topD]
    by_cases e : c = s
    · subst e
      have hlt : n / q ^ c < q := by rw [Nat.div_lt_iff_lt_mul (hp c), ← Nat.pow_succ']; exact h2
      have hge : 1 ≤ n / q ^ c := (Nat.le_div_iff_mul_le (hp c)).2 (by omega)
      rw [Nat.mod_eq_of_lt hlt, if_pos (by omega)]
    · have h3 : n < q ^ c := Nat.lt_of_lt_of_le h2 (Nat.pow_le_pow_right (by omega) (by omega))
      rw [Nat.div_eq_of_lt h3, Nat.zero_mod, if_neg (by omega)]
      exact topD_eq hq h1 h2 c (by omega)
theorem topD_zero (q : Nat) : ∀ c, topD q 0 c = 0
  | 0 => rfl
  | c + 1 => by rw [topD, Nat.zero_div, Nat.zero_mod, if_neg (by omega), topD_zero q c]
theorem filter_lt {m : Nat} : ∀ N, m ≤ N → (List.range N).filter (fun t => decide (t < m)) = List.range m
  | 0, h => by rw [show m = 0 by omega]; rfl
  | N + 1, h => by
    by_cases e : m = N + 1
    · subst e
      exact List.filter_eq_self.2 fun a ha => by simpa using ha
    · rw [List.range_succ, List.filter_append, filter_lt N (by omega)]
      simp; omega
theorem range_add (a b : Nat) : List.range (a + b) = List.range a ++ (List.range b).map (a + ·) := List.range_add
/-- the reference's sieve -/
theorem filter_pts {q r : Nat} (hq : 2 ≤ q) : ∀ s, s ≤ r → (List.range (q ^ s)).filter (fun n => topD q n r == 1) = ptsN q s
  | 0, _ => by
    rw [Nat.pow_zero]
    show [0].filter _ = _
    simp [topD_zero, ptsN]
  | s + 1, h => by
    have hp : 0 < q ^ s := Nat.pow_pos (by omega)
    have e1 : q ^ (s + 1) = q ^ s + (q ^ s * (q - 1)) := by
      rw [Nat.pow_succ, Nat.mul_sub, Nat.mul_one]
      have : q ^ s * 1 ≤ q ^ s * q := Nat.mul_le_mul_left _ (by omega)
      omega
    have hle : q ^ s ≤ q ^ s * (q - 1) := by
      have : q ^ s * 1 ≤ q ^ s * (q - 1) := Nat.mul_le_mul_left _ (by omega)
      omega
    rw [e1, range_add, List.filter_append, filter_pts hq s (by omega), ptsN, List.filter_map]
    congr 2
    rw [← filter_lt (q ^ s * (q - 1)) hle]
    refine List.filter_congr fun t ht => ?_
    rw [List.mem_range] at ht
    show (topD q (q ^ s + t) r == 1) = _
    rw [topD_eq hq (s := s) (by omega) (by omega) r (by omega)]
    have : (q ^ s + t) / q ^ s = 1 + t / q ^ s := by rw [Nat.add_div_left _ hp, Nat.add_comm]
    rw [this, Bool.eq_iff_iff, beq_iff_eq, decide_eq_true_iff]
    constructor
    · intro h1
      have h0 : t / q ^ s = 0 := by omega
      rcases Nat.div_eq_zero_iff.1 h0 with h | h
      · omega
      · exact h
    · intro h1; rw [Nat.div_eq_of_lt h1]
/-- one number more -/
theorem filter_succ {f : Nat → Bool} (k : Nat) : (List.range (k + 1)).filter f = if f k then (List.range k).filter f ++ [k] else (List.range k).filter f := by
  rw [List.range_succ, List.filter_append]
  by_cases h : f k = true <;> simp [h]
/-- the list of the points -/
def ptsL (q r : Nat) : List (List Int) := (ptsN q r).map (wordN q r)
/-- the numbers modulo powers: the carry's condition -/
theorem carry_mod {q n c : Nat} (hq : 2 ≤ q) (h : n % q ^ c = q ^ c - 1) (hd : n / q ^ c % q = q - 1) : n % q ^ (c + 1) = q ^ (c + 1) - 1 := by
  have hp : 0 < q ^ c := Nat.pow_pos (by omega)
  rw [Nat.pow_succ, Nat.mod_mul, h, hd, Nat.mul_sub, Nat.mul_one]
  have : q ^ c * 1 ≤ q ^ c * q := Nat.mul_le_mul_left _ (by omega)
  omega
theorem carry_up {q n c : Nat} (hq : 2 ≤ q) (h : n % q ^ c = q ^ c - 1) : (n / q ^ c + 1) * q ^ c = n + 1 := by
  have hp : 0 < q ^ c := Nat.pow_pos (by omega)
  have e := Nat.div_add_mod n (q ^ c)
  rw [h, Nat.mul_comm] at e
  rw [Nat.add_mul, Nat.one_mul]; omega
/-- where the carry ends below the lead, there is a next number -/
theorem step_more {q s c t : Nat} (hq : 2 ≤ q) (hc : c < s) (ht : t < q ^ s) (hx : (q ^ s + t) / q ^ c % q + 1 < q) (h : (q ^ s + t) % q ^ c = q ^ c - 1) : t + 1 < q ^ s := by
  have hp : ∀ k, 0 < q ^ k := fun k => Nat.pow_pos (by omega)
  refine Nat.lt_of_le_of_ne ht fun e => ?_
  have h1 := carry_up hq h
  obtain ⟨d, rfl⟩ : ∃ d, s = c + (d + 1) := ⟨s - c - 1, by omega⟩
  have h2 : q ^ (c + (d + 1)) + t + 1 = (2 * q ^ d * q) * q ^ c := by
    rw [show q ^ (c + (d + 1)) + t + 1 = 2 * q ^ (c + (d + 1)) by omega, Nat.pow_add, Nat.pow_succ]
    rw [Nat.mul_assoc 2, Nat.mul_assoc 2, Nat.mul_comm (q ^ c)]
  rw [h2] at h1
  have h3 := Nat.eq_of_mul_eq_mul_right (hp c) h1
  have h4 : ((q ^ (c + (d + 1)) + t) / q ^ c + 1) % q = 0 := by rw [h3, Nat.mul_mod_left]
  rw [Nat.add_mod, Nat.mod_eq_of_lt (show 1 < q by omega), Nat.mod_eq_of_lt hx] at h4
  omega
theorem last_one {q s t : Nat} (ht : t < q ^ s) (h : (q ^ s + t) % q ^ s = q ^ s - 1) : t + 1 = q ^ s := by
  rw [Nat.add_mod_left, Nat.mod_eq_of_lt ht] at h; omega
end Go.Proofs.Ytdbpbmehcifjpaa

/- Plain: the rows of the matrix with the points as columns are independent. -/
namespace Go.Proofs.Ytdbpbmehcifjpaa
set_option linter.unusedVariables false

theorem canon_dim {O : FOps} {q : Int} (hO : O.Fld q) {n : Nat} {rows : List (List Int)} (hR : Rows q n rows) (hI : Indep O q (ent rows) rows.length) : (canonL O rows n).length = rows.length := by
  have hc := canon_rref hO hR
  have h1 := indep_span hO hI (B := canonL O rows n) (fun i hi => hc.2.2 i hi)
  have h2 := (elimTo_piv O rows n).1
  have h3 : (pivL O rows n).length = (canonL O rows n).length := hc.1.len
  have h4 : (pivL O rows n).length ≤ rows.length := h2
  omega
theorem pts_at {q : Nat} : ∀ {r s : Nat}, s < r → (ptsN q r).getD (geoN q s) 0 = q ^ s ∧ geoN q s < geoN q r ∨ ¬ 0 < q
  | r + 1, s, hs => by
    by_cases hq : 0 < q
    · left
      have hpos := Nat.pow_pos (n := r) hq
      by_cases e : s < r
      · rcases pts_at (q := q) e with ⟨h1, h2⟩ | h
        · refine ⟨?_, by rw [geoN]; omega⟩
          rw [ptsN, List.getD_eq_getElem?_getD, List.getElem?_append_left (by rw [ptsN_len]; exact h2), ← List.getD_eq_getElem?_getD]
          exact h1
        · exact absurd hq h
      · obtain rfl : s = r := by omega
        refine ⟨?_, by rw [geoN]; omega⟩
        rw [ptsN, List.getD_eq_getElem?_getD, List.getElem?_append_right (by rw [ptsN_len]; exact Nat.le_refl _), ptsN_len, Nat.sub_self]
        simp [hpos]
    · exact .inr hq
theorem ptsL_len (q r : Nat) : (ptsL q r).length = geoN q r := by unfold ptsL; rw [List.length_map, ptsN_len]
theorem ptsL_getD {q r j : Nat} (hj : j < geoN q r) : (ptsL q r).getD j [] = wordN q r ((ptsN q r).getD j 0) := by
  have h : j < (ptsN q r).length := by rw [ptsN_len]; exact hj
  simp [ptsL, List.getD, h]
theorem ptsL_rows {q r : Nat} (hq : 0 < q) : Rows (q : Int) r (ptsL q r) := fun k hk => by
  rw [ptsL_len] at hk
  rw [ptsL_getD hk]
  refine ⟨wordN_len _ _ _, fun i => ?_⟩
  by_cases hi : i < r
  · unfold wordN
    rw [rowOf_getD hi]
    have := Nat.mod_lt ((ptsN q r).getD k 0 / q ^ (r - 1 - i)) hq
    omega
  · rw [getD_len (by rw [wordN_len]; omega)]; omega
theorem smp_indep {O : FOps} {q r : Nat} (hO : O.Fld (q : Int)) (hq : 2 ≤ q) : Indep O (q : Int) (ent (trnL (ptsL q r) r)) (trnL (ptsL q r) r).length := by
  rw [trnL_len]
  have key : ∀ i k, i < r → k < r → ent (trnL (ptsL q r) r) i (geoN q (r - 1 - k)) = if i = k then 1 else 0 := fun i k hi hk => by
    rcases pts_at (q := q) (show r - 1 - k < r by omega) with ⟨h1, h2⟩ | h
    · rw [ent_turn _ hi (by rw [ptsL_len]; exact h2)]
      unfold ent
      rw [ptsL_getD h2, h1, ← word_lead hq (by omega), show r - 1 - (r - 1 - k) = k by omega]
      by_cases e : i = k
      · subst e; simp [List.getD, hi]
      · rw [if_neg e]; simp [List.getD, List.getElem?_set, Ne.symm e, List.getElem?_replicate, hi]
    · omega
  refine indep_tri hO (fun k => geoN q (r - 1 - k)) (fun k hk => by rw [key k k hk hk, if_pos rfl]) (fun k i hki hi => by rw [key i k hi (by omega), if_neg (by omega)])
theorem smp_dim {O : FOps} {q r : Nat} (hO : O.Fld (q : Int)) (hq : 2 ≤ q) : (canonL O (trnL (ptsL q r) r) (geoN q r)).length = r := by
  have hR : Rows (q : Int) (geoN q r) (trnL (ptsL q r) r) := by
    have := turn_rows (show (0 : Int) < q by omega) (ptsL_rows (q := q) (r := r) (by omega)) r
    rwa [ptsL_len] at this
  rw [canon_dim hO hR (smp_indep hO hq), trnL_len]
end Go.Proofs.Ytdbpbmehcifjpaa

/- (*GF).Order; classic.Points. -/
namespace Go.Proofs.Ytdbpbmehcifjpaa
open Go.RowKit
set_option linter.unusedVariables false
set_option maxRecDepth 100000

set_option maxHeartbeats 4000000 in
theorem gorder_any (w : World) (a : Nat) (P M : Int) (Mod : List Int) (h : GF w a P M Mod) : Calls Try.prog 77 #[.pointer (some ⟨a, 0, none⟩)] w (fun e w' => e = .returned (.int .i64 (orderF P M)) ∧ w = w') := by
  obtain ⟨q, mv, ge, ce, gl, cl, E, L, h⟩ := h
  have c3 := h.c3
  rw [h.ord]
  clear h
  go_enter Try.func77, Try.ntmps77
  go_wp2_with fail
  go_ret
  exact ⟨rfl, rfl⟩

theorem run_mkS0 (n : Nat) (h : n ≤ 1000000) (w : World) : (Instr.makeSlice 25 (.int .i64 0) (.int .i64 (n : Int))).run Try.prog w =
    .ok (.slice (some ⟨w.heap.size, 0, none⟩) 0 n) (w.alloc (.cells (madeCells #[.slice none 0 0] n) 22)) := by
  obtain ⟨i0, hi, hz0, hz1, hz2⟩ := info_parts Try.infoInts
  have := run_make (P := Try.prog) w 25 22 i0 (.slice none 0 0) Try.underlying25 hi hz0 .i64 .i64 0 n (Int.le_refl _) (by omega) (by rw [hz2]; omega) (by omega)
  simp only [Int.toNat_natCast, Int.toNat_zero, hz1, Nat.mul_one] at this
  exact this
theorem OS.made0 {B : Nat} {X : Nat → Prop} (w : World) (n : Nat) (hB : B ≤ w.heap.size) (h : n ≤ 1000000) : OS B X (w.alloc (.cells (madeCells #[.slice none 0 0] n) 22)) (.slice (some ⟨w.heap.size, 0, none⟩) 0 n) [] :=
  ⟨[], World.ownsRow_made w _ n hB (by unfold maxLen; omega) (by simp [size_madeCells]), fun i hi => absurd hi (by simp)⟩

/-- the length is out of bounds -/
def PtsBad (q : Nat) (r : Int) : Prop := ∃ k : Nat, (k : Int) ≤ r ∧ 64 < geoN q k
theorem geo_pow {q : Nat} (hq : 2 ≤ q) (hq2 : q ≤ 256) {k : Nat} (h : geoN q k ≤ 64) : q ^ k ≤ 16384 ∧ k ≤ 64 := by
  refine ⟨?_, Nat.le_trans (geoN_ge hq k) h⟩
  cases k with
  | zero => simp
  | succ k =>
    rw [geoN] at h
    rw [Nat.pow_succ]
    have : q ^ k * q ≤ 64 * 256 := Nat.mul_le_mul (by omega) hq2
    omega

set_option maxHeartbeats 8000000 in
theorem points_no (w : World) (P M r : Int) (mv : Value) (Mod : List Int) (h : SI w mv Mod) (hf : ¬ FieldP P M Mod) :
    Calls Try.prog 46 #[.agg #[.int .i64 P, .int .i64 M, mv], .int .i64 r] w (RetSE w [] 1) := by
  have HM := Lib.hid h; clear h
  have HF := Lib.hid (FBox.mk' w P M mv)
  go_enter Try.func46, Try.ntmps46
  go_wp2_with fail
  generalize hw0 : w.alloc (.cells #[.int .i64 P, .int .i64 M, mv] 24) = w0 at *
  have c0 := HF.out.c0; have c1 := HF.out.c1; have c2 := HF.out.c2
  go_wp2_with fail
  refine (new_no _ P M mv Mod (HM.out.below HF.out.bel (Nat.le_refl _)) hf).mono ?_
  rintro e w1 ⟨rfl, hb1⟩
  have HB1 := Lib.hid (bl_trans HF.out.bel hb1); clear hb1
  go_wp2_with fail
  go_ret2
  exact RetSE.nil w 1 HB1.out
set_option maxHeartbeats 8000000 in
theorem points_rng (w : World) (P M r : Int) (mv : Value) (Mod : List Int) (h : SI w mv Mod) (hf : FieldP P M Mod) (hr : r < 1) :
    Calls Try.prog 46 #[.agg #[.int .i64 P, .int .i64 M, mv], .int .i64 r] w (RetSE w [] 6) := by
  have HM := Lib.hid h; clear h
  have HF := Lib.hid (FBox.mk' w P M mv)
  go_enter Try.func46, Try.ntmps46
  go_wp2_with fail
  generalize hw0 : w.alloc (.cells #[.int .i64 P, .int .i64 M, mv] 24) = w0 at *
  have c0 := HF.out.c0; have c1 := HF.out.c1; have c2 := HF.out.c2
  go_wp2_with fail
  refine (new_ok _ P M mv Mod (HM.out.below HF.out.bel (Nat.le_refl _)) hf).mono ?_
  rintro e w1 ⟨a, rfl, _, hb1⟩
  have HB1 := Lib.hid (bl_trans HF.out.bel hb1); clear hb1
  go_wp2_with fail
  go_ret2
  exact RetSE.nil w 6 HB1.out
set_option maxHeartbeats 8000000 in
theorem points_len (w : World) (P M r : Int) (mv : Value) (Mod : List Int) (q : Nat) (h : SI w mv Mod) (hf : FieldP P M Mod) (hr : 1 ≤ r) (hr2 : I64 r) (hq : orderF P M = (q : Int)) (hbad : PtsBad q r) :
    Calls Try.prog 46 #[.agg #[.int .i64 P, .int .i64 M, mv], .int .i64 r] w (RetSE w [] 4) := by
  have HM := Lib.hid h; clear h
  have HF := Lib.hid (FBox.mk' w P M mv)
  have HQ := Lib.hid hq
  have hq2 := one_lt_order hf.1
  have hqb := orderF_bounds P M
  have hq3 : 2 ≤ q := by omega
  have hq4 : q ≤ 256 := by omega
  obtain ⟨hr20, hr21⟩ := hr2
  have HBAD := Lib.hid hbad
  clear hq hbad hq2 hqb hr20
  go_enter Try.func46, Try.ntmps46
  go_wp2_with fail
  generalize hw0 : w.alloc (.cells #[.int .i64 P, .int .i64 M, mv] 24) = w0 at *
  have c0 := HF.out.c0; have c1 := HF.out.c1; have c2 := HF.out.c2
  go_wp2_with fail
  refine (new_ok _ P M mv Mod (HM.out.below HF.out.bel (Nat.le_refl _)) hf).mono ?_
  rintro e w1 ⟨a, rfl, hg1, hb1⟩
  have HG1 := Lib.hid hg1.out
  have HB1 := Lib.hid (bl_trans HF.out.bel hb1); clear hb1 hg1
  go_wp2_with fail
  refine (gorder_any _ a P M Mod HG1.out).mono ?_
  rintro e w2 ⟨rfl, rfl⟩
  rw [HQ.out]
  go_wp2_with fail
  go_loop [9, 10, 28] (fun n p i => ∃ k : Nat, (k : Int) ≤ r ∧ n = .int .i64 (geoN q k : Nat) ∧ p = .int .i64 (q ^ k : Nat) ∧ i = .int .i64 (k : Int) ∧ geoN q k ≤ 64) (fun _ _ i => 65 - (intOf i).toNat)
  case atStart => exact ⟨0, by omega, rfl, by simp, rfl, by simp [geoN]⟩
  case round =>
    obtain ⟨k, hk, rfl, rfl, rfl, hg⟩ := hrel
    have hp := geo_pow hq3 hq4 hg
    have HP1 : Hid (geoN q (k + 1) = geoN q k + q ^ k) := rfl
    have HP2 : Hid (q ^ (k + 1) = q ^ k * q) := Nat.pow_succ q k
    by_cases hlt : (k : Int) < r
    · have hge : 0 ≤ q ^ k * q := Nat.zero_le _
      have hle : q ^ k * q ≤ 16384 * 256 := Nat.mul_le_mul hp.1 hq4
      generalize hpk : q ^ k = pk at *
      have HPK := Lib.hid hpk; clear hpk
      generalize hgk : geoN q k = gk at *
      have HGK := Lib.hid hgk; clear hgk
      obtain ⟨hp1, hp2⟩ := hp
      by_cases hbig : 64 < gk + pk
      · have hbig2 : (64 : Int) < (gk : Int) + (pk : Int) := by omega
        go_wp2_with fail
        go_ret2
        exact RetSE.nil w 4 HB1.out
      · have hbig2 : ¬ (64 : Int) < (gk : Int) + (pk : Int) := by omega
        have hm0 : 0 ≤ (pk : Int) * (q : Int) := by rw [← Int.natCast_mul]; omega
        have hm1 : (pk : Int) * (q : Int) ≤ 16384 * 256 := by rw [← Int.natCast_mul]; omega
        go_wp2_with fail
        go_round
        case rel => exact ⟨k + 1, by omega, by rw [HP1.out]; push_cast; rfl, by rw [HP2.out]; push_cast; rfl, by push_cast; rfl, by rw [HP1.out]; omega⟩
        case measure => simp [intOf]; omega
    · exfalso
      obtain ⟨j, hj1, hj2⟩ := HBAD.out
      have := geoN_mono (q := q) (show j ≤ k by omega)
      omega

theorem ptsL_take {q r s : Nat} : (ptsN q (s + 1)).map (wordN q r) = (ptsN q s).map (wordN q r) ++ ((List.range (q ^ s)).map fun t => q ^ s + t).map (wordN q r) := by rw [ptsN, List.map_append]
theorem inner_succ {q r s t : Nat} : (ptsN q s).map (wordN q r) ++ ((List.range (t + 1)).map fun t => q ^ s + t).map (wordN q r) = ((ptsN q s).map (wordN q r) ++ ((List.range t).map fun t => q ^ s + t).map (wordN q r)) ++ [wordN q r (q ^ s + t)] := by
  rw [List.range_succ, List.map_append, List.map_append, List.append_assoc]; rfl
theorem wordN_rng {q r n : Nat} (hq : 0 < q) (k : Nat) : 0 ≤ (wordN q r n).getD k 0 ∧ (wordN q r n).getD k 0 < (q : Int) := by
  by_cases h : k < r
  · unfold wordN
    rw [rowOf_getD h]
    have := Nat.mod_lt (n / q ^ (r - 1 - k)) hq
    omega
  · rw [getD_len (by rw [wordN_len]; omega)]; omega

set_option maxHeartbeats 32000000 in
theorem points_ok (w : World) (P M r : Int) (mv : Value) (Mod : List Int) (q : Nat) (h : SI w mv Mod) (hf : FieldP P M Mod) (hr : 1 ≤ r) (hq : orderF P M = (q : Int)) (hbad : ¬ PtsBad q r) :
    Calls Try.prog 46 #[.agg #[.int .i64 P, .int .i64 M, mv], .int .i64 r] w (RetSE w (ptsL q r.toNat) 0) := by
  have HM := Lib.hid h; clear h
  have HF := Lib.hid (FBox.mk' w P M mv)
  have HQ := Lib.hid hq
  have hq2 := one_lt_order hf.1
  have hqb := orderF_bounds P M
  have hq3 : 2 ≤ q := by omega
  have hq4 : q ≤ 256 := by omega
  obtain ⟨R, rfl⟩ : ∃ R : Nat, r = (R : Int) := ⟨r.toNat, by omega⟩
  rw [Int.toNat_natCast]
  have HBAD : Hid (∀ k, k ≤ R → geoN q k ≤ 64) := hid' fun k hk => Nat.le_of_not_lt fun h => hbad ⟨k, by omega, h⟩
  have hR1 : 1 ≤ R := by omega
  have hR64 : R ≤ 64 := Nat.le_trans (geoN_ge hq3 R) (HBAD.out R (Nat.le_refl _))
  clear hq hbad hq2 hqb hr
  go_enter Try.func46, Try.ntmps46
  go_wp2_with fail
  generalize hw0 : w.alloc (.cells #[.int .i64 P, .int .i64 M, mv] 24) = w0 at *
  have c0 := HF.out.c0; have c1 := HF.out.c1; have c2 := HF.out.c2
  go_wp2_with fail
  refine (new_ok _ P M mv Mod (HM.out.below HF.out.bel (Nat.le_refl _)) hf).mono ?_
  rintro e w1 ⟨a, rfl, hg1, hb1⟩
  have HG1 := Lib.hid hg1.out
  have HB1 := Lib.hid (bl_trans HF.out.bel hb1); clear hb1 hg1
  go_wp2_with fail
  refine (gorder_any _ a P M Mod HG1.out).mono ?_
  rintro e w2 ⟨rfl, rfl⟩
  rw [HQ.out]
  clear c0 c1 c2
  go_wp2_with fail
  go_loop [9, 10, 28] (fun n p i => ∃ k : Nat, k ≤ R ∧ n = .int .i64 (geoN q k : Nat) ∧ p = .int .i64 (q ^ k : Nat) ∧ i = .int .i64 (k : Int)) (fun _ _ i => R - (intOf i).toNat)
  case atStart => exact ⟨0, by omega, rfl, by simp, rfl⟩
  case round =>
    obtain ⟨k, hk, rfl, rfl, rfl⟩ := hrel
    have hp := geo_pow hq3 hq4 (HBAD.out k hk)
    have HP1 : Hid (geoN q (k + 1) = geoN q k + q ^ k) := rfl
    have HP2 : Hid (q ^ (k + 1) = q ^ k * q) := Nat.pow_succ q k
    have hgb := HBAD.out k hk
    by_cases hlt : k < R
    · have hge : 0 ≤ q ^ k * q := Nat.zero_le _
      have hle : q ^ k * q ≤ 16384 * 256 := Nat.mul_le_mul hp.1 hq4
      have hg2 := HBAD.out (k + 1) (by omega)
      rw [HP1.out] at hg2
      generalize hpk : q ^ k = pk at *
      have HPK := Lib.hid hpk; clear hpk
      generalize hgk : geoN q k = gk at *
      have HGK := Lib.hid hgk; clear hgk
      obtain ⟨hp1, hp2⟩ := hp
      have hbig2 : ¬ (64 : Int) < (gk : Int) + (pk : Int) := by omega
      have hm0 : 0 ≤ (pk : Int) * (q : Int) := by rw [← Int.natCast_mul]; omega
      have hm1 : (pk : Int) * (q : Int) ≤ 16384 * 256 := by rw [← Int.natCast_mul]; omega
      go_wp2_with fail
      go_round
      case rel => exact ⟨k + 1, by omega, by rw [HP1.out]; push_cast; rfl, by rw [HP2.out]; push_cast; rfl, by push_cast; rfl⟩
      case measure => simp [intOf]; omega
    · obtain rfl : R = k := by omega
      clear HP1 HP2 hp
      generalize hgk : geoN q R = gk at *
      have HGK := Lib.hid hgk; clear hgk
      have hmk := fun (w : World) => run_mkS0 gk (by omega) w
      have hmki := fun (w : World) => run_mkI R (by omega) w
      have HS0 := Lib.hid (OS.made0 (B := w1.heap.size) (X := fun _ => False) w1 gk (Nat.le_refl _) (by omega))
      have HB2 := Lib.hid (bl_alloc w1 (.cells (madeCells #[.slice none 0 0] gk) 22))
      go_wp2_with fail
      clear hmk
      go_loopw [11, 12] (fun v l wr => ∃ (s : Nat) (A : Option Addr) (cv : Nat), s ≤ R ∧ v = .slice A (geoN q s) cv ∧ l = .int .i64 ((R : Int) - 1 - (s : Int)) ∧ Hid (OS w1.heap.size (fun _ => False) wr v ((ptsN q s).map (wordN q R))) ∧ Hid (Below w1.heap.size w1 wr)) (fun _ l _ => (intOf l + 1).toNat)
      case atStart => exact ⟨0, _, _, by omega, rfl, by simp, HS0, HB2⟩
      case round =>
        clear HS0 HB2
        obtain ⟨s, A, cv, hs, rfl, rfl, HS, HB⟩ := hrel
        by_cases hsr : s < R
        · obtain ⟨l, hl⟩ : ∃ l : Nat, (R : Int) - 1 - (s : Int) = (l : Int) := ⟨R - 1 - s, by omega⟩
          have hls : l + s + 1 = R := by omega
          rw [hl]
          have HLL : Hid (l = R - 1 - s) := hid' (show l = R - 1 - s by omega)
          obtain ⟨g, hg⟩ : ∃ g, g = wr.heap.size := ⟨_, rfl⟩
          have HR0 := Lib.hid (RI.made wr R)
          have hc0 := HR0.out.cell l (by simp; omega)
          have hf0 := HR0.out.frozen l
          have hl0 : (0 : Int) ≤ (l : Int) := by omega
          have hWE : (wr.alloc (.cells (madeCells #[.int .i64 0] R) 3)).setCell ⟨wr.heap.size, l, none⟩ (.int .i64 1) = wr.alloc (.cells ((madeCells #[.int .i64 0] R).setIfInBounds l (.int .i64 1)) 3) := World.setCell_alloc_at _ _ _ _ _ rfl
          have HR1 : Hid (RI (wr.alloc (.cells ((madeCells #[.int .i64 0] R).setIfInBounds l (.int .i64 1)) 3)) wr.heap.size (wordN q R (q ^ s))) := by
            have := HR0.out.set l 1
            rw [hWE, HLL.out, word_lead hq3 hsr, ← HLL.out] at this
            exact this
          have HBA := Lib.hid (bl_alloc wr (.cells ((madeCells #[.int .i64 0] R).setIfInBounds l (.int .i64 1)) 3))
          clear hl hWE
          go_wp2_with fail
          clear hc0 hf0 HR0
          have HNB : Hid ((Value.slice A (geoN q s) cv).ownBlock ≠ some g) := hid' fun e => by have := (HS.out.lt e).2; omega
          have HSG : Hid (OS w1.heap.size (fun x => x = g) (wr.alloc (.cells ((madeCells #[.int .i64 0] R).setIfInBounds l (.int .i64 1)) 3)) (.slice A (geoN q s) cv) ((ptsN q s).map (wordN q R))) := (HS.out.names (Y := fun x => x = g) fun x hx e => by omega).below HBA.out
          have HBG := Lib.hid (bl_trans HB.out (HBA.out.mono (Nat.le_refl _)))
          have hgB : w1.heap.size ≤ g := by have := HB.out.size; omega
          generalize hwg : wr.alloc (.cells ((madeCells #[.int .i64 0] R).setIfInBounds l (.int .i64 1)) 3) = wg at *
          rw [← hg] at HR1 ⊢
          clear hwg hg HBA
          have hgs1 := HBAD.out (s + 1) (by omega)
          have HGS : Hid (geoN q (s + 1) = geoN q s + q ^ s) := rfl
          rw [HGS.out] at hgs1
          have hp0 : 0 < q ^ s := Nat.pow_pos (by omega)
          clear HS
          go_loopw [11] (fun v wr => ∃ (t : Nat) (A : Option Addr) (cv : Nat), t < q ^ s ∧ v = .slice A (geoN q s + t) cv ∧ Hid (OS w1.heap.size (fun x => x = g) wr v ((ptsN q s).map (wordN q R) ++ ((List.range t).map fun t => q ^ s + t).map (wordN q R))) ∧ Hid (v.ownBlock ≠ some g) ∧ Hid (RI wr g (wordN q R (q ^ s + t))) ∧ Hid (Below w1.heap.size w1 wr)) (fun v _ => geoN q (s + 1) - slLen v)
          case atStart => exact ⟨0, _, _, hp0, rfl, by simpa using HSG, HNB, HR1, HBG⟩
          case round =>
            clear HSG HNB HR1 HBG
            obtain ⟨t, A, cv, ht, rfl, HS, HNB, HR, HB⟩ := hrel
            have HSI : Hid (SI wr (.slice (some ⟨g, 0, none⟩) R R) (wordN q R (q ^ s + t))) := hid' (by
              have := HR.out.si (by rw [wordN_len]; omega) (fun k => by have := wordN_rng (r := R) (n := q ^ s + t) (show 0 < q by omega) k; exact I64.of_small (by omega) (by omega))
              rw [wordN_len] at this
              exact this)
            go_wp2_with fail
            refine (clone_any _ _ _ HSI.out).mono ?_
            rintro e w3 ⟨u, rfl, hu, hb3⟩
            obtain ⟨UA, uc, rfl⟩ := hu.form'
            rw [wordN_len] at hu ⊢
            have HUX : Hid (0 < (wordN q R (q ^ s + t)).length → ∀ g', (Value.slice UA R uc).ownBlock = some g' → (Value.slice A (geoN q s + t) cv).ownBlock ≠ some g' ∧ ¬ g' = g) := hid' fun _ g' hg' => ⟨fun e => by have h1 := (hu.lt hg').1; have h2 := (HS.out.lt e).2; omega, fun e => by have h1 := (hu.lt hg').1; have h2 := HR.out.lt; omega⟩
            have HSU : Hid (SI w3 (.slice UA R uc) (wordN q R (q ^ s + t))) := hu.si (by rw [wordN_len]; omega) (SI.wfs HSI.out)
            have HS3 := Lib.hid (HS.out.below hb3)
            have HR3 := Lib.hid (HR.out.belowS hb3)
            have HB3 := Lib.hid (bl_trans HB.out hb3)
            have HBX : Hid ((w3.alloc (.cells #[.slice UA R uc] 22)).cell? ⟨w3.heap.size, 0, none⟩ = some (.slice UA R uc)) := (Blk.new w3 22 [.slice UA R uc]).cell 0
            have HUP : Hid (w1.heap.size ≤ (w3.alloc (.cells #[.slice UA R uc] 22)).heap.size) := hid' (by have := HB3.out.size; rw [World.size_alloc]; omega)
            have HLN : Hid (((ptsN q s).map (wordN q R) ++ ((List.range t).map fun t => q ^ s + t).map (wordN q R)).length + 1 ≤ 4398046511104) := hid' (by simp [ptsN_len]; omega)
            have HS4 := Lib.hid (HS3.out.alloc (.cells #[.slice UA R uc] 22))
            have HSU4 := Lib.hid (HSU.out.below (bl_alloc w3 (.cells #[.slice UA R uc] 22)) (Nat.le_refl _))
            have HR4 := Lib.hid (HR3.out.alloc (.cells #[.slice UA R uc] 22))
            have HB4 := Lib.hid (bl_trans HB3.out (bl_alloc w3 (.cells #[.slice UA R uc] 22)))
            have hg3 := HR3.out.lt
            clear hu hb3
            go_wp2_with (at_builtin; go_loud (refine wpList_pushS rfl _ _ rfl w1.heap.size (fun x => x = g) _ _ rfl HS4.out w3.heap.size 1 _ _ rfl HBX.out HSU4.out HUX.out HLN.out HUP.out ?_); (intro v2 w4 ho hg hv2); go_loud (rw [← inner_succ] at ho; have HO := Lib.hid ho; have HR5 := Lib.hid (HR4.out.grown hg (fun e => HNB.out e.symm)); have HB5 := Lib.hid (HS4.out.bgrown HB4.out HUP.out hg); have HNB5 : Hid (v2.ownBlock ≠ some g) := hid' (fun e => hv2.elim (fun h => HNB.out (h ▸ e)) (fun h => (by rw [h, World.size_alloc] at e; have := Option.some.inj e; omega))); clear ho hg hv2))
            obtain ⟨A2, cv2, hv2⟩ := HO.out.form
            rw [List.length_append, List.length_map, List.length_map, List.length_map, List.length_range, ptsN_len] at hv2
            subst hv2
            clear HS3 HS4 HR3 HR4 HB3 HB4 HBX HUP HLN HSU4 HSU HUX HSI HS HNB HR HB
            have HR6 : Hid (RI w4 g (wordN q R ((q ^ s + t) / q ^ 0 * q ^ 0))) := by rw [Nat.pow_zero, Nat.div_one, Nat.mul_one]; exact HR5
            have hj0 : (R : Int) - 1 = ((R - 1 : Nat) : Int) := by omega
            have HRB5 := Lib.hid HB5.out.size
            go_loopw [14] (fun i wr => ∃ (c j : Nat), j + c + 1 = R ∧ c ≤ s ∧ i = .int .i64 (j : Int) ∧ Hid ((q ^ s + t) % q ^ c = q ^ c - 1) ∧ Hid (RI wr g (wordN q R ((q ^ s + t) / q ^ c * q ^ c))) ∧ Hid (w4.grownBy wr (some g))) (fun i _ => (intOf i).toNat)
            case atStart => exact ⟨0, R - 1, by omega, by omega, by rw [hj0], hid' (by rw [Nat.pow_zero, Nat.mod_one]), HR6, World.grownBy.refl _ _⟩
            case round =>
              clear HR6 HR5
              obtain ⟨c, j, hjc, hcs, rfl, HMD, HRc, HGR⟩ := hrel
              have HJ : Hid (j = R - 1 - c) := hid' (show j = R - 1 - c by omega)
              have HOc : Hid (OS w1.heap.size (fun x => x = g) wr (.slice A2 (geoN q s + (t + 1)) cv2) ((ptsN q s).map (wordN q R) ++ ((List.range (t + 1)).map fun t => q ^ s + t).map (wordN q R))) := hid' (HO.out.grown HGR.out fun g' e => (by obtain rfl := Option.some.inj e; exact ⟨HNB5.out, rfl⟩))
              have HBc : Hid (Below w1.heap.size w1 wr) := hid' (HB5.out.grown HGR.out HRB5.out fun k e => (by obtain rfl := Option.some.inj e; exact hgB))
              have hgsz := HRc.out.lt
              clear hj0
              by_cases hlt : c < s
              · have hlj : l < j := by omega
                have hlj2 : (l : Int) < (j : Int) := by omega
                have hjR : j < R := by omega
                have hjl : ((j : Int) == (l : Int)) = false := by rw [beq_eq_false_iff_ne]; omega
                have hcl := HRc.out.cell j (by rw [wordN_len]; omega)
                have hfz := HRc.out.frozen j
                have hdg := word_dig (a := (q ^ s + t) / q ^ c) (r := R) hq3 (show c < R by omega)
                rw [← HJ.out] at hdg
                rw [hdg] at hcl
                have hxq := Nat.mod_lt ((q ^ s + t) / q ^ c) (show 0 < q by omega)
                generalize hx : (q ^ s + t) / q ^ c % q = x at hcl hxq
                have HX := Lib.hid hx
                clear hx hdg
                by_cases hxe : x + 1 = q
                · have hb : ((x : Int) == (q : Int) - 1) = true := by rw [beq_iff_eq]; omega
                  have HR7 : Hid (RI (wr.setCell ⟨g, j, none⟩ (.int .i64 0)) g (wordN q R ((q ^ s + t) / q ^ (c + 1) * q ^ (c + 1)))) := hid' (by
                    have := HRc.out.set j 0
                    rw [HJ.out, word_carry hq3 (by omega), ← HJ.out, Nat.div_div_eq_div_mul, ← Nat.pow_succ] at this
                    exact this)
                  have HM7 : Hid ((q ^ s + t) % q ^ (c + 1) = q ^ (c + 1) - 1) := hid' (carry_mod hq3 HMD.out (by rw [HX.out]; omega))
                  have HG7 := Lib.hid (gr_setCell (p := ⟨g, j, none⟩) HGR.out (.inl rfl) (.int .i64 0))
                  clear hxe
                  go_wp2_with fail
                  exact ⟨⟨c + 1, j - 1, by omega, by omega, by congr 1; omega, HM7, HR7, HG7⟩, by simp only [intOf]; omega⟩
                · have hb : ((x : Int) == (q : Int) - 1) = false := by rw [beq_eq_false_iff_ne]; omega
                  have HR7 : Hid (RI (wr.setCell ⟨g, j, none⟩ (.int .i64 ((x : Int) + 1))) g (wordN q R (q ^ s + (t + 1)))) := hid' (by
                    have := HRc.out.set j ((x : Int) + 1)
                    have e := word_up (r := R) (a := (q ^ s + t) / q ^ c) hq3 (show c < R by omega) (by rw [HX.out]; omega)
                    rw [HX.out, ← HJ.out, carry_up hq3 HMD.out] at e
                    push_cast at e
                    rw [e] at this
                    exact this)
                  have ht2 : t + 1 < q ^ s := step_more hq3 hlt ht (by rw [HX.out]; omega) HMD.out
                  have HO7 : Hid (OS w1.heap.size (fun x => x = g) (wr.setCell ⟨g, j, none⟩ (.int .i64 ((x : Int) + 1))) (.slice A2 (geoN q s + (t + 1)) cv2) ((ptsN q s).map (wordN q R) ++ ((List.range (t + 1)).map fun t => q ^ s + t).map (wordN q R))) := hid' (HOc.out.grown (gr_set1 wr g j _) fun g' e => (by obtain rfl := Option.some.inj e; exact ⟨HNB5.out, rfl⟩))
                  have HB7 := Lib.hid (HBc.out.setCell (p := ⟨g, j, none⟩) hgB (.int .i64 ((x : Int) + 1)))
                  clear hxe
                  go_wp2_with fail
                  exact ⟨⟨t + 1, A2, cv2, ht2, rfl, HO7, HNB5, HR7, HB7⟩, by simp only [slLen]; rw [HGS.out]; omega⟩
              · obtain rfl : s = c := by omega
                obtain rfl : j = l := by omega
                have hjl : ((j : Int) == (j : Int)) = true := by simp
                have hlj : ¬ j < j := by omega
                have hte := last_one ht HMD.out
                have HO8 : Hid (OS w1.heap.size (fun _ => False) wr (.slice A2 (geoN q s + (t + 1)) cv2) ((ptsN q (s + 1)).map (wordN q R))) := hid' (by
                  have h8 := HOc.out.names (Y := fun _ => False) (fun _ _ h => h.elim)
                  rw [ptsL_take, show List.range (q ^ s) = List.range (t + 1) by rw [hte]]
                  exact h8)
                clear hlt
                go_wp2_with fail
                exact ⟨⟨s + 1, A2, cv2, by omega, by rw [HGS.out, hte], by congr 1; omega, HO8, HBc⟩, by simp only [intOf]; omega⟩
        · obtain rfl : R = s := by omega
          go_wp2_with fail
          go_ret2
          refine ⟨_, rfl, HS.out.ss (by rw [List.length_map, ptsN_len, HGK.out]; omega), fun g hg => ?_, bl_trans HB1.out HB.out⟩
          exact Nat.le_trans HB1.out.size (HS.out.lt hg).1
end Go.Proofs.Ytdbpbmehcifjpaa
