/- Texts of a claim, merged: words, plain facts and walks that the last of its texts uses. -/
import Derived.Test.YtlcgihjdafglmaaZA12
import Derived.Test.YtlcgihjdafglmaaZA13
set_option linter.unusedSimpArgs false
set_option linter.unusedVariables false

/- slices.Contains of ints; matrix.Kernel. -/
namespace Go.Proofs.Ytlcgihjdafglmaa
open Go.RowKit
set_option linter.unusedVariables false
set_option maxRecDepth 100000

set_option maxHeartbeats 4000000 in
theorem index_any (w : World) (v : Value) (xs : List Int) (y : Int) (hv : SI w v xs) : Calls Try.prog 134 #[v, .int .i64 y] w (fun e w' => ∃ z, e = .returned (.int .i64 z) ∧ decide (0 ≤ z) = (xs.any fun x => x == y) ∧ w = w') := by
  obtain ⟨A, c, rfl, hv⟩ := hv
  have hn := hv.len
  have HV := Lib.hid hv; clear hv
  go_enter Try.func134, Try.ntmps134
  go_wp2_with fail
  go_loop [8] (fun i => ∃ k : Nat, k ≤ xs.length ∧ i = .int .i64 (k : Int) ∧ Hid (∀ j, j < k → xs.getD j 0 ≠ y)) (fun i => xs.length - (intOf i).toNat)
  case atStart => exact ⟨0, Nat.zero_le _, rfl, hid' fun j hj => absurd hj (Nat.not_lt_zero _)⟩
  case round =>
    obtain ⟨k, hk, rfl, HK⟩ := hrel
    by_cases hlt : k < xs.length
    · obtain ⟨ad, x, rfl, hc, _, HX⟩ := HV.out.elt hlt
      by_cases hx : y = x
      · have hb : (y == x) = true := by simpa using hx
        have HE : Hid ((xs.any fun x => x == y) = true) := by
          show _ = _
          rw [List.any_eq_true]
          exact ⟨xs.getD k 0, by rw [List.getD_eq_getElem?_getD, List.getElem?_eq_getElem hlt]; exact List.getElem_mem hlt, by rw [beq_iff_eq, HX.out]; exact hx.symm⟩
        clear hx
        go_wp2_with fail
        go_ret
        exact ⟨_, rfl, by rw [HE.out, decide_eq_true_eq]; show (0 : Int) ≤ (k : Int); omega, rfl⟩
      · have hb : (y == x) = false := by simpa using hx
        have HXX := Lib.hid hx; clear hx
        go_wp2_with fail
        go_round
        case rel => exact ⟨k + 1, by omega, by go_num, hid' fun j hj => by
          by_cases e : j = k
          · subst e; rw [HX.out]; exact fun h => HXX.out h.symm
          · exact HK.out j (by omega)⟩
        case measure => simp [intOf]; omega
    · have HE : Hid ((xs.any fun x => x == y) = false) := by
        show _ = _
        rw [List.any_eq_false]
        intro x hx e
        rw [beq_iff_eq] at e
        obtain ⟨j, hj, rfl⟩ := List.mem_iff_getElem.1 hx
        refine HK.out j (by omega) ?_
        rw [List.getD_eq_getElem?_getD, List.getElem?_eq_getElem hj]
        exact e
      go_wp2_with fail
      go_ret
      exact ⟨_, rfl, by rw [HE.out]; rfl, rfl⟩
set_option maxHeartbeats 4000000 in
theorem contains_any (w : World) (v : Value) (xs : List Int) (y : Int) (hv : SI w v xs) : Calls Try.prog 114 #[v, .int .i64 y] w (fun e w' => e = .returned (.bool (xs.any fun x => x == y)) ∧ w = w') := by
  have HV := Lib.hid hv; clear hv
  go_enter Try.func114, Try.ntmps114
  go_wp2_with fail
  refine (index_any _ v xs y HV.out).mono ?_
  rintro e w1 ⟨z, rfl, hz, rfl⟩
  have HZ := Lib.hid hz; clear hz
  go_wp2_with fail
  go_ret
  exact ⟨by rw [← HZ.out]; rfl, rfl⟩

/-- a matrix and an error come back -/
def RetMx (w : World) (n : Nat) (xss : List (List Int)) (e : Ending) (w' : World) : Prop :=
  ∃ u, e = .returned (.tuple #[.agg #[.int .i64 (n : Int), u], .int .i64 0]) ∧ Sep w.heap.size w' (fun w2 => SS w2 u xss) ∧ Below w.heap.size w w'

set_option maxHeartbeats 16000000 in
theorem mKernel_ok (w : World) (P M : Int) (n : Nat) (mv rv : Value) (Mod : List Int) (rows : List (List Int)) (hm : SI w mv Mod) (hv : SS w rv rows) (he : matE P M Mod n rows = 0) :
    Calls Try.prog 89 #[.agg #[.int .i64 P, .int .i64 M, mv], .agg #[.int .i64 (n : Int), rv]] w (RetMx w n (nullL (refOps P M Mod) rows n)) := by
  have HM := Lib.hid hm; have HV := Lib.hid hv; clear hm hv
  obtain ⟨hf, _, hn, hr, hR⟩ := matE_zero he
  rw [Int.toNat_natCast] at hR
  have hO := ref_fld hf
  obtain ⟨hA, _⟩ := canon_rref hO hR
  have HR := Lib.hid hR
  have HE := Lib.hid he
  have HF := Lib.hid hO
  have HFD := Lib.hid hf
  have HNE : Hid (nullL (refOps P M Mod) rows n = canonL (refOps P M Mod) (nullTo (refOps P M Mod) (canonL (refOps P M Mod) rows n) (pivL (refOps P M Mod) rows n) n n) n) := rfl
  have HNR := Lib.hid (nullTo_Rows hO hA)
  have hAl : (canonL (refOps P M Mod) rows n).length ≤ n := by
    have h1 := (elimTo_piv (refOps P M Mod) rows n).2
    have h2 : (canonL (refOps P M Mod) rows n).length = (pivL (refOps P M Mod) rows n).length := hA.len.symm
    rw [h2]; exact h1
  have hob := orderF_bounds P M
  have HOB := Lib.hid hob
  clear he hR hf hO hob
  obtain ⟨RA, rc, rfl, _⟩ := HV.out
  obtain ⟨r0, hrr⟩ : ∃ r0, r0 = rows.length := ⟨_, rfl⟩
  rw [← hrr] at HV hr ⊢
  have HRR := Lib.hid hrr; clear hrr
  obtain ⟨w1, e1, hq, hsz⟩ := FMQ.mk' w P M mv n (.slice RA r0 rc)
  have HQ := Lib.hid hq; have HE1 := Lib.hid e1; clear hq e1
  have hmk := fun (w : World) => run_mkI n (by omega) w
  have HRA := Lib.hid hA; clear hA
  go_enter Try.func89, Try.ntmps89
  go_wp2_with fail
  rw [HE1.out]
  clear HE1
  have c0 := HQ.out.fm.fb.c0; have c1 := HQ.out.fm.fb.c1; have c2 := HQ.out.fm.fb.c2; have d0 := HQ.out.fm.d0; have d1 := HQ.out.fm.d1
  go_wp2_with fail
  refine (mopen_ok w w1 P M n _ mv _ Mod rows HQ.out.fm.fb.bel hsz HM.out HV.out HE.out).mono ?_
  rintro e w2 ⟨a, rfl, hg, hb2⟩
  have HG := Lib.hid hg
  have HQ2 := Lib.hid (HQ.out.on hb2)
  clear hg hb2 c0 c1 c2 d0 d1 HQ
  have d0 := HQ2.out.fm.d0; have d1 := HQ2.out.fm.d1
  go_wp2_with fail
  refine (mcanon_any w2 a P M n Mod _ rows HG.out (HV.out.below HQ2.out.fm.fb.bel (Nat.le_refl _)) HR.out (by omega) (by rw [← HRR.out]; omega)).mono ?_
  rintro e w3 ⟨AA, U, uc, rfl, hs, _, hb3⟩
  have hlt2 := HQ2.out.q.lt
  have HQ3 := Lib.hid (HQ2.out.on hb3)
  have HG3 := Lib.hid (HG.out.on hb3)
  have hpl := HRA.out.len
  generalize canonL (refOps P M Mod) rows n = Am at *
  generalize pivL (refOps P M Mod) rows n = p at *
  obtain ⟨r, hrr⟩ : ∃ r, r = Am.length := ⟨_, rfl⟩
  rw [hpl] at hs ⊢
  rw [← hrr] at hAl hpl hs ⊢
  have HAR := Lib.hid hrr; have HPL := Lib.hid hpl
  clear hrr hpl
  have HA := Lib.hid hs.out.1; have HP := Lib.hid hs.out.2
  have hlt : ∀ i, i < r → pvt p i < n := fun i hi => HRA.out.lt i (by rw [← HAR.out]; exact hi)
  clear hs hb3 d0 d1
  have d0 := HQ3.out.fm.d0
  go_wp2_with fail
  clear d0
  go_loopw [10, 37] (fun u i wr => ∃ (c l : Nat) (OA : Option Addr) (oc : Nat), c ≤ n ∧ i = .int .i64 (c : Int) ∧ u = .slice OA l oc ∧ Hid ((nullTo (refOps P M Mod) Am p n c).length = l) ∧ Hid (OS w3.heap.size (fun _ => False) wr (.slice OA l oc) (nullTo (refOps P M Mod) Am p n c)) ∧ Hid (Below w3.heap.size w3 wr)) (fun _ i _ => n - (intOf i).toNat)
  case atStart => exact ⟨0, 0, none, 0, Nat.zero_le _, rfl, rfl, rfl, OS.nil _ _ _, bl_refl _⟩
  case round =>
    obtain ⟨c, l, OA, oc, hc, rfl, rfl, HNL, HOS, HB⟩ := hrel
    have d0 := (HQ3.out.on HB.out).fm.d0
    by_cases hck : c < n
    · cases hpv : isPv p c
      · have HPV : Hid ((p.any fun x => x == (c : Int)) = false) := hpv
        have HNX : Hid (nullTo (refOps P M Mod) Am p n (c + 1) = nullTo (refOps P M Mod) Am p n c ++ [freeTo (refOps P M Mod) Am p n c r]) := hid' (by show _ = _; rw [nullTo, if_neg (by rw [hpv]; decide), HPL.out])
        clear hpv
        have HX0 := Lib.hid (RI.made wr n)
        have hx0 : (wr.alloc (.cells (madeCells #[.int .i64 0] n) 3)).cell? ⟨wr.heap.size, c, none⟩ = some (.int .i64 0) := by
          have := HX0.out.cell c (by simp; exact hck)
          rw [this]; simp [List.getD, List.getElem?_replicate, hck]
        have hxf := HX0.out.frozen c
        have HX1 : Hid (RI ((wr.alloc (.cells (madeCells #[.int .i64 0] n) 3)).setCell ⟨wr.heap.size, c, none⟩ (.int .i64 1)) wr.heap.size (freeTo (refOps P M Mod) Am p n c 0)) := hid' (HX0.out.set c 1)
        have hgr := gr_set1 (wr.alloc (.cells (madeCells #[.int .i64 0] n) 3)) wr.heap.size c (.int .i64 1)
        have HNEW : Hid (∀ g, (Value.slice OA l oc).ownBlock = some g → g ≠ wr.heap.size) := hid' fun g hg => by have := HOS.out.lt hg; omega
        have HO1 := Lib.hid (((HOS.out.names (Y := fun g => g = wr.heap.size) (fun g h1 h2 => by omega)).alloc (.cells (madeCells #[.int .i64 0] n) 3)).grown hgr (fun g e => by
          have e2 := Option.some.inj e
          subst e2
          exact ⟨fun h => HNEW.out _ h rfl, rfl⟩))
        have hsz3 := HB.out.size
        have HBc := Lib.hid ((HB.out.alloc hsz3 (.cells (madeCells #[.int .i64 0] n) 3)).setCell (p := ⟨wr.heap.size, c, none⟩) hsz3 (.int .i64 1))
        clear HX0 hgr HOS
        have hsc := World.setCell_alloc_at (w := wr) (madeCells #[.int .i64 0] n) 3 wr.heap.size c (.int .i64 1) rfl
        rw [hsc] at HX1 HO1 HBc
        clear hsc
        go_wp2_with fail
        refine (contains_any _ _ p (c : Int) (HP.out.below HB.out (Nat.le_refl _))).mono ?_
        rintro e w4 ⟨rfl, rfl⟩
        rw [HPV.out]
        go_wp2_with fail
        clear hx0 hxf HB d0
        generalize wr.alloc (.cells ((madeCells #[.int .i64 0] n).setIfInBounds c (.int .i64 1)) 3) = w5 at *
        generalize hgx : wr.heap.size = gx at *
        clear hgx
        go_loopw [51] (fun i wr => ∃ b : Nat, b ≤ r ∧ i = .int .i64 (b : Int) ∧ Hid (RI wr gx (freeTo (refOps P M Mod) Am p n c b)) ∧ Hid (OS w3.heap.size (fun g => g = gx) wr (.slice OA l oc) (nullTo (refOps P M Mod) Am p n c)) ∧ Hid (Below w3.heap.size w3 wr)) (fun i _ => r - (intOf i).toNat)
        case atStart => exact ⟨0, Nat.zero_le _, rfl, HX1, HO1, HBc⟩
        case round =>
          clear HX1 HO1 HBc
          obtain ⟨b, hb, rfl, HX, HOS, HB⟩ := hrel
          by_cases hbj : b < r
          · obtain ⟨pd, z2, rfl, hpc, _, HZ⟩ := (HP.out.below HB.out (Nat.le_refl _)).elt (k := b) (by rw [HPL.out]; exact hbj)
            have hz2 := HZ.out
            rw [HRA.out.nn b (by rw [← HAR.out]; exact hbj)] at hz2
            subst hz2
            have hpj := hlt b hbj
            obtain ⟨ra, Ak, ck, row, rfl, hd, HRW, HRE⟩ := (HA.out.below HB.out (Nat.le_refl _)).eltA (k := b) (by rw [← HAR.out]; exact hbj)
            have hrl : row.length = n := by rw [← HRE.out]; exact (HRA.out.rows b (by rw [← HAR.out]; exact hbj)).1
            obtain ⟨rd, y, rfl, hy, _, HY⟩ := HRW.out.elt (k := c) (by rw [hrl]; exact hck)
            have HFN : Hid ((freeTo (refOps P M Mod) Am p n c b).set (pvt p b) (negF P M y) = freeTo (refOps P M Mod) Am p n c (b + 1)) := hid' (by
              show _ = _
              rw [freeTo, show ent Am b c = y by unfold ent; rw [HRE.out, HY.out]]; rfl)
            have hkr : c < row.length := by omega
            have HPJ : Hid (pvt p b < (freeTo (refOps P M Mod) Am p n c b).length) := hid' (by rw [freeTo_len]; exact hpj)
            clear HRE HRW HZ
            generalize pvt p b = pj at *
            go_wp2_with fail
            refine (gneg_any _ a P M y Mod (HG3.out.on HB.out)).mono ?_
            rintro e w6 ⟨rfl, hb6⟩
            have HX6 := Lib.hid (HX.out.belowS hb6)
            have HO6 := Lib.hid (HOS.out.below hb6)
            have HB6 := Lib.hid (bl_trans HB.out hb6)
            have u0 := HX6.out.cell pj HPJ.out
            have uf := HX6.out.frozen pj
            clear hb6
            go_wp2_with fail
            have HX7 := Lib.hid (HX6.out.set pj (negF P M y))
            rw [HFN.out] at HX7
            have HO7 := Lib.hid (HO6.out.grown (gr_set1 w6 gx pj (.int .i64 (negF P M y))) (fun g e => by
              have e2 := Option.some.inj e
              subst e2
              exact ⟨fun h => HNEW.out _ h rfl, rfl⟩))
            have HB7 := Lib.hid (HB6.out.setCell (p := ⟨gx, pj, none⟩) hsz3 (.int .i64 (negF P M y)))
            exact ⟨⟨b + 1, by omega, by push_cast; rfl, HX7, HO7, HB7⟩, by simp only [intOf]; omega⟩
          · obtain rfl : b = r := by omega
            have hgl := HX.out.lt
            have hob := HOB.out
            have HXS : Hid (SI wr (.slice (some ⟨gx, 0, none⟩) n n) (freeTo (refOps P M Mod) Am p n c b)) := hid' (by
              have h := HX.out.si (by rw [freeTo_len]; omega) (fun i => by
                have h1 := freeTo_rng HF.out HRA.out c i
                rw [← HAR.out] at h1
                exact I64.of_small (by omega) (by omega))
              rwa [freeTo_len] at h)
            have HBX := Lib.hid (box1 (w := wr) (u := .slice (some ⟨gx, 0, none⟩) n n) (t := 22))
            have hba := bl_alloc wr (.cells #[.slice (some ⟨gx, 0, none⟩) n n] 22)
            have HXA := Lib.hid (HXS.out.below hba (Nat.le_refl _))
            have hsz4 := HB.out.size
            have HUP := Lib.hid (up_alloc (w := wr) (B := w3.heap.size) hsz4 (.cells #[.slice (some ⟨gx, 0, none⟩) n n] 22))
            have HOA := Lib.hid ((HOS.out.names (Y := fun _ => False) (fun g _ h => h.elim)).alloc (.cells #[.slice (some ⟨gx, 0, none⟩) n n] 22))
            have HBA := Lib.hid (HB.out.alloc hsz4 (.cells #[.slice (some ⟨gx, 0, none⟩) n n] 22))
            have HNN := Lib.hid (nullTo_len (refOps P M Mod) Am p n c)
            clear hba hgl hbj hsz4 hob
            go_wp2_with (at_builtin; refine wpList_pushS rfl _ _ rfl w3.heap.size (fun _ => False) _ (nullTo (refOps P M Mod) Am p n c) rfl HOA.out wr.heap.size 1 _ (freeTo (refOps P M Mod) Am p n c b) rfl HBX.out HXA.out (fun _ g hg => ⟨fun e => HNEW.out _ e (by simp [Value.ownBlock] at hg; exact hg.symm), fun h => h⟩) (by have := HNN.out; omega) HUP.out ?_; (intro v5 w5 ho5 hg5 hv5); go_must (have HB5 := Lib.hid (HOA.out.bgrown HBA.out HUP.out hg5); rw [← HNX.out] at ho5; obtain ⟨A5, c5, rfl⟩ := ho5.form; have HO5 := Lib.hid ho5); clear ho5 hg5 hv5)
            exact ⟨⟨c + 1, _, A5, c5, by omega, by push_cast; rfl, rfl, rfl, HO5, HB5⟩, by simp only [intOf]; omega⟩
      · have HPV : Hid ((p.any fun x => x == (c : Int)) = true) := hpv
        have HNX : Hid (nullTo (refOps P M Mod) Am p n (c + 1) = nullTo (refOps P M Mod) Am p n c) := hid' (by show _ = _; rw [nullTo, if_pos hpv])
        clear hpv
        go_wp2_with fail
        refine (contains_any _ _ p (c : Int) (HP.out.below HB.out (Nat.le_refl _))).mono ?_
        rintro e w4 ⟨rfl, rfl⟩
        rw [HPV.out]
        go_wp2_with fail
        exact ⟨⟨c + 1, l, OA, oc, by omega, by push_cast; rfl, rfl, by rw [HNX.out]; exact HNL, by rw [HNX.out]; exact HOS, HB⟩, by simp only [intOf]; omega⟩
    · obtain rfl : c = n := by omega
      have hnl := nullTo_len (refOps P M Mod) Am p c c
      have HSS := Lib.hid (HOS.out.ss (by omega))
      have HQ4 := Lib.hid (HQ3.out.on HB.out)
      have HG4 := Lib.hid (HG3.out.on HB.out)
      go_wp2_with fail
      refine (mcanon_any wr a P M c Mod _ _ HG4.out HSS.out HNR.out (by omega) (by omega)).mono ?_
      rintro e w5 ⟨AA5, U5, uc5, rfl, hs5, _, hb5⟩
      rw [← HNE.out] at hs5 ⊢
      generalize hkk : (nullL (refOps P M Mod) rows c).length = k at *
      have HK := Lib.hid hkk; clear hkk
      have HS5 := Lib.hid (hs5.imp fun _ h => h.1)
      have hlt4 := HQ4.out.q.lt
      have HQ5 := Lib.hid (HQ4.out.on hb5)
      clear hs5 hb5 d0
      have d0 := HQ5.out.fm.d0
      obtain ⟨r0', r1', f0, f1⟩ := HQ5.out.q.two
      go_wp2_with fail
      obtain ⟨w6, h6, HL⟩ := lay2 (x := .int .i64 (c : Int)) (y := .slice AA5 k k) HQ5.out.q
      rw [h6]
      have q0 := HL.c0; have q1 := HL.c1
      refine bodyPost_ret (v := .tuple #[.agg #[.int .i64 (c : Int), .slice AA5 k k], .int .i64 0]) (by simp [results, Try.results89, go_sem, q0, q1]) rfl ?_
      exact ⟨_, rfl, (HS5.out.grown HL.gr (by rintro g e; cases e; omega)).mono HQ4.out.fm.fb.bel.size, HL.below HQ5.out.fm.fb.bel HQ5.out.fm.fb.bel.size (by omega)⟩
end Go.Proofs.Ytlcgihjdafglmaa
