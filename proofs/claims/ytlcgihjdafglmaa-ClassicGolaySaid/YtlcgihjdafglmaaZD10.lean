/- Texts of a claim, merged: words, plain facts and walks that the last of its texts uses. -/
import Derived.Test.YtlcgihjdafglmaaZD1
import Derived.Test.YtlcgihjdafglmaaZD2
import Derived.Test.YtlcgihjdafglmaaZD5
import Derived.Test.YtlcgihjdafglmaaZD6
import Derived.Test.YtlcgihjdafglmaaZD8
import Derived.Test.YtlcgihjdafglmaaZD9
import Derived.Deep.QuietTactic
import Derived.BigQuiet
import Derived.ArgAppend
import Derived.Deep.Upon
import Derived.Deep.RegionLaw
import Derived.Deep.DeepMust
import Derived.StillTailTactics
import Derived.Laws.EntriesVeiled
import Derived.Deep.RegionHeld3
set_option linter.unusedSimpArgs false
set_option linter.unusedVariables false

/- classic.Residue, the good way. -/
namespace Go.Proofs.Ytlcgihjdafglmaa
open Go.RowKit
set_option linter.unusedVariables false
set_option maxRecDepth 100000

set_option maxHeartbeats 32000000 in
theorem cRes_ok (w : World) (n : Nat) (hn : LenOk (n : Int)) : Calls Try.prog 11 #[.int .i64 (n : Int)] w (RetCE w 2 1 [] n (canonL (refOps 2 1 []) (shL (resW n)) n) 0) := by
  obtain ⟨h3, h64, h8, hp⟩ := hn
  rw [Int.toNat_natCast] at hp
  have HSH := Lib.hid (fun (w' : World) (v : Value) (hs : SI w' v (resW n)) => shifts_ok w' 2 1 n (.slice none 0 0) v [] (resW n) (SI.none_ w') hs (resW_len n) (by omega) (by omega) field21 (fun i => by rw [order21]; exact resW_bit n i))
  unfold RetCE at HSH
  generalize canonL (refOps 2 1 []) (shL (resW n)) n = C at *
  have HRI : Hid (∀ i, I64 ((resW n).getD i 0)) := hid' fun i => by have := resW_bit n i; exact I64.of_small (by omega) (by omega)
  have HRL := Lib.hid (resW_len n)
  have HB0 := Lib.hid (bl_alloc w (.cells #[.int .i64 0, .int .i64 0, .slice none 0 0, .int .i64 0, .slice none 0 0] 27))
  have HRB : Hid (Blk (w.alloc (.cells #[.int .i64 0, .int .i64 0, .slice none 0 0, .int .i64 0, .slice none 0 0] 27)) w.heap.size 27 [.int .i64 0, .int .i64 0, .slice none 0 0, .int .i64 0, .slice none 0 0]) := Blk.new w 27 [.int .i64 0, .int .i64 0, .slice none 0 0, .int .i64 0, .slice none 0 0]
  obtain ⟨w0, hw0⟩ : ∃ w0, w0 = w.alloc (.cells #[.int .i64 0, .int .i64 0, .slice none 0 0, .int .i64 0, .slice none 0 0] 27) := ⟨_, rfl⟩
  rw [← hw0] at HB0 HRB
  have HW0 := Lib.hid hw0.symm
  clear hw0
  have k1 : ¬ (n : Int) < 3 := by omega
  have k2 : ¬ (64 : Int) < (n : Int) := by omega
  have k3 : (((n : Int) % 8 != 1) && ((n : Int) % 8 != 7)) = false := by rcases h8 with h | h <;> rw [h] <;> rfl
  have hn64 : n ≤ 64 := by omega
  have hn3 : 3 ≤ n := by omega
  have hn0 : ¬ (n : Int) = 0 := by omega
  have hmk := fun (w : World) => run_mkI n (by omega) w
  have HP := Lib.hid hp
  have HRW : Hid (∀ b : Bool, ((n : Int) % 8 == 1) = b → resW n = if b = true then (sqT n (n - 1)).set 0 1 else sqT n (n - 1)) := hid' fun b hb => by
    unfold resW
    cases b
    · rw [if_neg (beq_eq_false_iff_ne.1 hb), if_neg (by decide)]
    · rw [if_pos (beq_iff_eq.1 hb), if_pos rfl]
  clear h3 h64 hp
  cases e1 : ((n : Int) % 8 != 1)
  case' true =>
    have e2 : ((n : Int) % 8 != 7) = false := by rw [e1] at k3; simpa using k3
    have e8 : ((n : Int) % 8 == 1) = false := by rw [beq_eq_false_iff_ne]; exact bne_iff_ne.1 e1
  case' false =>
    have e8 : ((n : Int) % 8 == 1) = true := by
      cases h : ((n : Int) % 8 == 1)
      · have h5 := beq_eq_false_iff_ne.1 h
        rw [bne_iff_ne.2 h5] at e1; cases e1
      · rfl
  all_goals
    have HRE := Lib.hid (HRW.out _ e8)
    clear k3 h8 HRW
    go_enter Try.func11, Try.ntmps11
    go_upto_region 1 with fail
    rw [HW0.out]
    go_wp2_with fail
    refine (prime_small _ n (by omega) (by omega)).mono ?_
    rintro e w1 ⟨rfl, hb1⟩
    rw [show decide (leastN n = n) = true from decide_eq_true HP.out]
    have HRB1 := Lib.hid (HRB.out.belowS hb1); have HB1 := Lib.hid (bl_trans HB0.out hb1)
    clear hb1
    have HR0 : Hid (RI (w1.alloc (.cells (madeCells #[.int .i64 0] n) 3)) w1.heap.size (sqT n 0)) := RI.made w1 n
    have HBA := Lib.hid (bl_alloc w1 (.cells (madeCells #[.int .i64 0] n) 3))
    go_wp2_with fail
    clear hmk
    obtain ⟨g, hg⟩ : ∃ g, g = w1.heap.size := ⟨_, rfl⟩
    have HGE := Lib.hid hg
    rw [← hg] at HR0 ⊢
    clear hg
    go_loopw [5] (fun i wr => ∃ k : Nat, 1 ≤ k ∧ k ≤ n ∧ i = .int .i64 (k : Int) ∧ Hid (RI wr g (sqT n (k - 1))) ∧ Hid (Below w1.heap.size w1 wr)) (fun i _ => n - (intOf i).toNat)
    case atStart => exact ⟨1, Nat.le_refl _, by omega, rfl, HR0, HBA⟩
    case round =>
      clear HR0 HBA
      obtain ⟨k, hk1, hk, rfl, HR, HB⟩ := hrel
      by_cases hkn : k < n
      · obtain ⟨p, hpe⟩ : ∃ p, p = k * k % n := ⟨_, rfl⟩
        have hpn : p < n := by rw [hpe]; exact Nat.mod_lt _ (by omega)
        have hkk : k * k ≤ 4096 := Nat.mul_le_mul (show k ≤ 64 by omega) (show k ≤ 64 by omega)
        obtain ⟨s, hs⟩ : ∃ s, s = k * k := ⟨_, rfl⟩
        have hss : (k : Int) * (k : Int) = (s : Int) := by rw [hs]; push_cast; rfl
        have hpi : (s : Int) % (n : Int) = (p : Int) := by rw [hs, hpe]; push_cast; rfl
        have hw1 : IntKind.i64.wrap (s : Int) = (s : Int) := IntWalk.i64_in _ (by omega)
        have hw2 : wrap64 (s : Int) = (s : Int) := by unfold wrap64; omega
        have HST : Hid ((sqT n (k - 1)).set p 1 = sqT n (k + 1 - 1)) := hid' (by
          obtain ⟨j, rfl⟩ : ∃ j, k = j + 1 := ⟨k - 1, by omega⟩
          show _ = sqT n (j + 1)
          rw [sqT, hpe]; rfl)
        have u0 := HR.out.cell p (by rw [sqT_len]; exact hpn)
        generalize hz : (sqT n (k - 1)).getD p 0 = z0 at u0
        clear hz
        have uf := HR.out.frozen p
        have HR2 := Lib.hid (HR.out.set p 1)
        rw [HST.out] at HR2
        have HB2 := Lib.hid (HB.out.setCell (p := ⟨g, p, none⟩) (by rw [HGE.out]; exact Nat.le_refl _) (.int .i64 1))
        clear hpe hkk hs
        go_wp2_with fail
        exact ⟨⟨k + 1, by omega, by omega, by push_cast; rfl, HR2, HB2⟩, by simp only [intOf]; omega⟩
      · obtain rfl : n = k := by omega
        have v0 := HR.out.cell 0 (by rw [sqT_len]; omega)
        generalize hz : (sqT n (n - 1)).getD 0 0 = z0 at v0
        clear hz
        have vf := HR.out.frozen 0
        have HR3 := Lib.hid (HR.out.set 0 1)
        have HB3 := Lib.hid (HB.out.setCell (p := ⟨g, 0, none⟩) (by rw [HGE.out]; exact Nat.le_refl _) (.int .i64 1))
        have HZ : Hid (∃ wz, wz = (if ((n : Int) % 8 == 1) = true then wr.setCell ⟨g, 0, none⟩ (.int .i64 1) else wr) ∧ RI wz g (resW n) ∧ Below w1.heap.size w1 wz) := hid' (by
          refine ⟨_, rfl, ?_⟩
          rw [HRE.out, e8]
          first
            | exact ⟨HR3.out, HB3.out⟩
            | exact ⟨HR.out, HB.out⟩)
        rw [e8] at HZ
        clear HRE HR3 HB3
        go_upto_region 10 with fail
        obtain ⟨wz, hwz, hrz, hbz⟩ := HZ.out
        clear HZ
        first
          | rw [if_pos rfl] at hwz
          | rw [if_neg (by decide)] at hwz
        rw [← hwz]
        clear hwz v0 vf HR HB
        have hrs := hrz.si (by rw [HRL.out]; omega) HRI.out
        rw [HRL.out] at hrs
        have HZS := Lib.hid hrs
        have HBZ := Lib.hid (bl_trans HB1.out hbz); have HRBZ := Lib.hid (HRB1.out.belowS hbz)
        clear hrs hrz hbz
        go_wp2_with fail
        refine (binary_any _).mono ?_
        rintro e w4 ⟨rfl, hb4⟩
        have HS4 := Lib.hid (HZS.out.below hb4 (Nat.le_refl _)); have HB4 := Lib.hid (bl_trans HBZ.out hb4); have HRB4 := Lib.hid (HRBZ.out.belowS hb4)
        clear hb4
        go_wp2_with fail
        refine (HSH.out _ _ HS4.out).mono ?_
        rintro e w5 ⟨u5, g5, rfl, hx5, hb5⟩
        obtain ⟨⟨MA, mc, rfl, _⟩, ⟨DA, dc, rfl, _⟩⟩ := hx5.out
        have HX5 : Hid (Sep w4.heap.size w5 fun w9 => SI w9 (.slice MA 0 mc) [] ∧ SS w9 (.slice DA C.length dc) C) := hid' hx5
        have HB5 := Lib.hid (bl_trans HB4.out hb5); have HRB5 := Lib.hid (HRB4.out.belowS hb5)
        have hlt4 := HRB4.out.lt
        clear hx5 hb5
        generalize C.length = dl at *
        obtain ⟨d0, d1, d2, d3, d4, f0, f1, f2, f3, f4⟩ := HRB5.out.five
        go_wp2_with fail
        obtain ⟨w9, h9, HL⟩ := lay5 (x := .int .i64 2) (y := .int .i64 1) (z := .slice MA 0 mc) (u := .int .i64 (n : Int)) (v := .slice DA dl dc) HRB5.out
        rw [h9]
        have q0 := HL.c0; have q1 := HL.c1; have q2 := HL.c2; have q3 := HL.c3; have q4 := HL.c4
        refine bodyPost_ret (v := .tuple #[.agg #[.int .i64 2, .int .i64 1, .slice MA 0 mc, .int .i64 (n : Int), .slice DA dl dc], .int .i64 0]) (by simp [results, Try.results11, go_sem, q0, q1, q2, q3, q4]) rfl ?_
        exact ⟨_, _, rfl, (HX5.out.grown HL.gr (by rintro b e; cases e; omega)).mono HB4.out.size, HL.below HB5.out HB5.out.size (Nat.le_refl _)⟩
end Go.Proofs.Ytlcgihjdafglmaa

/- Plain: the residue codes' symmetries. -/
namespace Go.Proofs.Ytlcgihjdafglmaa
open Go.RowKit
set_option linter.unusedVariables false
set_option maxRecDepth 100000

/-- an entry of a shift -/
theorem shR_at {ws : List Int} {k i : Nat} (hk : k < ws.length) (hi : i < ws.length) : (shR ws k).getD i 0 = ws.getD ((i + (ws.length - k)) % ws.length) 0 := by
  unfold shR
  by_cases h : i < k
  · have hl : i < (ws.drop (ws.length - k)).length := by rw [List.length_drop]; omega
    simp only [List.getD]
    rw [List.getElem?_append_left hl, List.getElem?_drop, Nat.mod_eq_of_lt (by omega), Nat.add_comm]
  · have hl : (ws.drop (ws.length - k)).length = k := by rw [List.length_drop]; omega
    simp only [List.getD]
    rw [List.getElem?_append_right (by omega), hl, List.getElem?_take, if_pos (by omega), show i + (ws.length - k) = (i - k) + ws.length by omega, Nat.add_mod_right, Nat.mod_eq_of_lt (by omega)]
def wLit : Nat → List Int
  | 7 => [0,1,1,0,1,0,0]
  | 17 => [1,1,1,0,1,0,0,0,1,1,0,0,0,1,0,1,1]
  | 23 => [0,1,1,1,1,0,1,0,1,1,0,0,1,1,0,0,1,0,1,0,0,0,0]
  | 31 => [0,1,1,0,1,1,0,1,1,1,1,0,0,0,1,0,1,0,1,1,1,0,0,0,0,1,0,0,1,0,0]
  | 41 => [1,1,1,0,1,1,0,0,1,1,1,0,0,0,0,0,1,0,1,0,1,1,0,1,0,1,0,0,0,0,0,1,1,1,0,0,1,1,0,1,1]
  | 47 => [0,1,1,1,1,0,1,1,1,1,0,0,1,0,1,0,1,1,1,0,0,1,0,0,1,1,0,1,1,0,0,0,1,0,1,0,1,1,0,0,0,0,1,0,0,0,0]
  | _ => []
theorem resW_23 : resW 23 = wLit 23 := by decide +kernel
end Go.Proofs.Ytlcgihjdafglmaa

/- The points of projective space as numbers and their words. No program in sight. -/
namespace Go.Proofs.Ytlcgihjdafglmaa

theorem rowOf_set {N k : Nat} {f : Nat → Int} {x : Int} : (rowOf N f).set k x = rowOf N fun i => if i = k then x else f i := by
  apply List.ext_getElem?
  intro i
  by_cases hi : i < N
  · by_cases e : k = i
    · subst e; simp [rowOf, hi]
    · have e' : ¬ i = k := fun h => e h.symm
      simp [rowOf, List.getElem?_set, e, e', hi]
  · simp [rowOf, List.getElem?_set, hi]
end Go.Proofs.Ytlcgihjdafglmaa

/- ref15.Squares, ref15.shifts, ref15.Residue. -/
namespace Go.Proofs.Ytlcgihjdafglmaa
open Go.RowKit
set_option linter.unusedVariables false
set_option maxRecDepth 100000

theorem mod_two {x n : Nat} (h : x < 2 * n) : x % n = if x < n then x else x - n := by
  by_cases e : x < n
  · rw [if_pos e, Nat.mod_eq_of_lt e]
  · rw [if_neg e, Nat.mod_eq_sub_mod (by omega), Nat.mod_eq_of_lt (by omega)]
/-- a shift of es by k, behind i entries -/
def shT (n : Nat) (es : List Int) (k i : Nat) : List Int := rowOf n fun p => if (p + (n - k)) % n < i then es.getD ((p + (n - k)) % n) 0 else 0
theorem shT_len (n : Nat) (es : List Int) (k i : Nat) : (shT n es k i).length = n := rowOf_len _ _
theorem shT_zero (n : Nat) (es : List Int) (k : Nat) : shT n es k 0 = List.replicate n 0 := by
  rw [← rowOf_zero]; exact rowOf_congr fun p hp => by rw [if_neg (by omega)]
theorem shT_set {n k i : Nat} {es : List Int} (hk : k < n) (hi : i < n) : (shT n es k i).set ((i + k) % n) (es.getD i 0) = shT n es k (i + 1) := by
  unfold shT
  rw [rowOf_set]
  refine rowOf_congr fun p hp => ?_
  have h1 := mod_two (x := i + k) (n := n) (by omega)
  have h2 := mod_two (x := p + (n - k)) (n := n) (by omega)
  by_cases e : p = (i + k) % n
  · have e2 : (p + (n - k)) % n = i := by
      rw [h2, e, h1]; split <;> split <;> omega
    rw [if_pos e, if_pos (by omega), e2]
  · have e2 : (p + (n - k)) % n ≠ i := by
      rw [h2]; rw [h1] at e; intro h3
      split at h3 <;> split at e <;> omega
    rw [if_neg e]
    by_cases h3 : (p + (n - k)) % n < i
    · rw [if_pos h3, if_pos (by omega)]
    · rw [if_neg h3, if_neg (by omega)]
theorem shT_full {n k : Nat} {es : List Int} (hn : es.length = n) (hk : k < n) : shT n es k n = shR es k := by
  refine List.ext_getElem (by rw [shT_len, shR_len, hn]) fun p h1 h2 => ?_
  rw [shT_len] at h1
  have e1 : (shT n es k n)[p] = (shT n es k n).getD p 0 := by simp [List.getD, shT_len, h1]
  have e2 : (shR es k)[p] = (shR es k).getD p 0 := by simp [List.getD, h2]
  rw [e1, e2, shR_at (by omega) (by omega), hn]
  unfold shT
  rw [rowOf_getD h1, if_pos (Nat.mod_lt _ (by omega))]

set_option maxHeartbeats 8000000 in
theorem rSq_any (w : World) (n : Nat) (h1 : 1 ≤ n) (h64 : n ≤ 64) : Calls Try.prog 39 #[.int .i64 (n : Int)] w (fun e w' => ∃ g, w.heap.size ≤ g ∧ e = .returned (.slice (some ⟨g, 0, none⟩) n n) ∧ RI w' g (sqT n (n - 1)) ∧ Below w.heap.size w w') := by
  have hmk := fun (w : World) => run_mkI n (by omega) w
  have HR0 : Hid (RI (w.alloc (.cells (madeCells #[.int .i64 0] n) 3)) w.heap.size (sqT n 0)) := RI.made w n
  have HBA := Lib.hid (bl_alloc w (.cells (madeCells #[.int .i64 0] n) 3))
  have hn0 : ¬ (n : Int) = 0 := by omega
  go_enter Try.func39, Try.ntmps39
  go_wp2_with fail
  clear hmk
  obtain ⟨g, hg⟩ : ∃ g, g = w.heap.size := ⟨_, rfl⟩
  have HGE := Lib.hid hg
  rw [← hg] at HR0 ⊢
  clear hg
  go_loopw [4] (fun i wr => ∃ k : Nat, 1 ≤ k ∧ k ≤ n ∧ i = .int .i64 (k : Int) ∧ Hid (RI wr g (sqT n (k - 1))) ∧ Hid (Below w.heap.size w wr)) (fun i _ => n - (intOf i).toNat)
  case atStart => exact ⟨1, Nat.le_refl _, by omega, rfl, HR0, HBA⟩
  case round =>
    clear HR0 HBA
    obtain ⟨k, hk1, hk, rfl, HR, HB⟩ := hrel
    by_cases hkn : k < n
    · obtain ⟨p, hpe⟩ : ∃ p, p = k * k % n := ⟨_, rfl⟩
      have hpn : p < n := by rw [hpe]; exact Nat.mod_lt _ (by omega)
      have hkk : k * k ≤ 4096 := Nat.mul_le_mul (show k ≤ 64 by omega) (show k ≤ 64 by omega)
      obtain ⟨s, hs⟩ : ∃ s, s = k * k := ⟨_, rfl⟩
      have hss : (k : Int) * (k : Int) = (s : Int) := by rw [hs]; push_cast; rfl
      have hpi : (s : Int) % (n : Int) = (p : Int) := by rw [hs, hpe]; push_cast; rfl
      have hw1 : IntKind.i64.wrap (s : Int) = (s : Int) := IntWalk.i64_in _ (by omega)
      have hw2 : wrap64 (s : Int) = (s : Int) := by unfold wrap64; omega
      have HST : Hid ((sqT n (k - 1)).set p 1 = sqT n (k + 1 - 1)) := hid' (by
        obtain ⟨j, rfl⟩ : ∃ j, k = j + 1 := ⟨k - 1, by omega⟩
        show _ = sqT n (j + 1)
        rw [sqT, hpe]; rfl)
      have u0 := HR.out.cell p (by rw [sqT_len]; exact hpn)
      generalize hz : (sqT n (k - 1)).getD p 0 = z0 at u0
      clear hz
      have uf := HR.out.frozen p
      have HR2 := Lib.hid (HR.out.set p 1)
      rw [HST.out] at HR2
      have HB2 := Lib.hid (HB.out.setCell (p := ⟨g, p, none⟩) (by rw [HGE.out]; exact Nat.le_refl _) (.int .i64 1))
      clear hpe hkk hs
      go_wp2_with fail
      exact ⟨⟨k + 1, by omega, by omega, by push_cast; rfl, HR2, HB2⟩, by simp only [intOf]; omega⟩
    · obtain rfl : n = k := by omega
      go_wp2_with fail
      go_ret
      exact ⟨g, by rw [HGE.out]; exact Nat.le_refl _, rfl, HR.out, HB.out⟩

set_option maxHeartbeats 16000000 in
theorem rShf_any (w : World) (v : Value) (ws : List Int) (n : Nat) (hv : SI w v ws) (hlen : ws.length = n) (h1 : 1 ≤ n) (h64 : n ≤ 64) : Calls Try.prog 42 #[v] w (RetNu w (shL ws)) := by
  have HV := Lib.hid hv
  obtain ⟨VA, vc, rfl, _⟩ := hv
  rw [hlen] at HV ⊢
  have HL := Lib.hid hlen; clear hlen
  have HTS : Hid (∀ k, k < n → ((List.range (k + 1)).map (shR ws)) = ((List.range k).map (shR ws)) ++ [shR ws k]) := hid' fun k _ => by rw [List.range_succ, List.map_append]; rfl
  have HEND : Hid ((List.range n).map (shR ws) = shL ws) := hid' (by unfold shL; rw [HL.out])
  have HFU : Hid (∀ k, k < n → shT n ws k n = shR ws k) := hid' fun k hk => shT_full HL.out hk
  have HLN : Hid (∀ k, ((List.range k).map (shR ws)).length = k) := hid' fun k => by simp
  have HRL : Hid (∀ k, (shR ws k).length = n) := hid' fun k => by rw [shR_len, HL.out]
  have HWS : Hid (∀ k i, I64 ((shR ws k).getD i 0)) := hid' fun k i => shR_all (Q := I64) I64.zero HV.out.wfs k i
  have HOS0 := Lib.hid (OS.empty (B := w.heap.size) (X := fun g => g < w.heap.size) w (Nat.le_refl _))
  have HB00 := Lib.hid (bl_alloc w (.cells #[] 22))
  have hn0 : ¬ n = 0 := by omega
  go_enter Try.func42, Try.ntmps42
  go_wp2_with fail
  go_loopw [3, 4] (fun out i wr => ∃ (k : Nat) (OA : Option Addr) (oc : Nat), k ≤ n ∧ i = .int .i64 (k : Int) ∧ out = .slice OA k oc ∧ Hid (OS w.heap.size (fun g => g < w.heap.size) wr (.slice OA k oc) ((List.range k).map (shR ws))) ∧ Hid (Below w.heap.size w wr)) (fun _ i _ => n - (intOf i).toNat)
  case atStart => exact ⟨0, _, _, Nat.zero_le _, rfl, rfl, HOS0, HB00⟩
  case round =>
    clear HOS0 HB00
    obtain ⟨k, OA, oc, hk, rfl, rfl, HO, HB⟩ := hrel
    by_cases hkn : k < n
    · generalize wr = wo at *
      have hmk := fun (w : World) => run_mkI n (by omega) w
      have HR0 : Hid (RI (wo.alloc (.cells (madeCells #[.int .i64 0] n) 3)) wo.heap.size (shT n ws k 0)) := hid' (by rw [shT_zero]; exact RI.made wo n)
      have HBA := Lib.hid (bl_alloc wo (.cells (madeCells #[.int .i64 0] n) 3))
      go_wp2_with fail
      clear hmk
      obtain ⟨g, hg⟩ : ∃ g, g = wo.heap.size := ⟨_, rfl⟩
      have HGE := Lib.hid hg
      rw [← hg] at HR0 ⊢
      clear hg
      go_loopw [6] (fun i ws' => ∃ j : Nat, j ≤ n ∧ i = .int .i64 (j : Int) ∧ Hid (RI ws' g (shT n ws k j)) ∧ Hid (Below wo.heap.size wo ws')) (fun i _ => n - (intOf i).toNat)
      case atStart => exact ⟨0, Nat.zero_le _, rfl, HR0, HBA⟩
      case round =>
        clear HR0 HBA
        obtain ⟨j, hj, rfl, HR, HBr⟩ := hrel
        by_cases hjn : j < n
        · obtain ⟨t, ht⟩ : ∃ t, t = j + k := ⟨_, rfl⟩
          have htt : (j : Int) + (k : Int) = (t : Int) := by rw [ht]; push_cast; rfl
          have hwt : IntKind.i64.wrap (t : Int) = (t : Int) := IntWalk.i64_in _ (by omega)
          obtain ⟨p, hp⟩ : ∃ p, p = t % n := ⟨_, rfl⟩
          have hpp : (t : Int) % (n : Int) = (p : Int) := by rw [hp]; push_cast; rfl
          have hpt : (t : Int).tmod (n : Int) = (p : Int) := by rw [Int.tmod_eq_emod_of_nonneg (by omega)]; exact hpp
          have hpn : p < n := by rw [hp]; exact Nat.mod_lt _ (by omega)
          have HPE : Hid (p = (j + k) % n) := hid' (by rw [hp, ht])
          clear ht hp
          obtain ⟨wd, x, rfl, hxc, _, HX⟩ := (HV.out.below (bl_trans HB.out HBr.out) (Nat.le_refl _)).elt (k := j) (by rw [HL.out]; exact hjn)
          have HST : Hid ((shT n ws k j).set p x = shT n ws k (j + 1)) := hid' (by rw [← shT_set hkn hjn, ← HPE.out, HX.out])
          have u0 := HR.out.cell p (by rw [shT_len]; exact hpn)
          generalize hz : (shT n ws k j).getD p 0 = z0 at u0
          clear hz
          have uf := HR.out.frozen p
          have HR2 := Lib.hid (HR.out.set p x)
          rw [HST.out] at HR2
          have HB2 := Lib.hid (HBr.out.setCell (p := ⟨g, p, none⟩) (by rw [HGE.out]; exact Nat.le_refl _) (.int .i64 x))
          go_wp2_with fail
          refine Drawn.start (S := fun w' => w'.cell? (wd.add j) = some (.int .i64 x) ∧ w'.cell? ⟨g, p, none⟩ = some (.int .i64 z0)) (by kernel_rfl) (⟨hxc, u0⟩) (fun hHeld => ?_)
          change Drawn _ _ _ _ 13 _ _ _
          refine Drawn.take (i := 0) (v := ?_) rfl (by kernel_rfl) (by kernel_rfl) (by kernel_rfl) (by kernel_rfl) (fun _ _ _ h => h) (Or.inl ⟨by kernel_rfl, ?_⟩) hHeld ?_
          rotate_left
          · intro w' hSw; (try dsimp only at hSw); first | (go_simp; done) | (go_simp; with_reducible rfl)
          try simp only [List.getElem_toArray, List.getElem_cons_zero, List.getElem_cons_succ, Act.put, List.setIfInBounds_toArray, List.set_cons_zero, List.set_cons_succ]
          refine Drawn.take (i := 1) (v := ?_) rfl (by kernel_rfl) (by kernel_rfl) (by kernel_rfl) (by kernel_rfl) (fun _ _ _ h => h) (Or.inl ⟨by kernel_rfl, ?_⟩) hHeld ?_
          rotate_left
          · intro w' hSw; (try dsimp only at hSw); first | (go_simp; done) | (go_simp; with_reducible rfl)
          try simp only [List.getElem_toArray, List.getElem_cons_zero, List.getElem_cons_succ, Act.put, List.setIfInBounds_toArray, List.set_cons_zero, List.set_cons_succ]
          refine Drawn.take (i := 2) (v := ?_) rfl (by kernel_rfl) (by kernel_rfl) (by kernel_rfl) (by kernel_rfl) (fun _ _ _ h => h) (Or.inl ⟨by kernel_rfl, ?_⟩) hHeld ?_
          rotate_left
          · intro w' hSw; (try dsimp only at hSw); first | (go_simp; done) | (go_simp; with_reducible rfl)
          try simp only [List.getElem_toArray, List.getElem_cons_zero, List.getElem_cons_succ, Act.put, List.setIfInBounds_toArray, List.set_cons_zero, List.set_cons_succ]
          refine Drawn.take (i := 3) (v := ?_) rfl (by kernel_rfl) (by kernel_rfl) (by kernel_rfl) (by kernel_rfl) (fun _ _ _ h => h) (Or.inl ⟨by kernel_rfl, ?_⟩) hHeld ?_
          rotate_left
          · intro w' hSw; (try dsimp only at hSw); first | (go_simp; done) | (go_simp; with_reducible rfl)
          try simp only [List.getElem_toArray, List.getElem_cons_zero, List.getElem_cons_succ, Act.put, List.setIfInBounds_toArray, List.set_cons_zero, List.set_cons_succ]
          refine Drawn.take (i := 4) (v := ?_) rfl (by kernel_rfl) (by kernel_rfl) (by kernel_rfl) (by kernel_rfl) (fun _ _ _ h => h) (Or.inl ⟨by kernel_rfl, ?_⟩) hHeld ?_
          rotate_left
          · intro w' hSw; (try dsimp only at hSw); first | (go_simp; done) | (go_simp; with_reducible rfl)
          try simp only [List.getElem_toArray, List.getElem_cons_zero, List.getElem_cons_succ, Act.put, List.setIfInBounds_toArray, List.set_cons_zero, List.set_cons_succ]
          refine Drawn.take (i := 5) (v := ?_) rfl (by kernel_rfl) (by kernel_rfl) (by kernel_rfl) (by kernel_rfl) (fun _ _ _ h => h) (Or.inl ⟨by kernel_rfl, ?_⟩) hHeld ?_
          rotate_left
          · intro w' hSw; (try dsimp only at hSw); first | (go_simp; done) | (go_simp; with_reducible rfl)
          try simp only [List.getElem_toArray, List.getElem_cons_zero, List.getElem_cons_succ, Act.put, List.setIfInBounds_toArray, List.set_cons_zero, List.set_cons_succ]
          refine Drawn.take (i := 6) (v := ?_) rfl (by kernel_rfl) (by kernel_rfl) (by kernel_rfl) (by kernel_rfl) (fun _ _ _ h => h) (Or.inl ⟨by kernel_rfl, ?_⟩) hHeld ?_
          rotate_left
          · intro w' hSw; (try dsimp only at hSw); first | (go_simp; done) | (go_simp; with_reducible rfl)
          try simp only [List.getElem_toArray, List.getElem_cons_zero, List.getElem_cons_succ, Act.put, List.setIfInBounds_toArray, List.set_cons_zero, List.set_cons_succ]
          refine Drawn.take (i := 7) (v := ?_) rfl (by kernel_rfl) (by kernel_rfl) (by kernel_rfl) (by kernel_rfl) (fun _ _ _ h => h) (Or.inl ⟨by kernel_rfl, ?_⟩) hHeld ?_
          rotate_left
          · intro w' hSw; (try dsimp only at hSw); first | (go_simp; done) | (go_simp; with_reducible rfl)
          try simp only [List.getElem_toArray, List.getElem_cons_zero, List.getElem_cons_succ, Act.put, List.setIfInBounds_toArray, List.set_cons_zero, List.set_cons_succ]
          refine Drawn.take (i := 8) (v := ?_) rfl (by kernel_rfl) (by kernel_rfl) (by kernel_rfl) (by kernel_rfl) (fun _ _ _ h => h) (Or.inl ⟨by kernel_rfl, ?_⟩) hHeld ?_
          rotate_left
          · intro w' hSw; (try dsimp only at hSw); first | (go_simp; done) | (go_simp; with_reducible rfl)
          try simp only [List.getElem_toArray, List.getElem_cons_zero, List.getElem_cons_succ, Act.put, List.setIfInBounds_toArray, List.set_cons_zero, List.set_cons_succ]
          refine Drawn.take (i := 9) (v := ?_) rfl (by kernel_rfl) (by kernel_rfl) (by kernel_rfl) (by kernel_rfl) (fun _ _ _ h => h) (Or.inl ⟨by kernel_rfl, ?_⟩) hHeld ?_
          rotate_left
          · intro w' hSw; (try dsimp only at hSw); first | (go_simp; done) | (go_simp; with_reducible rfl)
          try simp only [List.getElem_toArray, List.getElem_cons_zero, List.getElem_cons_succ, Act.put, List.setIfInBounds_toArray, List.set_cons_zero, List.set_cons_succ]
          refine Drawn.take (i := 10) (v := ?_) rfl (by kernel_rfl) (by kernel_rfl) (by kernel_rfl) (by kernel_rfl) (fun _ _ _ h => h) (Or.inl ⟨by kernel_rfl, ?_⟩) hHeld ?_
          rotate_left
          · intro w' hSw; (try dsimp only at hSw); first | (go_simp; done) | (go_simp; with_reducible rfl)
          try simp only [List.getElem_toArray, List.getElem_cons_zero, List.getElem_cons_succ, Act.put, List.setIfInBounds_toArray, List.set_cons_zero, List.set_cons_succ]
          refine Drawn.take (i := 11) (v := ?_) rfl (by kernel_rfl) (by kernel_rfl) (by kernel_rfl) (by kernel_rfl) (fun _ _ _ h => h) (Or.inl ⟨by kernel_rfl, ?_⟩) hHeld ?_
          rotate_left
          · intro w' hSw; (try dsimp only at hSw); first | (go_simp; done) | (go_simp; with_reducible rfl)
          try simp only [List.getElem_toArray, List.getElem_cons_zero, List.getElem_cons_succ, Act.put, List.setIfInBounds_toArray, List.set_cons_zero, List.set_cons_succ]
          refine Drawn.only (i := 12) (by kernel_rfl) rfl (fun K hK => ?_)
          go_simp
          refine hK.out _ _ (fun h => absurd rfl h) (fun hHeld2 => ?_)
          clear hK K
          clear hHeld2
          refine Drawn.done (by kernel_rfl) ?_
          try simp only [List.getElem_toArray, List.getElem_cons_zero, List.getElem_cons_succ, Act.put, List.setIfInBounds_toArray, List.set_cons_zero, List.set_cons_succ]
          clear hHeld
          go_wp2_with fail
          exact ⟨⟨j + 1, by omega, by push_cast; rfl, HR2.out.drew, HB2.out.drew⟩, by simp only [intOf]; omega⟩
        · obtain rfl : n = j := by omega
          rw [HFU.out k hkn] at HR
          have hs1 := HB.out.size
          have hs2 := HBr.out.size
          have hoi := HR.out.oi (B := wo.heap.size) (by rw [HGE.out]; exact Nat.le_refl _) (by rw [HRL.out]; omega)
          have hcs := HR.out.si (by rw [HRL.out]; omega) (HWS.out k)
          rw [HRL.out] at hoi hcs
          have HC := Lib.hid hoi; have HCS := Lib.hid hcs; clear hoi hcs
          have HOA := Lib.hid ((HO.out.below HBr.out).alloc (.cells #[.slice (some ⟨g, 0, none⟩) n n] 22))
          have HBX := Lib.hid (box1 (w := wr) (u := .slice (some ⟨g, 0, none⟩) n n) (t := 22))
          have HXA := Lib.hid (HCS.out.below (bl_alloc wr (.cells #[.slice (some ⟨g, 0, none⟩) n n] 22)) (Nat.le_refl _))
          have HUP := Lib.hid (up_alloc (w := wr) (B := w.heap.size) (by omega) (.cells #[.slice (some ⟨g, 0, none⟩) n n] 22))
          have HBA := Lib.hid ((bl_trans HB.out HBr.out).alloc (by omega) (.cells #[.slice (some ⟨g, 0, none⟩) n n] 22))
          have HNB : Hid (∀ b, (Value.slice (some ⟨g, 0, none⟩) n n).ownBlock = some b → wo.heap.size ≤ b) := hid' fun b hb => (HC.out.lt hb).1
          have HOL : Hid (∀ b, (Value.slice OA k oc).ownBlock = some b → b < wo.heap.size) := hid' fun b hb => (HO.out.lt hb).2
          have HTK := Lib.hid (HTS.out k hkn)
          clear HCS HC HO HR
          go_wp2_with (at_builtin; refine wpList_pushS rfl _ _ rfl w.heap.size (fun g => g < w.heap.size) _ ((List.range k).map (shR ws)) rfl HOA.out wr.heap.size 1 _ (shR ws k) rfl HBX.out HXA.out (fun _ b hg => ⟨fun e => by have h1 := HNB.out b hg; have h2 := HOL.out b e; omega, by have h1 := HNB.out b hg; show ¬ b < w.heap.size; omega⟩) (by rw [HLN.out]; omega) HUP.out ?_; (intro v5 w8 ho5 hg5 hv5); (rw [← HTK.out] at ho5); (have HB8 := Lib.hid (HOA.out.bgrown HBA.out HUP.out hg5)); (obtain ⟨A5, c5, rfl⟩ := ho5.form); (rw [HLN.out] at ho5 ⊢); (have HO8 := Lib.hid ho5); clear ho5 hg5 hv5)
          exact ⟨⟨k + 1, A5, c5, by omega, by push_cast; rfl, rfl, HO8, HB8⟩, by simp only [intOf]; omega⟩
    · obtain rfl : n = k := by omega
      rw [HEND.out] at HO
      have HSS := Lib.hid (HO.out.sep (fun g hg => hg) (by rw [shL_len, HL.out]; omega))
      go_wp2_with fail
      go_ret
      exact ⟨_, rfl, HSS.out, HO.out, HB.out⟩
end Go.Proofs.Ytlcgihjdafglmaa

/- Plain: a word of a residue code, turned, is a word of it. -/
namespace Go.Proofs.Ytlcgihjdafglmaa
open Go.RowKit
set_option linter.unusedVariables false
set_option maxRecDepth 100000

theorem res_rows (n : Nat) : Rows 2 n (shL (resW n)) := by
  have h := shL_rows (q := 2) (by decide) (ws := resW n) (resW_bit n)
  rwa [resW_len] at h
end Go.Proofs.Ytlcgihjdafglmaa

/- Plain: sums over a prime field; codes of cyclic shifts by literal systematic rows. -/
namespace Go.Proofs.Ytlcgihjdafglmaa
set_option linter.unusedVariables false

/-- the operations are those of the residues -/
structure Pf (O : FOps) (p : Nat) : Prop where
  fld : O.Fld (p : Int)
  add : ∀ x y : Int, 0 ≤ x → x < p → 0 ≤ y → y < p → O.add x y = (x + y) % (p : Int)
  mul : ∀ x y : Int, 0 ≤ x → x < p → 0 ≤ y → y < p → O.mul x y = (x * y) % (p : Int)
theorem pf2 : Pf (refOps 2 1 []) 2 := ⟨two_fld, fun x y hx0 hx1 hy0 hy1 => by
    show addF 2 1 x y = _
    rw [add21, bit_self hx0 hx1, bit_self hy0 hy1]; rfl, fun x y hx0 hx1 hy0 hy1 => by
    show mulR 2 1 [] x y = _
    rw [mul21, bit_self hx0 hx1, bit_self hy0 hy1]
    have h1 : x = 0 ∨ x = 1 := by omega
    have h2 : y = 0 ∨ y = 1 := by omega
    rcases h1 with rfl | rfl <;> rcases h2 with rfl | rfl <;> rfl⟩
theorem order31 : orderF 3 1 = 3 := by decide
theorem prime_three (d : Int) (h1 : 2 ≤ d) (h2 : d < 3) : (3 : Int) % d ≠ 0 := by
  have e : d = 2 := by omega
  rw [e]; decide
theorem field31 : FieldP 3 1 [] := ⟨by rw [order31]; decide, ⟨by decide, prime_three⟩, ⟨fun _ => rfl, fun h => absurd rfl h⟩, fun h => absurd rfl h⟩
theorem pf3 : Pf (refOps 3 1 []) 3 := ⟨by have h := ref_fld field31; rw [order31] at h; exact h, fun x y hx0 hx1 hy0 hy1 => by
    have h1 : x = 0 ∨ x = 1 ∨ x = 2 := by omega
    have h2 : y = 0 ∨ y = 1 ∨ y = 2 := by omega
    rcases h1 with rfl | rfl | rfl <;> rcases h2 with rfl | rfl | rfl <;> decide +kernel, fun x y hx0 hx1 hy0 hy1 => by
    have h1 : x = 0 ∨ x = 1 ∨ x = 2 := by omega
    have h2 : y = 0 ∨ y = 1 ∨ y = 2 := by omega
    rcases h1 with rfl | rfl | rfl <;> rcases h2 with rfl | rfl | rfl <;> decide +kernel⟩
/-- a sum of naturals -/
def sumN (f : Nat → Nat) : Nat → Nat
  | 0 => 0
  | n + 1 => sumN f n + f n
theorem Pf.sum {O : FOps} {p : Nat} (hP : Pf O p) {f g : Nat → Nat} (hf : ∀ i, f i < p) (hg : ∀ i, g i < p) : ∀ n, sumTo O (fun i => O.mul (f i : Int) (g i : Int)) n = ((sumN (fun i => f i * g i) n % p : Nat) : Int)
  | 0 => by
    have := hf 0
    show (0 : Int) = ((0 % p : Nat) : Int)
    rw [Nat.zero_mod]; rfl
  | n + 1 => by
    have hp : 0 < p := Nat.lt_of_le_of_lt (Nat.zero_le _) (hf 0)
    have h1 := Nat.mod_lt (sumN (fun i => f i * g i) n) hp
    have h2 := Nat.mod_lt (f n * g n) hp
    have h3 := hf n; have h4 := hg n
    rw [sumTo, hP.sum hf hg n, hP.mul _ _ (by omega) (by omega) (by omega) (by omega), ← Int.natCast_mul, ← Int.natCast_emod, hP.add _ _ (by omega) (by omega) (by omega) (by omega), sumN, Nat.add_mod (sumN _ n)]
    push_cast
    rfl
def dgt (p m j : Nat) : Nat := m / p ^ j % p
theorem dgt_lt {p : Nat} (hp : 0 < p) (m j : Nat) : dgt p m j < p := Nat.mod_lt _ hp
/-- the digits of a number as a row -/
def digL (p n m : Nat) : List Int := rowOf n fun j => (dgt p m j : Int)
theorem digL_len (p n m : Nat) : (digL p n m).length = n := rowOf_len _ _
theorem digL_at {p n m j : Nat} (h : j < n) : (digL p n m).getD j 0 = (dgt p m j : Int) := rowOf_getD h
theorem digL_rng {p n m : Nat} (hp : 0 < p) (j : Nat) : 0 ≤ (digL p n m).getD j 0 ∧ (digL p n m).getD j 0 < (p : Int) := by
  by_cases h : j < n
  · rw [digL_at h]; have := dgt_lt hp m j; omega
  · rw [getD_len (by rw [digL_len]; omega)]; omega
theorem mapD_at (p n : Nat) (Bm : List Nat) {k : Nat} (h : k < Bm.length) : (Bm.map (digL p n)).getD k [] = digL p n (Bm.getD k 0) := by
  simp [List.getD, h]
theorem mapD_rows {p : Nat} (hp : 0 < p) (n : Nat) (Bm : List Nat) : Rows (p : Int) n (Bm.map (digL p n)) := fun k hk => by
  rw [List.length_map] at hk
  rw [mapD_at p n Bm hk]
  exact ⟨digL_len _ _ _, digL_rng hp⟩
theorem mapD_ent {p n : Nat} {Bm : List Nat} {k j : Nat} (h : k < Bm.length) (hj : j < n) : ent (Bm.map (digL p n)) k j = (dgt p (Bm.getD k 0) j : Int) := by
  unfold ent; rw [mapD_at p n Bm h, digL_at hj]
/-- the systematic rows Bm generate the code of the shifts of wm; Cm says how the shifts give them -/
def sysChk (p n K wm : Nat) (Bm Cm : List Nat) : Bool :=
  Bm.length == K && ((List.range n).all fun i => (List.range n).all fun j => sumN (fun k => dgt p wm ((k + (n - i)) % n) * dgt p (Bm.getD k 0) j) K % p == dgt p wm ((j + (n - i)) % n)) &&
  ((List.range K).all fun k => (List.range n).all fun j => sumN (fun i => dgt p (Cm.getD k 0) i * dgt p wm ((j + (n - i)) % n)) n % p == dgt p (Bm.getD k 0) j) &&
  ((List.range K).all fun k => (List.range K).all fun l => dgt p (Bm.getD k 0) l == if k = l then 1 else 0)
theorem shD_ent {p n wm : Nat} {i j : Nat} (hi : i < n) (hj : j < n) : ent (shL (digL p n wm)) i j = (dgt p wm ((j + (n - i)) % n) : Int) := by
  have e : (shL (digL p n wm)).getD i [] = shR (digL p n wm) i := by unfold shL; simp [List.getD, digL_len, hi]
  unfold ent
  rw [e, shR_at (by rw [digL_len]; exact hi) (by rw [digL_len]; exact hj), digL_len, digL_at (Nat.mod_lt _ (by omega))]
theorem sys_canon {O : FOps} {p n K wm : Nat} {Bm Cm : List Nat} (hP : Pf O p) (hp : 2 ≤ p) (hK : K ≤ n) (h : sysChk p n K wm Bm Cm = true) :
    canonL O (shL (digL p n wm)) n = Bm.map (digL p n) ∧ Bm.length = K ∧ Rref O (p : Int) n (Bm.map (digL p n)) ((List.range K).map fun (k : Nat) => (k : Int)) := by
  unfold sysChk at h
  simp only [Bool.and_eq_true, beq_iff_eq, List.all_eq_true, List.mem_range] at h
  obtain ⟨⟨⟨hl, hA⟩, hB⟩, hI⟩ := h
  have hO := hP.fld
  have hp0 : 0 < p := by omega
  have hAR : Rows (p : Int) n (shL (digL p n wm)) := by
    have := shL_rows (q := (p : Int)) (by omega) (ws := digL p n wm) (fun i => digL_rng hp0 i)
    rwa [digL_len] at this
  have hBR := mapD_rows (p := p) hp0 n Bm
  have hBl : (Bm.map (digL p n)).length = K := by rw [List.length_map, hl]
  have hAl : (shL (digL p n wm)).length = n := by rw [shL_len, digL_len]
  have hpv : ∀ i, i < K → pvt ((List.range K).map fun (k : Nat) => (k : Int)) i = i := fun i hi => by unfold pvt; simp [List.getD, hi]
  have hR : Rref O (p : Int) n (Bm.map (digL p n)) ((List.range K).map fun (k : Nat) => (k : Int)) := by
    refine ⟨hBR, by rw [hBl]; simp, fun i hi => ?_, fun i hi => ?_, fun i k hik hk => ?_, fun i hi => ?_, fun i hi k hne => ?_, fun i hi j hj => ?_⟩
    · rw [hBl] at hi; rw [hpv i hi]; simp [List.getD, hi]
    · rw [hBl] at hi; rw [hpv i hi]; omega
    · rw [hBl] at hk; rw [hpv i (by omega), hpv k hk]; exact hik
    · rw [hBl] at hi; rw [hpv i hi, mapD_ent (by omega) (by omega), hI i hi i hi, if_pos rfl]; rfl
    · rw [hBl] at hi; rw [hpv i hi]
      by_cases hk : k < K
      · rw [mapD_ent (by omega) (by omega), hI k hk i hi, if_neg hne]; rfl
      · exact ent_ge (by rw [hBl]; omega) _
    · rw [hBl] at hi; rw [hpv i hi] at hj
      rw [mapD_ent (by omega) (by omega), hI i hi j (by omega), if_neg (by omega)]; rfl
  refine ⟨?_, hl, hR⟩
  refine Cn.eq hO (Cn.canon hO hAR) ⟨_, hR⟩ fun x => ?_
  rw [canon_span hO hAR]
  refine Alike.span hO ⟨fun i hi => ?_, fun k hk => ?_⟩ x
  · rw [hAl] at hi
    refine ⟨fun k => (dgt p wm ((k + (n - i)) % n) : Int), fun j => ?_⟩
    rw [hBl]
    by_cases hj : j < n
    · rw [shD_ent hi hj, ← hA i hi j hj, ← hP.sum (fun k => dgt_lt hp0 _ _) (fun k => dgt_lt hp0 _ _)]
      refine sumTo_congr fun k hk => ?_
      rw [mapD_ent (by omega) hj]
    · rw [ent_wide hAR (by omega)]
      exact (sumTo_zero hO fun k hk => by rw [ent_wide hBR (by omega)]; exact hO.mul_zero _).symm
  · rw [hBl] at hk
    refine ⟨fun i => (dgt p (Cm.getD k 0) i : Int), fun j => ?_⟩
    rw [hAl]
    by_cases hj : j < n
    · rw [mapD_ent (by omega) hj, ← hB k hk j hj, ← hP.sum (fun k => dgt_lt hp0 _ _) (fun k => dgt_lt hp0 _ _)]
      refine sumTo_congr fun i hi => ?_
      rw [shD_ent hi hj]
    · rw [ent_wide hBR (by omega)]
      exact (sumTo_zero hO fun i hi => by rw [ent_wide hAR (by omega)]; exact hO.mul_zero _).symm
end Go.Proofs.Ytlcgihjdafglmaa

/- Plain: the residue codes and the ternary Golay code by systematic rows. Printed by a program (gen_sys.py). -/
namespace Go.Proofs.Ytlcgihjdafglmaa
set_option linter.unusedVariables false
set_option maxRecDepth 100000

def sysB23 : List Nat := [3026945, 6053890, 1503236, 3006472, 6012944, 1683488, 3366976, 6733952, 6533376, 6902272, 8164352, 5707776]
def sysC23 : List Nat := [2630, 19, 2656, 95, 190, 2874, 747, 1494, 490, 2450, 3581, 1315]
theorem sys_23 : sysChk 2 23 12 340830 sysB23 sysC23 = true := by decide +kernel
theorem sysW_23 : wLit 23 = digL 2 23 340830 := by decide +kernel
def sysBG : List Nat := [106435, 116643, 68535, 160407, 56214, 168642]
def sysCG : List Nat := [371, 384, 423, 540, 162, 486]
theorem sys_G : sysChk 3 11 6 389 sysBG sysCG = true := by decide +kernel
theorem sysW_G : ([2, 0, 1, 2, 1, 1, 0, 0, 0, 0, 0] : List Int) = digL 3 11 389 := by decide +kernel
end Go.Proofs.Ytlcgihjdafglmaa

/- ref15.Residue; the program's answer and the document's are the same. -/
namespace Go.Proofs.Ytlcgihjdafglmaa
open Go.RowKit
set_option linter.unusedVariables false
set_option maxRecDepth 100000

set_option maxHeartbeats 32000000 in
theorem rRes_ok (w : World) (n : Nat) (hn : LenOk (n : Int)) : Calls Try.prog 12 #[.int .i64 (n : Int)] w (RetCE w 2 1 [] n (canonL (refOps 2 1 []) (shL (resW n)) n) 0) := by
  have HN : Hid (decide (LenOk (n : Int)) = true) := hid' (decide_eq_true hn)
  obtain ⟨h3, h64, h8, hp⟩ := hn
  have HSH := Lib.hid (fun (w' : World) (v : Value) (hs : SI w' v (resW n)) => rShf_any w' v (resW n) n hs (resW_len n) (by omega) (by omega))
  have HMK := Lib.hid (fun (w' : World) (rv : Value) (hs : SS w' rv (shL (resW n))) => rMake_any w' 2 1 n (.slice none 0 0) rv [] (shL (resW n)) (SI.none_ w') hs (by rw [order21]; decide) ⟨fun _ => rfl, fun h => absurd rfl h⟩ (by rw [order21]; exact res_rows n) (by omega) (by rw [shL_len, resW_len]; omega))
  unfold RetNu at HSH
  unfold RetC at HMK
  generalize canonL (refOps 2 1 []) (shL (resW n)) n = C at *
  generalize shL (resW n) = T at *
  have HRI : Hid (∀ i, I64 ((resW n).getD i 0)) := hid' fun i => by have := resW_bit n i; exact I64.of_small (by omega) (by omega)
  have HRL := Lib.hid (resW_len n)
  have HB0 := Lib.hid (bl_alloc w (.cells #[.int .i64 0, .int .i64 0, .slice none 0 0, .int .i64 0, .slice none 0 0] 27))
  have HRB : Hid (Blk (w.alloc (.cells #[.int .i64 0, .int .i64 0, .slice none 0 0, .int .i64 0, .slice none 0 0] 27)) w.heap.size 27 [.int .i64 0, .int .i64 0, .slice none 0 0, .int .i64 0, .slice none 0 0]) := Blk.new w 27 [.int .i64 0, .int .i64 0, .slice none 0 0, .int .i64 0, .slice none 0 0]
  obtain ⟨w0, hw0⟩ : ∃ w0, w0 = w.alloc (.cells #[.int .i64 0, .int .i64 0, .slice none 0 0, .int .i64 0, .slice none 0 0] 27) := ⟨_, rfl⟩
  rw [← hw0] at HB0 HRB
  have HW0 := Lib.hid hw0.symm
  clear hw0
  have hn64 : n ≤ 64 := by omega
  have hn3 : 3 ≤ n := by omega
  have HRW : Hid (∀ b : Bool, ((n : Int) % 8 == 1) = b → resW n = if b = true then (sqT n (n - 1)).set 0 1 else sqT n (n - 1)) := hid' fun b hb => by
    unfold resW
    cases b
    · rw [if_neg (beq_eq_false_iff_ne.1 hb), if_neg (by decide)]
    · rw [if_pos (beq_iff_eq.1 hb), if_pos rfl]
  clear h3 h64 hp h8
  cases e8 : ((n : Int) % 8 == 1)
  case' false => have e7 : ¬ (n : Int) % 8 = 1 := beq_eq_false_iff_ne.1 e8
  all_goals
    have HRE := Lib.hid (HRW.out _ e8)
    clear HRW
    go_enter Try.func12, Try.ntmps12
    go_upto_region 1 with fail
    rw [HW0.out]
    go_wp2_with fail
    refine (rLen_any _ (n : Int)).mono ?_
    rintro e w1 ⟨rfl, rfl⟩
    rw [HN.out]
    go_wp2_with fail
    refine (rSq_any _ n (by omega) hn64).mono ?_
    rintro e w2 ⟨g, hg, rfl, hri, hb⟩
    have HGE := Lib.hid hg
    have HR := Lib.hid hri
    have HB := Lib.hid hb
    clear hg hri hb
    have v0 := HR.out.cell 0 (by rw [sqT_len]; omega)
    generalize hz : (sqT n (n - 1)).getD 0 0 = z0 at v0
    clear hz
    have vf := HR.out.frozen 0
    have HR3 := Lib.hid (HR.out.set 0 1)
    have HB3 := Lib.hid (HB.out.setCell (p := ⟨g, 0, none⟩) (HGE.out) (.int .i64 1))
    have HZ : Hid (∃ wz, wz = (if ((n : Int) % 8 == 1) = true then w2.setCell ⟨g, 0, none⟩ (.int .i64 1) else w2) ∧ RI wz g (resW n) ∧ Below w0.heap.size w0 wz) := hid' (by
      refine ⟨_, rfl, ?_⟩
      rw [HRE.out, e8]
      first
        | exact ⟨HR3.out, HB3.out⟩
        | exact ⟨HR.out, HB.out⟩)
    rw [e8] at HZ
    clear HRE HR3 HB3
    go_upto_region 6 with fail
    obtain ⟨wz, hwz, hrz, hbz⟩ := HZ.out
    clear HZ
    first
      | rw [if_pos rfl] at hwz
      | rw [if_pos trivial] at hwz
      | rw [if_neg (by decide)] at hwz
    rw [← hwz]
    clear hwz v0 vf HR HB
    have hrs := hrz.si (by rw [HRL.out]; omega) HRI.out
    rw [HRL.out] at hrs
    have HZS := Lib.hid hrs
    have HBZ := Lib.hid (bl_trans HB0.out hbz); have HRBZ := Lib.hid (HRB.out.belowS hbz)
    clear hrs hrz hbz
    go_wp2_with fail
    refine (two_any _).mono ?_
    rintro e w4 ⟨rfl, hb4⟩
    have HS4 := Lib.hid (HZS.out.below hb4 (Nat.le_refl _)); have HB4 := Lib.hid (bl_trans HBZ.out hb4); have HRB4 := Lib.hid (HRBZ.out.belowS hb4)
    clear hb4
    go_wp2_with fail
    refine (HSH.out _ _ HS4.out).mono ?_
    rintro e w6 ⟨u6, rfl, hx6, _, hb6⟩
    have HS6 := Lib.hid hx6.out; have HB6 := Lib.hid (bl_trans HB4.out hb6); have HRB6 := Lib.hid (HRB4.out.belowS hb6)
    clear hx6 hb6
    go_wp2_with fail
    refine (HMK.out _ _ HS6.out).mono ?_
    rintro e w5 ⟨u5, g5, rfl, hx5, hb5⟩
    obtain ⟨⟨MA, mc, rfl, _⟩, ⟨DA, dc, rfl, _⟩⟩ := hx5.out
    have HX5 : Hid (Sep w6.heap.size w5 fun w9 => SI w9 (.slice MA 0 mc) [] ∧ SS w9 (.slice DA C.length dc) C) := hid' hx5
    have HB5 := Lib.hid (bl_trans HB6.out hb5); have HRB5 := Lib.hid (HRB6.out.belowS hb5)
    have hlt4 := HRB6.out.lt
    clear hx5 hb5
    generalize C.length = dl at *
    obtain ⟨d0, d1, d2, d3, d4, f0, f1, f2, f3, f4⟩ := HRB5.out.five
    go_wp2_with fail
    obtain ⟨w9, h9, HL⟩ := lay5 (x := .int .i64 2) (y := .int .i64 1) (z := .slice MA 0 mc) (u := .int .i64 (n : Int)) (v := .slice DA dl dc) HRB5.out
    rw [h9]
    have q0 := HL.c0; have q1 := HL.c1; have q2 := HL.c2; have q3 := HL.c3; have q4 := HL.c4
    refine bodyPost_ret (v := .tuple #[.agg #[.int .i64 2, .int .i64 1, .slice MA 0 mc, .int .i64 (n : Int), .slice DA dl dc], .int .i64 0]) (by simp [results, Try.results12, go_sem, q0, q1, q2, q3, q4]) rfl ?_
    exact ⟨_, _, rfl, (HX5.out.grown HL.gr (by rintro b e; cases e; omega)).mono HB6.out.size, HL.below HB5.out HB5.out.size (Nat.le_refl _)⟩

end Go.Proofs.Ytlcgihjdafglmaa

/- Plain: every nonzero word of the simplex code has the weight q^(r-1). -/
namespace Go.Proofs.Ytlcgihjdafglmaa
set_option linter.unusedVariables false

theorem dgt_low {q m d t c : Nat} (hq : 2 ≤ q) (hc : c < m) : dgt q (d * q ^ m + t) c = dgt q t c := by
  unfold dgt
  obtain ⟨k, rfl⟩ : ∃ k, m = c + (k + 1) := ⟨m - c - 1, by omega⟩
  rw [show d * q ^ (c + (k + 1)) = q ^ c * (d * q ^ k * q) by rw [Nat.pow_add, Nat.pow_succ]; simp only [Nat.mul_comm, Nat.mul_left_comm, Nat.mul_assoc], Nat.mul_add_div (Nat.pow_pos (by omega)), Nat.mul_comm (d * q ^ k) q, Nat.mul_add_mod]
theorem dgt_top {q m d t : Nat} (hq : 2 ≤ q) (ht : t < q ^ m) (hd : d < q) : dgt q (d * q ^ m + t) m = d := by
  unfold dgt
  rw [Nat.mul_comm, Nat.mul_add_div (Nat.pow_pos (by omega)), Nat.div_eq_of_lt ht, Nat.add_zero, Nat.mod_eq_of_lt hd]
section
set_option linter.unusedSectionVars false
variable {O : FOps} {q : Nat} (hO : O.Fld (q : Int)) (hq : 2 ≤ q)
include hO hq
end
end Go.Proofs.Ytlcgihjdafglmaa

/- Plain: the points stand for all words but 0 up to a factor; each word is near just one word of the Hamming code. -/
namespace Go.Proofs.Ytlcgihjdafglmaa
set_option linter.unusedVariables false

def valN (q : Nat) (f : Nat → Nat) : Nat → Nat
  | 0 => 0
  | m + 1 => f m * q ^ m + valN q f m
theorem valN_dgt {q : Nat} (hq : 2 ≤ q) {f : Nat → Nat} (hf : ∀ c, f c < q) : ∀ m, valN q f m < q ^ m ∧ ∀ c, c < m → dgt q (valN q f m) c = f c
  | 0 => ⟨by simp [valN], fun c hc => absurd hc (Nat.not_lt_zero _)⟩
  | m + 1 => by
    obtain ⟨h1, h2⟩ := valN_dgt hq hf m
    have hm := hf m
    refine ⟨?_, fun c hc => ?_⟩
    · rw [valN, Nat.pow_succ]
      have h3 : (f m + 1) * q ^ m ≤ q * q ^ m := Nat.mul_le_mul_right _ (by omega)
      rw [Nat.succ_mul] at h3
      rw [Nat.mul_comm (q ^ m)]
      omega
    · rw [valN]
      by_cases e : c = m
      · subst e; exact dgt_top hq h1 hm
      · rw [dgt_low hq (by omega)]; exact h2 c (by omega)
theorem dgt_ext {q : Nat} (hq : 2 ≤ q) : ∀ (m n n' : Nat), n < q ^ m → n' < q ^ m → (∀ c, c < m → dgt q n c = dgt q n' c) → n = n'
  | 0, n, n', h1, h2, _ => by simp at h1 h2; omega
  | m + 1, n, n', h1, h2, h => by
    have hp : 0 < q ^ m := Nat.pow_pos (by omega)
    have e1 := Nat.div_add_mod n (q ^ m)
    have e2 := Nat.div_add_mod n' (q ^ m)
    rw [Nat.mul_comm] at e1 e2
    have hl1 : n / q ^ m < q := by rw [Nat.pow_succ] at h1; exact Nat.div_lt_of_lt_mul h1
    have hl2 : n' / q ^ m < q := by rw [Nat.pow_succ] at h2; exact Nat.div_lt_of_lt_mul h2
    have ht : n / q ^ m = n' / q ^ m := by
      have h3 := h m (by omega)
      unfold dgt at h3
      rwa [Nat.mod_eq_of_lt hl1, Nat.mod_eq_of_lt hl2] at h3
    have hlow : n % q ^ m = n' % q ^ m := dgt_ext hq m _ _ (Nat.mod_lt _ hp) (Nat.mod_lt _ hp) fun c hc => by
      have h3 := h c (by omega)
      rw [← e1, ← e2, dgt_low hq hc, dgt_low hq hc] at h3
      exact h3
    rw [← e1, ← e2, ht, hlow]
section
set_option linter.unusedSectionVars false
variable {O : FOps} {q : Nat} (hO : O.Fld (q : Int)) (hq : 2 ≤ q)
include hO hq
end
end Go.Proofs.Ytlcgihjdafglmaa

/- Plain: a systematic code whose errors of small weight have all syndromes is perfect. -/
namespace Go.Proofs.Ytlcgihjdafglmaa
set_option linter.unusedVariables false

theorem gsum_congr {f g : Nat → Nat} : ∀ {m : Nat}, (∀ k, k < m → f k = g k) → sumN f m = sumN g m
  | 0, _ => rfl
  | m + 1, h => by rw [sumN, sumN, gsum_congr fun k hk => h k (by omega), h m (by omega)]
theorem gsum_add (f g : Nat → Nat) : ∀ m, sumN (fun k => f k + g k) m = sumN f m + sumN g m
  | 0 => rfl
  | m + 1 => by rw [sumN, sumN, sumN, gsum_add]; omega
theorem gsum_mod {f g : Nat → Nat} {p : Nat} : ∀ {m : Nat}, (∀ k, k < m → f k % p = g k % p) → sumN f m % p = sumN g m % p
  | 0, _ => rfl
  | m + 1, h => by rw [sumN, sumN, Nat.add_mod, gsum_mod fun k hk => h k (by omega), h m (by omega), ← Nat.add_mod]
theorem gsum_one {f : Nat → Nat} {r : Nat} : ∀ {m : Nat}, r < m → (∀ k, k < m → k ≠ r → f k = 0) → sumN f m = f r
  | m + 1, hr, h => by
    rw [sumN]
    by_cases e : r = m
    · subst e
      have : sumN f r = 0 := by
        have : ∀ n, n ≤ r → sumN f n = 0 := fun n => by
          induction n with
          | zero => intro _; rfl
          | succ n ih => intro hn; rw [sumN, ih (by omega), h n (by omega) (by omega)]
        exact this r (Nat.le_refl _)
      omega
    · rw [gsum_one (by omega) fun k hk hne => h k (by omega) hne, h m (by omega) (fun e2 => e e2.symm)]; rfl
/-- the entry j of the word of the number N by the first i rows B -/
def gE (p : Nat) (B : List Nat) (i N j : Nat) : Nat := sumN (fun r => dgt p N r * dgt p (B.getD r 0) j) i % p
def gW (p n : Nat) (B : List Nat) (i N : Nat) : List Int := rowOf n fun j => (gE p B i N j : Int)
theorem gW_at {p n : Nat} {B : List Nat} {i N j : Nat} (hj : j < n) : (gW p n B i N).getD j 0 = (gE p B i N j : Int) := rowOf_getD hj
/-- at how many of the first k places two words differ -/
def difN (a b : List Int) : Nat → Nat
  | 0 => 0
  | k + 1 => difN a b k + if a.getD k 0 = b.getD k 0 then 0 else 1
theorem difN_le (a b : List Int) : ∀ k, difN a b k ≤ k
  | 0 => Nat.le_refl _
  | k + 1 => by have := difN_le a b k; rw [difN]; split <;> omega
/-- how many of the first k values are not 0 -/
def nzN (f : Nat → Nat) : Nat → Nat
  | 0 => 0
  | k + 1 => nzN f k + if f k = 0 then 0 else 1
def synE (p K : Nat) (B : List Nat) (x : Nat → Nat) (j : Nat) : Nat := (x (K + j) + (p - 1) * sumN (fun r => x r * dgt p (B.getD r 0) (K + j)) K) % p
/-- a table of errors from the syndrome s on -/
def synTab (P : Nat → Nat → Bool) : List Nat → Nat → Bool
  | [], _ => true
  | e :: T, s => P e s && synTab P T (s + 1)
theorem synTab_at {P : Nat → Nat → Bool} : ∀ {T : List Nat} {s i : Nat}, synTab P T s = true → i < T.length → P (T.getD i 0) (s + i) = true
  | e :: T, s, 0, h, _ => by
    rw [synTab, Bool.and_eq_true] at h
    exact h.1
  | e :: T, s, i + 1, h, hi => by
    rw [synTab, Bool.and_eq_true] at h
    have := synTab_at (i := i) h.2 (by simpa using hi)
    rw [show s + (i + 1) = s + 1 + i by omega]
    exact this
/-- an error of weight at most t with the syndrome s -/
def synG (p n K t : Nat) (B : List Nat) (e s : Nat) : Bool := ((List.range (n - K)).all fun j => synE p K B (dgt p e) j == dgt p s j) && decide (nzN (dgt p e) n ≤ t)
def unitChk (p K : Nat) (B : List Nat) : Bool := (List.range K).all fun r => (List.range K).all fun l => dgt p (B.getD r 0) l == if r = l then 1 else 0
def distG (p n K t : Nat) (B : List Nat) (a l : Nat) : Bool := (List.range l).all fun i => a + i == 0 || decide (2 * t < nzN (gE p B K (a + i)) n)
def xorTo (B : List Nat) (N : Nat) : Nat → Nat
  | 0 => 0
  | i + 1 => if N / 2 ^ i % 2 = 1 then Nat.xor (xorTo B N i) (B.getD i 0) else xorTo B N i
def distX (n K t : Nat) (B : List Nat) (a l : Nat) : Bool := (List.range l).all fun i => a + i == 0 || decide (2 * t < nzN (dgt 2 (xorTo B (a + i) K)) n)
def synX (n K t : Nat) (B : List Nat) (e s : Nat) : Bool := Nat.xor e (xorTo B e K) / 2 ^ K == s && decide (nzN (dgt 2 e) n ≤ t)
theorem xor_dgt (a b j : Nat) : dgt 2 (Nat.xor a b) j = (dgt 2 a j + dgt 2 b j) % 2 := by
  have h : ∀ x : Nat, dgt 2 x j = (x.testBit j).toNat := fun x => by
    unfold dgt
    rw [Nat.testBit_eq_decide_div_mod_eq]
    by_cases e : x / 2 ^ j % 2 = 1
    · rw [decide_eq_true e, e]; rfl
    · rw [decide_eq_false e]; show _ = 0; omega
  rw [h, h, h, show (Nat.xor a b).testBit j = (a.testBit j ^^ b.testBit j) from Nat.testBit_xor a b j]
  cases a.testBit j <;> cases b.testBit j <;> rfl
theorem xor_gE (B : List Nat) (N j : Nat) : ∀ i, dgt 2 (xorTo B N i) j = gE 2 B i N j
  | 0 => by unfold gE; show dgt 2 0 j = 0 % 2; unfold dgt; simp
  | i + 1 => by
    have ih := xor_gE B N j i
    unfold gE at ih ⊢
    rw [sumN, xorTo]
    have h2 : dgt 2 N i = 0 ∨ dgt 2 N i = 1 := by unfold dgt; omega
    rcases h2 with h | h
    · rw [if_neg (by unfold dgt at h; omega), ih, h, Nat.zero_mul, Nat.add_zero]
    · rw [if_pos (by unfold dgt at h; exact h), xor_dgt, ih, h, Nat.one_mul, Nat.add_mod, Nat.mod_mod, ← Nat.add_mod]
theorem distG_at {p n K t : Nat} {B : List Nat} {a l N : Nat} (h : distG p n K t B a l = true) (h1 : a ≤ N) (h2 : N < a + l) (h0 : N ≠ 0) : 2 * t < nzN (gE p B K N) n := by
  unfold distG at h
  have := List.all_eq_true.1 h (N - a) (List.mem_range.2 (by omega))
  rw [show a + (N - a) = N by omega] at this
  simpa [h0] using this
theorem nzN_congr {f g : Nat → Nat} : ∀ {m : Nat}, (∀ k, k < m → f k = g k) → nzN f m = nzN g m
  | 0, _ => rfl
  | m + 1, h => by rw [nzN, nzN, nzN_congr fun k hk => h k (by omega), h m (by omega)]
theorem distX_at {n K t : Nat} {B : List Nat} {a l N : Nat} (h : distX n K t B a l = true) (h1 : a ≤ N) (h2 : N < a + l) (h0 : N ≠ 0) : 2 * t < nzN (gE 2 B K N) n := by
  unfold distX at h
  have := List.all_eq_true.1 h (N - a) (List.mem_range.2 (by omega))
  rw [show a + (N - a) = N by omega, nzN_congr (g := gE 2 B K N) fun j _ => xor_gE B N j K] at this
  simpa [h0] using this
/-- what a table says at a syndrome -/
def SynP (p n K t : Nat) (B : List Nat) (e s : Nat) : Prop := (∀ j, j < n - K → synE p K B (dgt p e) j = dgt p s j) ∧ nzN (dgt p e) n ≤ t
theorem synG_P {p n K t : Nat} {B : List Nat} {e s : Nat} (h : synG p n K t B e s = true) : SynP p n K t B e s := by
  unfold synG at h
  simp only [Bool.and_eq_true, List.all_eq_true, List.mem_range, beq_iff_eq, decide_eq_true_eq] at h
  exact h
theorem synX_P {n K t : Nat} {B : List Nat} {e s : Nat} (h : synX n K t B e s = true) : SynP 2 n K t B e s := by
  unfold synX at h
  simp only [Bool.and_eq_true, beq_iff_eq, decide_eq_true_eq] at h
  refine ⟨fun j hj => ?_, h.2⟩
  rw [← h.1]
  have h1 : dgt 2 (Nat.xor e (xorTo B e K) / 2 ^ K) j = dgt 2 (Nat.xor e (xorTo B e K)) (K + j) := by unfold dgt; rw [Nat.div_div_eq_div_mul, ← Nat.pow_add]
  rw [h1, xor_dgt, xor_gE]
  unfold synE gE
  rw [show 2 - 1 = 1 from rfl, Nat.one_mul]
  omega
theorem synX_at {n K t : Nat} {B T : List Nat} {s i : Nat} (h : synTab (synX n K t B) T s = true) (h1 : s ≤ i) (h2 : i < s + T.length) : ∃ e, SynP 2 n K t B e i := by
  have := synX_P (synTab_at (i := i - s) h (by omega))
  rw [show s + (i - s) = i by omega] at this
  exact ⟨_, this⟩
theorem synG_at {p n K t : Nat} {B T : List Nat} {s i : Nat} (h : synTab (synG p n K t B) T s = true) (h1 : s ≤ i) (h2 : i < s + T.length) : ∃ e, SynP p n K t B e i := by
  have := synG_P (synTab_at (i := i - s) h (by omega))
  rw [show s + (i - s) = i by omega] at this
  exact ⟨_, this⟩
theorem gcount_one {P : Nat → Bool} {N0 : Nat} : ∀ {m : Nat}, N0 < m → P N0 = true → (∀ N, N < m → P N = true → N = N0) → List.countP P (List.range m) = 1
  | m + 1, h0, h1, h2 => by
    rw [List.range_succ, List.countP_append, List.countP_cons, List.countP_nil]
    by_cases e : N0 = m
    · subst e
      rw [if_pos h1]
      have : List.countP P (List.range N0) = 0 := by
        rw [List.countP_eq_zero]
        intro N hN hP
        have hN := List.mem_range.1 hN
        have := h2 N (by omega) hP
        omega
      omega
    · rw [gcount_one (by omega) h1 fun N hN => h2 N (by omega), if_neg (fun h => e (h2 m (by omega) h).symm)]
theorem difN_nz {p n K : Nat} {a b : List Int} {f : Nat → Nat} : ∀ {m : Nat}, (∀ j, j < m → a.getD j 0 = b.getD j 0 → f j = 0) → nzN f m ≤ difN a b m
  | 0, _ => Nat.le_refl _
  | m + 1, h => by
    have ih := difN_nz (p := p) (n := n) (K := K) (m := m) fun j hj => h j (by omega)
    rw [nzN, difN]
    by_cases e : a.getD m 0 = b.getD m 0
    · rw [if_pos (h m (by omega) e), if_pos e]; omega
    · rw [if_neg e]; split <;> omega
theorem difN_le_nz {a b : List Int} {f : Nat → Nat} : ∀ {m : Nat}, (∀ j, j < m → f j = 0 → a.getD j 0 = b.getD j 0) → difN a b m ≤ nzN f m
  | 0, _ => Nat.le_refl _
  | m + 1, h => by
    have ih := difN_le_nz (m := m) fun j hj => h j (by omega)
    rw [nzN, difN]
    by_cases e : f m = 0
    · rw [if_pos e, if_pos (h m (by omega) e)]; omega
    · rw [if_neg e]; split <;> omega
theorem difN_tri {a b y : List Int} : ∀ m, difN a b m ≤ difN a y m + difN b y m
  | 0 => Nat.le_refl _
  | m + 1 => by
    have ih := difN_tri (a := a) (b := b) (y := y) m
    rw [difN, difN, difN]
    by_cases e1 : a.getD m 0 = y.getD m 0
    · by_cases e2 : b.getD m 0 = y.getD m 0
      · rw [if_pos (e1.trans e2.symm), if_pos e1, if_pos e2]; omega
      · rw [if_neg e2, if_pos e1]
        have : (if a.getD m 0 = b.getD m 0 then 0 else 1) ≤ 1 := by split <;> omega
        omega
    · rw [if_neg e1]
      have : (if a.getD m 0 = b.getD m 0 then 0 else 1) ≤ 1 := by split <;> omega
      omega
theorem mod_shift {p a b c : Nat} (hp : p = 2 ∨ p = 3) (h : (c + b) % p = a % p) (e : a % p = b % p) : c % p = 0 := by
  rcases hp with rfl | rfl <;> omega
theorem gol_one {p n K t : Nat} {B : List Nat} (hp : p = 2 ∨ p = 3) (hK : K ≤ n) (hn : 0 < n) (hs : ∀ s, s < p ^ (n - K) → ∃ e, SynP p n K t B e s) (hu : unitChk p K B = true)
    (hd : ∀ N, N < p ^ K → N ≠ 0 → 2 * t < nzN (gE p B K N) n) {y : List Int} (hl : y.length = n) (hy : ∀ j, 0 ≤ y.getD j 0 ∧ y.getD j 0 < (p : Int)) :
    List.countP (fun N => decide (difN (gW p n B K N) y n ≤ t)) (List.range (p ^ K)) = 1 := by
  have hp2 : 2 ≤ p := by omega
  obtain ⟨yn, hyn⟩ : ∃ yn : Nat → Nat, ∀ j, y.getD j 0 = (yn j : Int) := ⟨fun j => (y.getD j 0).toNat, fun j => (Int.toNat_of_nonneg (hy j).1).symm⟩
  have hyl : ∀ j, yn j < p := fun j => by have := hy j; have := hyn j; omega
  have hsl : ∀ j, synE p K B yn j < p := fun j => Nat.mod_lt _ (by omega)
  obtain ⟨s, hsE⟩ : ∃ s, s = valN p (synE p K B yn) (n - K) := ⟨_, rfl⟩
  obtain ⟨hs1, hs2⟩ := valN_dgt hp2 hsl (n - K)
  rw [← hsE] at hs1 hs2
  obtain ⟨e0, hs4, hs5⟩ := hs s hs1
  obtain ⟨e, he⟩ : ∃ e : Nat → Nat, e = dgt p e0 := ⟨_, rfl⟩
  have hel : ∀ j, e j < p := fun j => by rw [he]; exact dgt_lt (by omega) _ _
  rw [← he] at hs4 hs5
  have hcl : ∀ j, (yn j + (p - e j)) % p < p := fun j => Nat.mod_lt _ (by omega)
  obtain ⟨N0, hN0E⟩ : ∃ N0, N0 = valN p (fun r => (yn r + (p - e r)) % p) K := ⟨_, rfl⟩
  obtain ⟨hN0, hN0d⟩ := valN_dgt hp2 hcl K
  rw [← hN0E] at hN0 hN0d
  have hunit : ∀ r l, r < K → l < K → dgt p (B.getD r 0) l = if r = l then 1 else 0 := fun r l hr hl => by
    unfold unitChk at hu
    have := List.all_eq_true.1 (List.all_eq_true.1 hu r (List.mem_range.2 hr)) l (List.mem_range.2 hl)
    simpa using this
  have hword : ∀ j, j < n → gE p B K N0 j = (yn j + (p - e j)) % p := fun j hj => by
    have h1 : sumN (fun r => dgt p N0 r * dgt p (B.getD r 0) j) K = sumN (fun r => (yn r + (p - e r)) % p * dgt p (B.getD r 0) j) K := gsum_congr fun r hr => by rw [hN0d r hr]
    unfold gE
    rw [h1]
    by_cases hjK : j < K
    · rw [gsum_one (r := j) hjK fun k hk hne => by rw [hunit k j hk hjK, if_neg hne, Nat.mul_zero], hunit j j hjK hjK, if_pos rfl, Nat.mul_one, Nat.mod_mod]
    · obtain ⟨i, rfl⟩ : ∃ i, j = K + i := ⟨j - K, by omega⟩
      have h2 := hs4 i (by omega)
      rw [hs2 i (by omega)] at h2
      unfold synE at h2
      have h3 : (sumN (fun r => (yn r + (p - e r)) % p * dgt p (B.getD r 0) (K + i)) K + sumN (fun r => e r * dgt p (B.getD r 0) (K + i)) K) % p = sumN (fun r => yn r * dgt p (B.getD r 0) (K + i)) K % p := by
        rw [← gsum_add]
        refine gsum_mod fun r hr => ?_
        rw [← Nat.add_mul]
        have h4 : ((yn r + (p - e r)) % p + e r) % p = yn r % p := by
          have := hyl r; have := hel r
          rcases hp with rfl | rfl <;> omega
        rw [Nat.mul_mod, h4, ← Nat.mul_mod]
      have := hyl (K + i); have := hel (K + i)
      generalize sumN (fun r => (yn r + (p - e r)) % p * dgt p (B.getD r 0) (K + i)) K = C at *
      generalize sumN (fun r => e r * dgt p (B.getD r 0) (K + i)) K = E at *
      generalize sumN (fun r => yn r * dgt p (B.getD r 0) (K + i)) K = Y at *
      generalize yn (K + i) = a at *
      generalize e (K + i) = b at *
      rcases hp with rfl | rfl <;> omega
  refine gcount_one (N0 := N0) hN0 ?_ fun N hN hP => ?_
  · refine decide_eq_true (Nat.le_trans (difN_le_nz (f := e) fun j hj h0 => ?_) hs5)
    rw [gW_at hj, hword j hj, hyn j, h0, Nat.sub_zero, Nat.add_mod_right, Nat.mod_eq_of_lt (hyl j)]
  · have h1 : difN (gW p n B K N) y n ≤ t := of_decide_eq_true hP
    have h2 : difN (gW p n B K N0) y n ≤ t := by
      refine Nat.le_trans (difN_le_nz (f := e) fun j hj h0 => ?_) hs5
      rw [gW_at hj, hword j hj, hyn j, h0, Nat.sub_zero, Nat.add_mod_right, Nat.mod_eq_of_lt (hyl j)]
    refine Decidable.byContradiction fun hne => ?_
    have hdl : ∀ r, (dgt p N r + (p - dgt p N0 r)) % p < p := fun r => Nat.mod_lt _ (by omega)
    obtain ⟨hN3, hN3d⟩ := valN_dgt hp2 hdl K
    have hne3 : valN p (fun r => (dgt p N r + (p - dgt p N0 r)) % p) K ≠ 0 := fun h0 => by
      refine hne (dgt_ext hp2 K N N0 hN hN0 fun c hc => ?_)
      have h3 := hN3d c hc
      rw [h0] at h3
      have h4 : dgt p 0 c = 0 := by unfold dgt; simp
      rw [h4] at h3
      have := dgt_lt (p := p) (by omega) N c; have := dgt_lt (p := p) (by omega) N0 c
      generalize dgt p N c = a at *
      generalize dgt p N0 c = b at *
      rcases hp with rfl | rfl <;> omega
    have h3 := hd _ hN3 hne3
    have h4 := difN_tri (a := gW p n B K N) (b := gW p n B K N0) (y := y) n
    have h5 := difN_nz (p := p) (n := n) (K := K) (a := gW p n B K N) (b := gW p n B K N0) (f := gE p B K (valN p (fun r => (dgt p N r + (p - dgt p N0 r)) % p) K)) (m := n) fun j hj he => by
      rw [gW_at hj, gW_at hj] at he
      have he : gE p B K N j = gE p B K N0 j := by omega
      unfold gE at he ⊢
      refine mod_shift hp (a := sumN (fun r => dgt p N r * dgt p (B.getD r 0) j) K) (b := sumN (fun r => dgt p N0 r * dgt p (B.getD r 0) j) K) ?_ he
      rw [← gsum_add]
      refine gsum_mod fun r hr => ?_
      rw [hN3d r hr, ← Nat.add_mul]
      have h6 : ((dgt p N r + (p - dgt p N0 r)) % p + dgt p N0 r) % p = dgt p N r % p := by
        have := dgt_lt (p := p) (by omega) N r; have := dgt_lt (p := p) (by omega) N0 r
        generalize dgt p N r = a at *
        generalize dgt p N0 r = b at *
        rcases hp with rfl | rfl <;> omega
      rw [Nat.mul_mod, h6, ← Nat.mul_mod]
    omega
end Go.Proofs.Ytlcgihjdafglmaa

/- Plain: the finite facts of the two Golay codes: the least weight, and for each syndrome an error. Printed by a program (gen_gol.py). -/
namespace Go.Proofs.Ytlcgihjdafglmaa
set_option linter.unusedVariables false
set_option maxRecDepth 100000

theorem gol_syn2_0 : synTab (synX 23 12 3 sysB23) [0, 4096, 8192, 12288, 16384, 20480, 24576, 28672, 32768, 36864, 40960, 45056, 49152, 53248, 57344, 2098178, 65536, 69632, 73728, 77824, 81920, 86016, 90112, 262528, 98304, 102400, 106496, 1572896, 114688, 131081, 4196356, 592, 131072, 135168, 139264, 143360, 147456, 151552, 155648, 4194352, 163840, 167936, 172032, 2240, 180224, 65545, 525056, 1310724, 196608, 200704, 204800, 1540, 212992, 32777, 3145792, 526338, 229376, 16393, 262162, 6291712, 4105, 9, 1184, 8201, 262144, 266240, 270336, 274432, 278528, 282624, 286720, 65920, 294912, 299008, 303104, 4194824, 311296, 526352, 97, 1179652, 327680, 331776, 335872, 16768, 344064, 8576, 4480, 384, 360448, 2097220, 131090, 3073, 1050112, 4194338, 2621448, 33152, 393216, 397312, 401408, 2621441, 409600, 578, 3080, 1081348, 425984, 1312, 65554, 1064964, 6291584, 1056772, 1052676, 1048580, 458752, 5244928, 32786, 104, 524324, 2098192, 4194817, 131456, 8210, 524928, 18, 4114, 2368, 262153, 16402, 1114116] 0 = true := by decide +kernel
theorem gol_syn2_1 : synTab (synX 23 12 3 sysB23) [524288, 528384, 532480, 536576, 540672, 544768, 548864, 76, 557056, 561152, 565248, 1114144, 573440, 264208, 131840, 4194433, 589824, 593920, 598016, 1081376, 606208, 6291968, 1041, 133122, 622592, 1056800, 1052704, 1048608, 194, 1284, 2359304, 1064992, 655360, 659456, 663552, 2359297, 671744, 1049728, 33536, 67586, 688128, 4194310, 17152, 1048, 8960, 2097248, 768, 4864, 720896, 336, 4194440, 18434, 262180, 10242, 6146, 2050, 2100224, 262784, 69, 1179680, 5242896, 524297, 66304, 34818, 786432, 790528, 794624, 2228225, 802816, 34832, 5242882, 1568, 819200, 18448, 1156, 322, 6160, 2064, 2162696, 10256, 851968, 1034, 2624, 4194324, 131108, 1048641, 2129928, 524672, 4194561, 131712, 2113544, 1310752, 2105352, 67600, 2097160, 2101256, 917504, 2105345, 2101249, 2097153, 65572, 4194568, 208, 2113537, 1048648, 66176, 4196384, 2129921, 1027, 133136, 262912, 1572868, 16420, 33408, 1049856, 2162689, 36, 4132, 8228, 264194, 4736, 640, 524306, 8832, 32804, 17024, 2228232, 4195392] 128 = true := by decide +kernel
theorem gol_syn2_2 : synTab (synX 23 12 3 sysB23) [1048576, 1052672, 1056768, 1060864, 1064960, 1069056, 1073152, 2561, 1081344, 1085440, 1089536, 589856, 1097728, 4194624, 152, 393220, 1114112, 1118208, 1122304, 557088, 1130496, 22, 2228288, 4195336, 1146880, 532512, 528416, 524320, 263680, 2099328, 259, 540704, 1179648, 1183744, 1187840, 266, 1196032, 525440, 2162752, 294916, 1212416, 2097680, 4195329, 278532, 2082, 270340, 266244, 262148, 1245184, 4458496, 2113600, 145, 2105408, 800, 2097216, 2101312, 388, 1090, 2568, 655392, 4718608, 1048585, 2129984, 327684, 1310720, 1314816, 1318912, 1104, 1327104, 2097192, 4718594, 163844, 1343488, 131, 2099456, 147460, 67072, 139268, 135172, 131076, 1376256, 4327424, 13, 2097666, 34304, 524353, 2096, 1048960, 17920, 280, 4194496, 786464, 1536, 5632, 9728, 196612, 1441792, 4261888, 672, 49156, 273, 40964, 36868, 32772, 524360, 24580, 20484, 16388, 12292, 8196, 4100, 4, 4200448, 4196352, 525568, 4204544, 138, 4212736, 2359360, 98308, 2097185, 4229120, 1048594, 81924, 132608, 73732, 69636, 65540] 256 = true := by decide +kernel
theorem gol_syn2_3 : synTab (synX 23 12 3 sysB23) [1572864, 1576960, 1581056, 98336, 1589248, 132224, 4456450, 2097424, 1605632, 73760, 69664, 65568, 2097157, 522, 3136, 81952, 1638400, 40992, 36896, 32800, 2312, 262209, 644, 49184, 12320, 8224, 4128, 32, 4325392, 24608, 20512, 16416, 1703936, 17536, 2068, 4194880, 5248, 1152, 41, 9344, 262216, 2305, 2097282, 196640, 4259856, 33920, 1049344, 786436, 515, 2097164, 263424, 163872, 4227088, 66688, 2621504, 1050626, 4210704, 139296, 135200, 131104, 4194320, 4198416, 4202512, 147488, 1835008, 772, 4210690, 2184, 4202498, 65601, 4194306, 4198402, 131144, 6292480, 529, 327712, 416, 1050640, 4227074, 655364, 2097296, 16449, 132352, 294944, 4161, 65, 4259842, 8257, 2054, 270368, 266272, 262176, 525824, 32833, 3145736, 278560, 32840, 50, 66816, 3145729, 2099712, 263296, 4325378, 557060, 72, 4168, 8264, 540676, 16456, 532484, 528388, 524292, 9472, 4720640, 1280, 5376, 1048612, 131137, 17664, 536, 65608, 1049216, 34048, 393248, 4456464, 2097410, 2177, 589828] 384 = true := by decide +kernel
theorem gol_syn2_4 : synTab (synX 23 12 3 sysB23) [2097152, 2101248, 2105344, 2109440, 2113536, 2117632, 2121728, 33794, 2129920, 2134016, 2138112, 17410, 2146304, 9218, 5122, 1026, 2162688, 2166784, 2170880, 2072, 2179072, 4719104, 1179712, 37, 2195456, 262212, 641, 4325632, 304, 1050752, 786440, 66562, 2228224, 2232320, 2236416, 786433, 2244608, 2308, 1114176, 648, 2260992, 1049104, 44, 4260096, 4456576, 524384, 2065, 132098, 2293760, 162, 1065024, 4227328, 1056832, 263184, 1048640, 1052736, 527360, 4202752, 4198656, 4194560, 518, 2097161, 1081408, 4210944, 2359296, 2363392, 2367488, 655361, 2375680, 1048616, 532, 4196416, 2392064, 65604, 1050880, 176, 4325504, 769, 589832, 263170, 2424832, 32836, 4195360, 1049090, 2051, 132112, 557064, 2097536, 4164, 68, 540680, 8260, 532488, 16452, 524296, 528392, 2490368, 532481, 528385, 524289, 4227200, 66576, 290, 540673, 4210816, 2058, 1600, 557057, 4194432, 4198528, 4202624, 3145732, 776, 17424, 2180, 589825, 5136, 1040, 1310784, 9232, 1048609, 131140, 2097170, 4456704, 4259968, 33808, 655368, 2592] 512 = true := by decide +kernel
theorem gol_syn2_5 : synTab (synX 23 12 3 sysB23) [2621440, 2625536, 2629632, 393217, 2637824, 4260352, 2208, 1048848, 2654208, 392, 4194384, 2564, 1048581, 131168, 327688, 525314, 2686976, 4211200, 262, 1216, 4198912, 4194816, 294920, 4203008, 134144, 19, 278536, 3145760, 270344, 4227584, 262152, 266248, 2752512, 270337, 266241, 262145, 26, 32864, 4195332, 278529, 68608, 16480, 1048706, 294913, 4192, 96, 2097920, 8288, 35840, 1048588, 560, 327681, 385, 4325888, 1572928, 2099202, 3072, 7168, 11264, 4718848, 19456, 65632, 393224, 148, 2883584, 139265, 135169, 131073, 1344, 134, 98312, 147457, 546, 5243904, 81928, 163841, 73736, 2099216, 65544, 69640, 1048720, 2336, 49160, 196609, 40968, 4456960, 32776, 36872, 24584, 524356, 16392, 20488, 8200, 12296, 8, 4104, 12289, 8193, 4097, 1, 1051136, 24577, 20481, 16385, 276, 40961, 36865, 32769, 4718720, 262240, 196616, 49153, 4194370, 73729, 69633, 65537, 2097188, 525328, 163848, 81921, 265216, 2097792, 147464, 98305, 139272, 1048834, 131080, 135176] 640 = true := by decide +kernel
theorem gol_syn2_6 : synTab (synX 23 12 3 sysB23) [3145728, 3149824, 3153920, 4194436, 3162112, 262184, 196672, 524560, 3178496, 131600, 264448, 73, 524293, 67712, 4194848, 1049602, 3211264, 1281, 147520, 262658, 139328, 34944, 131136, 135232, 4194314, 18560, 1044, 2621472, 6272, 2176, 163904, 10368, 3276800, 33296, 81984, 3104, 73792, 4194307, 65600, 69696, 4624, 528, 524418, 8720, 1288, 16912, 98368, 2359300, 24640, 524300, 16448, 20544, 8256, 12352, 64, 4160, 262177, 66064, 49216, 5243136, 41024, 133248, 32832, 36928, 3407872, 16424, 35072, 66050, 4136, 40, 1153, 8232, 10496, 4719616, 2304, 6400, 82, 32808, 18688, 2228228, 524432, 8706, 4610, 514, 4194564, 65576, 393280, 16898, 131105, 1048644, 67840, 33282, 2098688, 264320, 1572872, 4194321, 1030, 448, 4194328, 1572865, 526848, 131112, 327744, 2129924, 65569, 262672, 133376, 2113540, 5243008, 2105348, 2101252, 2097156, 32801, 6293504, 278592, 131586, 270400, 1049616, 262208, 266304, 33, 4129, 8225, 1160, 16417, 524546, 294976, 2162692] 768 = true := by decide +kernel
theorem gol_syn2_7 : synTab (synX 23 12 3 sysB23) [3670016, 2114, 1544, 16656, 32773, 8464, 4368, 272, 16389, 4457472, 131202, 2162720, 5, 4101, 8197, 33040, 262288, 131084, 4196353, 2129952, 1058, 5243392, 655424, 65808, 832, 2105376, 2101280, 2097184, 65541, 526464, 1310728, 2113568, 4194592, 65548, 32898, 1310721, 264704, 2098304, 589888, 131344, 8322, 524816, 130, 4226, 131077, 1048672, 16514, 4196360, 4108, 12, 540736, 8204, 532544, 16396, 524352, 528448, 1051648, 32780, 65666, 2228256, 6291472, 262402, 557120, 1537, 65680, 4228096, 100, 1179649, 133632, 524328, 6291458, 262416, 4199424, 4195328, 526592, 4203520, 262149, 4211712, 1114120, 704, 144, 4240, 8336, 524802, 16528, 2097217, 1081352, 3076, 32912, 4260864, 1064968, 2359328, 1056776, 131330, 1048584, 1052680, 18944, 1056769, 1052673, 1048577, 2560, 6656, 10752, 1064961, 2097224, 4326400, 262274, 1081345, 35328, 65794, 1072, 2621444, 131216, 262156, 2098432, 1114113, 68096, 33026, 786496, 4194464, 524321, 16642, 4194820, 2128, 4354, 258, 1179656, 8450] 896 = true := by decide +kernel
theorem gol_syn2_8 : synTab (synX 23 12 3 sysB23) [4194304, 4198400, 4202496, 4206592, 4210688, 4214784, 4218880, 131120, 4227072, 4231168, 4235264, 262664, 4243456, 1048896, 67588, 524417, 4259840, 4263936, 4268032, 67, 4276224, 2621952, 34820, 1049608, 4292608, 1168, 18436, 2228480, 10244, 262178, 2052, 6148, 4325376, 4329472, 4333568, 16432, 4341760, 8240, 4144, 48, 4358144, 524294, 1049601, 2162944, 2359424, 3584, 74, 32816, 4390912, 1312768, 524424, 2130176, 1282, 196, 262657, 65584, 608, 2105600, 2101504, 2097408, 1572880, 4194313, 133124, 2113792, 4456448, 4460544, 4464640, 33288, 4472832, 1029, 1572866, 2099264, 4489216, 8712, 4616, 520, 2228352, 65570, 1296, 16904, 4521984, 1181696, 2098208, 524308, 88, 32802, 131585, 4194688, 524545, 16418, 1048768, 66056, 4130, 34, 264196, 8226, 4587520, 1116160, 324, 1154, 2130048, 524552, 66049, 262192, 2113664, 81, 526368, 131592, 2097280, 2101376, 2105472, 5242884, 1054720, 1050624, 16897, 1058816, 8705, 1067008, 513, 4609, 1036, 1083392, 4194322, 2359552, 2162816, 131106, 33281, 525376] 1024 = true := by decide +kernel
theorem gol_syn2_9 : synTab (synX 23 12 3 sysB23) [4718592, 4722688, 4726784, 3328, 4734976, 2163200, 1310722, 32897, 4751360, 131078, 2097232, 16513, 1064, 8321, 4225, 129, 4784128, 2114048, 131208, 262164, 2101760, 2097664, 352, 2105856, 262401, 2120, 1538, 5242912, 1179664, 2130432, 526340, 65665, 4849664, 32774, 65672, 1049152, 2113, 262408, 2098180, 524336, 4102, 6, 264224, 8198, 1114128, 16390, 4195072, 131201, 8328, 1057, 136, 4232, 1081360, 2228736, 16520, 4196354, 1064976, 65542, 32904, 2621696, 1048592, 1052688, 1056784, 263232, 4980736, 224, 1064962, 65556, 1056770, 131336, 1048578, 1052674, 65793, 3146752, 133152, 524808, 580, 4196368, 1081346, 262273, 33025, 8212, 4116, 20, 3200, 2359808, 1114114, 16404, 257, 4353, 8449, 32788, 16641, 524322, 6291464, 132160, 1552, 16648, 34848, 6291457, 4360, 264, 1179650, 8456, 10272, 262150, 2080, 6176, 2621568, 33032, 18464, 66624, 2097218, 1574912, 262280, 131092, 4194340, 65800, 524801, 33856, 131329, 4194944, 67616, 17472, 1310736, 9280, 5184, 1088] 1152 = true := by decide +kernel
theorem gol_syn2_10 : synTab (synX 23 12 3 sysB23) [5242880, 5246976, 5251072, 2097284, 5259264, 33088, 786434, 66568, 5275648, 16704, 132097, 2066, 4416, 320, 2097696, 8512, 5308416, 395264, 784, 17416, 161, 9224, 5128, 1032, 2097162, 517, 262336, 4718624, 655376, 65856, 1050628, 33800, 5373952, 329728, 33793, 524864, 524, 2097155, 2432, 1048624, 9217, 168, 1025, 5121, 589840, 131392, 17409, 4456452, 268288, 264192, 38, 272384, 557072, 280576, 6291520, 132104, 540688, 296960, 66561, 3145984, 524304, 528400, 532496, 642, 5505024, 198656, 540674, 289, 532482, 656, 524290, 528386, 52, 2622464, 65728, 1049096, 2057, 262464, 557058, 4325380, 137216, 133120, 32960, 141312, 2097412, 149504, 589826, 263176, 8384, 165888, 192, 4288, 4195840, 1048610, 16576, 2097169, 71680, 67584, 2097176, 75776, 1120, 83968, 655362, 4227076, 770, 100352, 263169, 4210692, 3145856, 4202500, 4198404, 4194308, 6144, 2048, 14336, 10240, 22528, 18432, 1049089, 26624, 38912, 34816, 131264, 43008, 786448, 51200, 296, 4259844] 1280 = true := by decide +kernel
theorem gol_syn2_11 : synTab (synX 23 12 3 sysB23) [5767168, 25, 278530, 131648, 270338, 2084, 262146, 266242, 2688, 2360320, 268, 4259872, 196624, 524608, 294914, 1048705, 1092, 386, 2099201, 4227104, 163856, 3146240, 327682, 525320, 147472, 4202528, 4198432, 4194336, 131088, 135184, 139280, 4210720, 2097440, 8768, 4672, 576, 98320, 4195456, 393218, 16960, 81936, 1048582, 525313, 33344, 65552, 69648, 73744, 2099208, 49168, 788480, 1048712, 66112, 32784, 36880, 40976, 261, 16400, 20496, 24592, 4325408, 16, 4112, 8208, 12304, 24578, 2130944, 16386, 20482, 8194, 12290, 2, 4098, 2102272, 2098176, 49154, 2106368, 40962, 2114560, 32770, 36866, 552, 657408, 81922, 1048596, 73730, 4194369, 65538, 69634, 1048833, 2163712, 524480, 4456480, 393232, 140, 98306, 2816, 133, 591872, 147458, 262720, 139266, 1048840, 131074, 135170, 4194376, 2229248, 1050656, 400, 327696, 545, 163842, 4718596, 530432, 526336, 4195584, 534528, 294928, 542720, 196610, 2097312, 278544, 559104, 2097668, 11, 262160, 266256, 270352, 1049664] 1408 = true := by decide +kernel
theorem gol_syn2_12 : synTab (synX 23 12 3 sysB23) [6291456, 6295552, 6299648, 1048708, 6307840, 590336, 265, 264256, 6324224, 2081, 524368, 196864, 393344, 28, 1049120, 4195330, 6356992, 541184, 263200, 164096, 528896, 524800, 146, 532992, 1048586, 139520, 135424, 131328, 1089, 557568, 2099204, 147712, 6422528, 1096, 2562, 98560, 295040, 1048579, 525316, 2097200, 278656, 73984, 69888, 65792, 262272, 266368, 270464, 82176, 21, 41216, 37120, 33024, 2088, 655872, 5242944, 49408, 12544, 8448, 4352, 256, 327808, 24832, 20736, 16640, 6553600, 274, 66592, 18496, 163968, 10304, 6208, 2112, 147584, 1573888, 7, 2097672, 131200, 135296, 139392, 34880, 9248, 137, 1056, 5152, 1048836, 786944, 17440, 67648, 2576, 4194372, 33824, 393472, 196736, 2097186, 4718600, 1048593, 49280, 548, 1048600, 4718593, 32896, 36992, 41088, 133184, 16512, 20608, 24704, 327936, 128, 4224, 8320, 12416, 524354, 3147776, 132128, 295168, 98432, 4195344, 2097665, 14, 82048, 270592, 266496, 262400, 65664, 69760, 73856, 278784] 1536 = true := by decide +kernel
theorem gol_syn2_13 : synTab (synX 23 12 3 sysB23) [6815744, 82432, 32848, 42, 70144, 66048, 132100, 74240, 8272, 1311744, 80, 4176, 2306, 98816, 16464, 2097281, 20992, 16896, 1050625, 25088, 4608, 512, 12800, 8704, 164, 49664, 65616, 655616, 37376, 33280, 4456456, 41472, 1048864, 2192, 17412, 4456449, 9220, 197120, 1028, 5124, 521, 2097158, 131152, 590080, 786560, 4194400, 33796, 1050632, 262210, 147968, 2097288, 557312, 135680, 131584, 66564, 139776, 4197376, 532736, 528640, 524544, 3145744, 164352, 35, 540928, 2060, 1082368, 896, 4325377, 49, 328192, 3145730, 526400, 1053696, 1049600, 262224, 1057792, 655488, 1065984, 4259848, 292, 131138, 279040, 525344, 2097172, 266752, 262656, 4227080, 270848, 2097409, 1115136, 4210696, 2178, 4202504, 295424, 4194312, 4198408, 65602, 4202497, 4198401, 4194305, 557184, 2097416, 263172, 4210689, 540800, 1180672, 2099232, 4227073, 524416, 528512, 532608, 530, 66, 4162, 8258, 4259841, 16450, 393728, 2320, 1048736, 32834, 56, 1049092, 786688, 589952, 2053, 4325384, 2098240] 1664 = true := by decide +kernel
theorem gol_syn2_14 : synTab (synX 23 12 3 sysB23) [7340032, 8324, 4228, 132, 3088, 131075, 33312, 16516, 65546, 787456, 16928, 32900, 8736, 2097472, 544, 4640, 32778, 112, 526337, 65668, 262404, 1573376, 4325440, 2098184, 10, 4106, 8202, 1179904, 16394, 4196480, 66080, 262161, 524576, 16387, 262168, 131204, 4099, 3, 4259904, 8195, 2116, 4194832, 2098177, 1114368, 1310848, 32771, 131616, 526344, 1664, 2361344, 4210752, 1081600, 4202560, 65539, 4194368, 4198464, 131082, 1057024, 1052928, 1048832, 2621456, 1060, 4227136, 1065216, 577, 558080, 131096, 262276, 65796, 4194344, 2621442, 1050688, 529408, 525312, 4196608, 533504, 1179776, 541696, 262688, 65553, 16644, 2230272, 1049632, 4194818, 260, 4356, 8452, 32785, 262154, 590848, 2097344, 16401, 33028, 8209, 4113, 17, 8216, 2164736, 24, 4120, 1081472, 262147, 16408, 1792, 1065088, 656384, 32792, 98, 1048704, 1052800, 1056896, 6291460, 2103296, 2099200, 65560, 2107392, 131332, 2115584, 4456512, 524448, 4194337, 2131968, 524804, 1310976, 1114240, 584, 3074, 131089] 1792 = true := by decide +kernel
theorem gol_syn2_15 : synTab (synX 23 12 3 sysB23) [131360, 295936, 67585, 524420, 200, 1114624, 2359298, 4194576, 267264, 263168, 1048656, 271360, 4194309, 279552, 524832, 133128, 10241, 1065472, 2049, 6145, 1053184, 1049088, 18433, 1057280, 524298, 328704, 34817, 6291488, 2228240, 1081856, 1408, 70, 288, 4384, 8480, 2097728, 16672, 524291, 1049604, 34824, 33056, 394240, 4194434, 18440, 2162704, 10248, 6152, 2056, 65824, 4194316, 133121, 1042, 2129936, 1180160, 4718656, 262304, 2113552, 193, 262660, 1573120, 2097168, 2101264, 2105360, 67592, 37888, 33792, 2113538, 41984, 2105346, 50176, 2097154, 2101250, 5120, 1024, 13312, 9216, 21504, 17408, 2129922, 25600, 4194448, 99328, 264193, 328, 524548, 1311232, 2162690, 131232, 70656, 66560, 131588, 74752, 2144, 82944, 5242888, 524305, 262432, 164864, 524312, 5242881, 4196864, 84, 2228226, 65696, 136192, 132096, 66052, 140288, 1572992, 148480, 321, 264200, 1048642, 2623488, 33284, 16544, 1033, 8352, 4256, 160, 8708, 197632, 516, 4612, 2359312, 4194562, 16900, 32928] 1920 = true := by decide +kernel
theorem gol_dist2_0 : distX 23 12 3 sysB23 0 256 = true := by decide +kernel
theorem gol_dist2_1 : distX 23 12 3 sysB23 256 256 = true := by decide +kernel
theorem gol_dist2_2 : distX 23 12 3 sysB23 512 256 = true := by decide +kernel
theorem gol_dist2_3 : distX 23 12 3 sysB23 768 256 = true := by decide +kernel
theorem gol_dist2_4 : distX 23 12 3 sysB23 1024 256 = true := by decide +kernel
theorem gol_dist2_5 : distX 23 12 3 sysB23 1280 256 = true := by decide +kernel
theorem gol_dist2_6 : distX 23 12 3 sysB23 1536 256 = true := by decide +kernel
theorem gol_dist2_7 : distX 23 12 3 sysB23 1792 256 = true := by decide +kernel
theorem gol_dist2_8 : distX 23 12 3 sysB23 2048 256 = true := by decide +kernel
theorem gol_dist2_9 : distX 23 12 3 sysB23 2304 256 = true := by decide +kernel
theorem gol_dist2_10 : distX 23 12 3 sysB23 2560 256 = true := by decide +kernel
theorem gol_dist2_11 : distX 23 12 3 sysB23 2816 256 = true := by decide +kernel
theorem gol_dist2_12 : distX 23 12 3 sysB23 3072 256 = true := by decide +kernel
theorem gol_dist2_13 : distX 23 12 3 sysB23 3328 256 = true := by decide +kernel
theorem gol_dist2_14 : distX 23 12 3 sysB23 3584 256 = true := by decide +kernel
theorem gol_dist2_15 : distX 23 12 3 sysB23 3840 256 = true := by decide +kernel
theorem gol_syn3 : synTab (synG 3 11 6 2 sysBG) [0, 729, 1458, 2187, 2916, 3645, 4374, 5103, 5832, 6561, 7290, 8019, 8748, 118116, 513, 10935, 39447, 7, 13122, 13851, 14580, 15309, 5, 19845, 17496, 297, 59058, 19683, 20412, 21141, 21870, 492, 19, 24057, 13203, 118125, 26244, 2268, 252, 56, 4455, 59052, 1539, 81, 810, 32805, 59050, 60, 118341, 36, 39528, 21, 6642, 488, 39366, 40095, 40824, 41553, 59103, 6723, 43740, 11, 246, 45927, 30, 118100, 15, 244, 13284, 59535, 19764, 72, 52488, 504, 4536, 891, 1620, 162, 28, 118104, 2349, 59049, 59778, 60507, 61236, 13140, 87, 63423, 487, 39393, 65610, 4392, 19685, 1476, 18, 747, 57, 2205, 405, 72171, 189, 489, 39609, 6579, 55, 83, 19689, 118107, 78732, 12, 2214, 6804, 164, 4401, 756, 1485, 27, 168, 540, 39368, 13365, 19701, 118101, 10, 59130, 6588, 4617, 118099, 99, 243, 972, 1701, 2430, 39372, 13149, 98415, 324, 13124, 4, 118152, 495, 180, 6567, 19710, 731, 1460, 2, 108, 39384, 2189, 118584, 13128, 4376, 63, 2193, 6563, 19926, 4380, 59211, 1464, 6, 735, 118098, 118827, 119556, 120285, 19737, 245, 122472, 165, 6570, 124659, 249, 135, 163, 59067, 39369, 20169, 29, 13131, 131220, 39367, 2196, 33, 567, 4383, 738, 1467, 9, 137781, 6562, 648, 90, 39420, 13125, 8, 261, 59076, 45, 13123, 4377, 732, 1461, 3, 39852, 118179, 2190, 1459, 1, 730, 59292, 2188, 6564, 216, 4375, 19692, 157464, 4428, 24, 1512, 54, 783, 13608, 2241, 82, 2673, 171, 59051, 4860, 6615, 19686, 486, 1215, 1944, 84, 19684, 270, 20, 13176, 118260, 7047, 59055, 39375] 0 = true := by decide +kernel
theorem gol_dist3_0 : distG 3 11 6 2 sysBG 0 243 = true := by decide +kernel
theorem gol_dist3_1 : distG 3 11 6 2 sysBG 243 243 = true := by decide +kernel
theorem gol_dist3_2 : distG 3 11 6 2 sysBG 486 243 = true := by decide +kernel
theorem gol_unit2 : unitChk 2 12 sysB23 = true := by decide +kernel
theorem gol_unit3 : unitChk 3 6 sysBG = true := by decide +kernel
theorem gol_synA (s : Nat) (hs : s < 2 ^ (23 - 12)) : ∃ e, SynP 2 23 12 3 sysB23 e s := by
  have hs : s < 2048 := hs
  by_cases h0 : s < 128
  · exact synX_at gol_syn2_0 (by omega) (Nat.lt_of_lt_of_le h0 (by decide))
  by_cases h1 : s < 256
  · exact synX_at gol_syn2_1 (by omega) (Nat.lt_of_lt_of_le h1 (by decide))
  by_cases h2 : s < 384
  · exact synX_at gol_syn2_2 (by omega) (Nat.lt_of_lt_of_le h2 (by decide))
  by_cases h3 : s < 512
  · exact synX_at gol_syn2_3 (by omega) (Nat.lt_of_lt_of_le h3 (by decide))
  by_cases h4 : s < 640
  · exact synX_at gol_syn2_4 (by omega) (Nat.lt_of_lt_of_le h4 (by decide))
  by_cases h5 : s < 768
  · exact synX_at gol_syn2_5 (by omega) (Nat.lt_of_lt_of_le h5 (by decide))
  by_cases h6 : s < 896
  · exact synX_at gol_syn2_6 (by omega) (Nat.lt_of_lt_of_le h6 (by decide))
  by_cases h7 : s < 1024
  · exact synX_at gol_syn2_7 (by omega) (Nat.lt_of_lt_of_le h7 (by decide))
  by_cases h8 : s < 1152
  · exact synX_at gol_syn2_8 (by omega) (Nat.lt_of_lt_of_le h8 (by decide))
  by_cases h9 : s < 1280
  · exact synX_at gol_syn2_9 (by omega) (Nat.lt_of_lt_of_le h9 (by decide))
  by_cases h10 : s < 1408
  · exact synX_at gol_syn2_10 (by omega) (Nat.lt_of_lt_of_le h10 (by decide))
  by_cases h11 : s < 1536
  · exact synX_at gol_syn2_11 (by omega) (Nat.lt_of_lt_of_le h11 (by decide))
  by_cases h12 : s < 1664
  · exact synX_at gol_syn2_12 (by omega) (Nat.lt_of_lt_of_le h12 (by decide))
  by_cases h13 : s < 1792
  · exact synX_at gol_syn2_13 (by omega) (Nat.lt_of_lt_of_le h13 (by decide))
  by_cases h14 : s < 1920
  · exact synX_at gol_syn2_14 (by omega) (Nat.lt_of_lt_of_le h14 (by decide))
  by_cases h15 : s < 2048
  · exact synX_at gol_syn2_15 (by omega) (Nat.lt_of_lt_of_le h15 (by decide))
  omega
theorem gol_synB (s : Nat) (hs : s < 3 ^ (11 - 6)) : ∃ e, SynP 3 11 6 2 sysBG e s := synG_at gol_syn3 (Nat.zero_le _) (Nat.lt_of_lt_of_le hs (by decide))
theorem gol_distA (N : Nat) (hN : N < 2 ^ 12) (hz : N ≠ 0) : 2 * 3 < nzN (gE 2 sysB23 12 N) 23 := by
  have hN : N < 4096 := hN
  by_cases h0 : N < 256
  · exact distX_at gol_dist2_0 (by omega) (by omega) hz
  by_cases h1 : N < 512
  · exact distX_at gol_dist2_1 (by omega) (by omega) hz
  by_cases h2 : N < 768
  · exact distX_at gol_dist2_2 (by omega) (by omega) hz
  by_cases h3 : N < 1024
  · exact distX_at gol_dist2_3 (by omega) (by omega) hz
  by_cases h4 : N < 1280
  · exact distX_at gol_dist2_4 (by omega) (by omega) hz
  by_cases h5 : N < 1536
  · exact distX_at gol_dist2_5 (by omega) (by omega) hz
  by_cases h6 : N < 1792
  · exact distX_at gol_dist2_6 (by omega) (by omega) hz
  by_cases h7 : N < 2048
  · exact distX_at gol_dist2_7 (by omega) (by omega) hz
  by_cases h8 : N < 2304
  · exact distX_at gol_dist2_8 (by omega) (by omega) hz
  by_cases h9 : N < 2560
  · exact distX_at gol_dist2_9 (by omega) (by omega) hz
  by_cases h10 : N < 2816
  · exact distX_at gol_dist2_10 (by omega) (by omega) hz
  by_cases h11 : N < 3072
  · exact distX_at gol_dist2_11 (by omega) (by omega) hz
  by_cases h12 : N < 3328
  · exact distX_at gol_dist2_12 (by omega) (by omega) hz
  by_cases h13 : N < 3584
  · exact distX_at gol_dist2_13 (by omega) (by omega) hz
  by_cases h14 : N < 3840
  · exact distX_at gol_dist2_14 (by omega) (by omega) hz
  by_cases h15 : N < 4096
  · exact distX_at gol_dist2_15 (by omega) (by omega) hz
  omega
theorem gol_distB (N : Nat) (hN : N < 3 ^ 6) (hz : N ≠ 0) : 2 * 2 < nzN (gE 3 sysBG 6 N) 11 := by
  have hN : N < 729 := hN
  by_cases h0 : N < 243
  · exact distG_at gol_dist3_0 (by omega) (by omega) hz
  by_cases h1 : N < 486
  · exact distG_at gol_dist3_1 (by omega) (by omega) hz
  by_cases h2 : N < 729
  · exact distG_at gol_dist3_2 (by omega) (by omega) hz
  omega
theorem gol_one2 {y : List Int} (hl : y.length = 23) (hy : ∀ j, 0 ≤ y.getD j 0 ∧ y.getD j 0 < 2) : List.countP (fun N => decide (difN (gW 2 23 sysB23 12 N) y 23 ≤ 3)) (List.range (2 ^ 12)) = 1 :=
  gol_one (.inl rfl) (by decide) (by decide) gol_synA gol_unit2 gol_distA hl hy
theorem gol_one3 {y : List Int} (hl : y.length = 11) (hy : ∀ j, 0 ≤ y.getD j 0 ∧ y.getD j 0 < 3) : List.countP (fun N => decide (difN (gW 3 11 sysBG 6 N) y 11 ≤ 2)) (List.range (3 ^ 6)) = 1 :=
  gol_one (.inr rfl) (by decide) (by decide) gol_synB gol_unit3 gol_distB hl hy
end Go.Proofs.Ytlcgihjdafglmaa
