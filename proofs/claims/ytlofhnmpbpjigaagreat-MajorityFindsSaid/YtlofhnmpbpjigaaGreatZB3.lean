/- Texts of a claim, merged: words, plain facts and walks that the last of its texts uses. -/
import Derived.Test.YtlofhnmpbpjigaaGreatZB1
import Derived.Test.YtlofhnmpbpjigaaGreatZB2
import Derived.Deep.RegionHeld3
import Derived.BigRegion
import Derived.IntWalk
import Derived.Laws.CopyOwn
set_option linter.unusedSimpArgs false
set_option linter.unusedVariables false

namespace Go.Proofs.YtlofhnmpbpjigaaGreat
open Go.RowKit
set_option maxRecDepth 100000
set_option maxHeartbeats 2000000 in
theorem rprime_any (w : World) (n : Int) (h2 : 2 ≤ n) (hn : n ≤ 256) : Calls Tryz.prog 64 #[.int .i64 n] w fun e w' => e = .returned (.bool (primeB n)) ∧ w = w' := by
 go_enter Tryz.func64, Tryz.ntmps64
 go_wp2
 go_loop [3] (fun d => ∃ k : Int, 2 ≤ k ∧ k ≤ n ∧ d = .int .i64 k ∧ Hid (∀ e : Int, 2 ≤ e → e < k → n % e ≠ 0)) (fun d => (n - intOf d).toNat)
 case atStart => exact ⟨2, by omega, by omega, rfl, hid' fun e h1 h2 => by omega⟩
 case round =>
  obtain ⟨k, hk2, hkn, rfl, HG⟩ := hrel
  have hk0 : ¬ k = 0 := by omega
  by_cases hle : k < n
  ·by_cases hz : n % k = 0
   ·have HE : Hid (primeB n = false) := primeB_false fun hp => hp.2 k hk2 hle hz
    have hz2 : (n % k == 0) = true := by simp [hz]
    have HZ := Lib.hid hz; clear hz
    go_wp2
    go_ret
    exact ⟨by rw [HE.out]; rfl, rfl⟩
   ·have hz2 : (n % k == 0) = false := by simp [hz]
    have HZ := Lib.hid hz; clear hz
    go_wp2
    go_round
    case rel => exact ⟨k + 1, by omega, by omega, rfl, hid' fun e h1 h2 => by
     by_cases he : e = k
     ·subst he; exact HZ.out
     ·exact HG.out e h1 (by omega)⟩
    case measure => simp [intOf]; omega
  ·obtain rfl : n = k := by omega
   have HE : Hid (primeB n = true) := primeB_true ⟨h2, HG.out⟩
   go_wp2
   go_ret
   exact ⟨by rw [HE.out]; rfl, rfl⟩
set_option maxHeartbeats 16000000 in
theorem rdivides_any (w : World) (vl vm : Value) (low mod : List Int) (p : Int) (hl : SI w vl low) (hm : SI w vm mod) (hp2 : 2 ≤ p) (hp3 : p ≤ 256) (hl1 : 1 ≤ low.length) (hlm : low.length ≤ mod.length) (hm8 : mod.length ≤ 8) (hlr : Rng p low) (hmr : Rng p mod) :
   Calls Tryz.prog 98 #[vl, vm, .int .i64 p] w (RetB w (dividesB p low mod)) := by
 obtain ⟨d, hd⟩ : ∃ d, d = low.length := ⟨_, rfl⟩
 obtain ⟨n, hn⟩ : ∃ n, n = mod.length := ⟨_, rfl⟩
 obtain ⟨LA, lc, rfl, hl⟩ := hl
 obtain ⟨MA, mc, rfl, hm⟩ := hm
 have HL := Lib.hid hl.si; have HM := Lib.hid hm.si; clear hl hm
 rw [← hd] at HL hl1 hlm ⊢
 rw [← hn] at HM hlm hm8 ⊢
 have HD := Lib.hid hd; have HNN := Lib.hid hn; clear hd hn
 have HLR := Lib.hid hlr; have HMR := Lib.hid hmr; clear hlr hmr
 have hp0 : ¬ p = 0 := by omega
 go_enter Tryz.func98, Tryz.ntmps98
 have HE0 := Lib.hid (OI.empty (B := w.heap.size) w (Nat.le_refl _))
 have HM0 := Lib.hid (HM.out.below (bl_alloc w (.cells #[] 3)) (Nat.le_refl _))
 have T1 : Hid (([] : List Int).length + mod.length ≤ 17592186044416) := by show _ ≤ _; rw [← HNN.out]; simp; omega
 have T2 : Hid (([] ++ mod : List Int).length = n) := by show _ = _; rw [List.nil_append, HNN.out]
 obtain ⟨L, hLL⟩ : ∃ L, L = n + 1 := ⟨_, rfl⟩
 have T4 : Hid (([] ++ mod ++ [1] : List Int).length = L) := by show _ = _; rw [hLL, List.nil_append, List.length_append, ← HNN.out]; rfl
 have hL1 : 1 ≤ L := by omega
 have hL9 : L ≤ 9 := by omega
 have HLE := Lib.hid hLL; clear hLL
 have T3 : Hid (w.heap.size ≤ (w.alloc (.cells #[] 3)).heap.size) := by show _ ≤ _; simp
 have HB0 := Lib.hid (bl_alloc w (.cells #[] 3))
 go_wp2_with (first
   | (at_builtin; refine wpList_catI rfl _ _ rfl w.heap.size _ _ rfl HE0.out _ mod rfl HM0.out T1.out T3.out ?_; (intro v1 w1 ho hg hv1); go_must (have HB1 := Lib.hid (HE0.out.bgrown HB0.out T3.out hg); obtain ⟨G, gc, rfl, hG1, hG2⟩ := ho.form (by rw [T2.out]; omega); rw [T2.out] at ho ⊢; have HP := Lib.hid (PushI.mk' (w0 := w) ho HB1.out HB1.out.size 1); clear ho hg hv1))
   | (at_builtin; refine wpList_pushI rfl _ _ rfl w.heap.size _ ([] ++ mod) rfl HP.out.own w1.heap.size 1 1 rfl HP.out.box (by rw [T2.out]; omega) HP.out.up ?_; (intro v2 w2 ho hg); go_must (have HB2 := Lib.hid (HP.out.below (Nat.le_refl _) hg); obtain ⟨G2, gc2, rfl, hG21, hG22⟩ := ho.form (by simp); rw [T4.out] at ho ⊢; have HO2 := Lib.hid ho; clear ho hg)))
 rw [List.nil_append] at HO2
 obtain ⟨r0, hr0⟩ : ∃ r0, r0 = mod ++ [1] := ⟨_, rfl⟩
 rw [← hr0] at HO2
 have HR0L : Hid (r0.length = n + 1) := by show _ = _; rw [hr0, List.length_append, ← HNN.out]; rfl
 have HR0R : Hid (Rng p r0) := by
   rw [hr0]
   intro k
   by_cases hk : k < mod.length
   · have e : (mod ++ [(1 : Int)]).getD k 0 = mod.getD k 0 := by simp [List.getD, List.getElem?_append_left hk]
     rw [e]; exact HMR.out k
   · by_cases hk2 : k = mod.length
     · subst hk2
       have e : (mod ++ [(1 : Int)]).getD mod.length 0 = 1 := by simp [List.getD]
       rw [e]; omega
     · rw [getD_len (by rw [List.length_append, List.length_singleton]; omega)]; omega
 have HDV : Hid (dividesB p low mod = (divTo p low r0 (n + 1 - d)).all (· == 0)) := by show _ = _; unfold dividesB; rw [← hr0, ← HNN.out, ← HD.out]
 clear hr0
 clear T1 T2 T3 T4 HE0 HM0 HP HB0 HB1
 go_loopw [9] (fun i wr => ∃ t I : Nat, t ≤ n + 1 - d ∧ I + t = n ∧ i = .int .i64 (I : Int) ∧ Hid (OI w.heap.size wr (.slice (some ⟨G2, 0, none⟩) L gc2) (divTo p low r0 t)) ∧ Hid (Below w.heap.size w wr)) (fun i _ => (intOf i).toNat)
 case atStart => exact ⟨0, n, Nat.zero_le _, rfl, by have := HLE.out; congr 1; omega, HO2, HB2⟩
 case round =>
   clear HO2 HB2
   obtain ⟨t, I, ht, hI, rfl, HO, HB⟩ := hrel
   obtain ⟨r, hr⟩ : ∃ r, r = divTo p low r0 t := ⟨_, rfl⟩
   rw [← hr] at HO
   have HRL : Hid (r.length = n + 1) := by show _ = _; rw [hr, divTo_len, HR0L.out]
   have hIL : I < L := by have := HLE.out; omega
   have HRR : Hid (Rng p r) := by rw [hr]; exact divTo_rng hp2 low r0 HR0R.out t
   by_cases hlt : d ≤ I
   · have ci := HO.out.cell I (by rw [HRL.out]; omega)
     obtain ⟨q, hq⟩ : ∃ q, q = r.getD I 0 := ⟨_, rfl⟩
     rw [← hq] at ci
     have HNX : Hid (divTo p low r0 (t + 1) = (divRow p low q I d r).set I 0) := by
       show _ = _
       rw [divTo, HR0L.out, show n + 1 - 1 - t = I by omega, ← hr, ← hq, HD.out]
     have hqr := HRR.out I
     rw [← hq] at hqr
     obtain ⟨hq0, hq1⟩ := hqr
     have hI8 : I ≤ 8 := by omega
     have hIn : I < n + 1 := by omega
     clear hr hq
     go_wp2_with fail
     clear ci
     go_loopw [11] (fun j wr => ∃ k : Nat, k ≤ d ∧ j = .int .i64 (k : Int) ∧ Hid (OI w.heap.size wr (.slice (some ⟨G2, 0, none⟩) L gc2) (divRow p low q I k r)) ∧ Hid (Below w.heap.size w wr)) (fun j _ => (d - intOf j).toNat)
     case atStart => exact ⟨0, Nat.zero_le _, rfl, HO, HB⟩
     case round =>
       clear HO HB
       obtain ⟨j, hj, rfl, HO, HB⟩ := hrel
       obtain ⟨cc, hcc⟩ : ∃ cc, cc = divRow p low q I j r := ⟨_, rfl⟩
       rw [← hcc] at HO
       have HCL : Hid (cc.length = n + 1) := by show _ = _; rw [hcc, divRow_len, HRL.out]
       by_cases hltj : j < d
       · obtain ⟨la, q2, rfl, cl, _, HQ2⟩ := (HL.out.below HB.out (Nat.le_refl _)).elt (k := j) (by rw [← HD.out]; exact hltj)
         have hmj := HLR.out j
         rw [HQ2.out] at hmj
         obtain ⟨hm0, hm1⟩ := hmj
         have hrr := divRow_rng hp2 low q I j r HRR.out
         rw [← hcc] at hrr
         obtain ⟨D, hDD⟩ : ∃ D, D = I - d := ⟨_, rfl⟩
         obtain ⟨T, hT⟩ : ∃ T, T = D + j := ⟨_, rfl⟩
         have hTL : T < n + 1 := by omega
         have hTn : T < L := by have := HLE.out; omega
         have hw1 : IntKind.i64.wrap ((I : Int) - (d : Int)) = (D : Int) := by rw [IntWalk.i64_in _ (by omega)]; omega
         have hw2 : IntKind.i64.wrap ((D : Int) + (j : Int)) = (T : Int) := by rw [IntWalk.i64_in _ (by omega)]; omega
         have hrow : divRow p low q I (j + 1) r = cc.set T ((cc.getD T 0 + (p - q) * q2) % p) := by rw [divRow, ← hcc, HQ2.out, ← HD.out, ← hDD, ← hT]
         have HROW := Lib.hid hrow
         have ck := HO.out.cell T (by rw [HCL.out]; exact hTL)
         have fk := HO.out.frozen T
         have HSET := Lib.hid (HO.out.set T ((cc.getD T 0 + (p - q) * q2) % p))
         have hr3 := hrr T
         generalize cc.getD T 0 = q3 at *
         clear hcc hrow hrr
         have HT := Lib.hid hT; have HDH := Lib.hid hDD; clear hT hDD
         obtain ⟨hr30, hr31⟩ := hr3
         have hs0 : 0 ≤ p - q := by omega
         have hmm0 : 0 ≤ (p - q) * q2 := Int.mul_nonneg hs0 hm0
         have hmm1 : (p - q) * q2 ≤ 256 * 256 := Int.mul_le_mul (by omega) (by omega) hm0 (by omega)
         go_wp2_with fail
         go_still_tail 26, (by kernel_rfl)
         change wpList _ _ _ _ _ wr.drew
         go_wp2_with fail
         exact ⟨⟨j + 1, by omega, rfl, by rw [HROW.out]; exact HSET.out.below (bl_drew _) (Nat.le_refl _), (HB.out.setCell hG21 _).drew⟩, by simp only [intOf]; omega⟩
       · obtain rfl : d = j := by omega
         have ck := HO.out.cell I (by rw [HCL.out]; exact hIn)
         have fk := HO.out.frozen I
         have HSET := Lib.hid (HO.out.set I 0)
         rw [hcc] at HSET
         generalize cc.getD I 0 = q3 at *
         clear hcc
         go_wp2_with fail
         exact ⟨⟨t + 1, I - 1, by omega, by omega, by congr 1; omega, by rw [HNX.out]; exact HSET, HB.out.setCell hG21 _⟩, by simp only [intOf]; omega⟩
   · obtain rfl : t = n + 1 - d := by omega
     rw [← hr] at HDV
     clear hr
     go_wp2_with fail
     go_loop [12] (fun i => ∃ k : Nat, k ≤ L ∧ i = .int .i64 (k : Int) ∧ Hid (∀ j, j < k → r.getD j 0 = 0)) (fun i => (L - intOf i).toNat)
     case atStart => exact ⟨0, Nat.zero_le _, rfl, hid' fun j hj => absurd hj (by omega)⟩
     case round =>
       obtain ⟨k, hk, rfl, HG⟩ := hrel
       by_cases hltk : k < L
       · have ck := HO.out.cell k (by rw [HRL.out, ← HLE.out]; exact hltk)
         obtain ⟨q, hq⟩ : ∃ q, q = r.getD k 0 := ⟨_, rfl⟩
         rw [← hq] at ck
         by_cases hz : q = 0
         · have hb : (q != 0) = false := by simp [hz]
           have HQ := Lib.hid hq; have HZ := Lib.hid hz; clear hq hz
           go_wp2_with fail
           exact ⟨⟨k + 1, by omega, rfl, hid' fun j hj => by
             by_cases e : j = k
             · subst e; rw [← HQ.out]; exact HZ.out
             · exact HG.out j (by omega)⟩, by simp only [intOf]; omega⟩
         · have hb : (q != 0) = true := by simp [hz]
           have HE : Hid (dividesB p low mod = false) := by
             show _ = _
             rw [HDV.out, List.all_eq_false]
             exact ⟨q, by rw [hq]; exact getD_mem_or k (by rw [HRL.out, ← HLE.out]; exact hltk), by simp [hz]⟩
           clear hq hz
           go_wp2_with fail
           go_ret
           exact ⟨by rw [HE.out]; rfl, HB.out⟩
       · have HE : Hid (dividesB p low mod = true) := by
           show _ = _
           rw [HDV.out, List.all_eq_true]
           intro x hx
           obtain ⟨i, hi, rfl⟩ := List.mem_iff_getElem.1 hx
           have := HG.out i (by rw [HRL.out, ← HLE.out] at hi; omega)
           simp [List.getD, hi] at this
           simp [this]
         go_wp2_with fail
         go_ret
         exact ⟨by rw [HE.out]; rfl, HB.out⟩
theorem pow_half {p : Int} (hp2 : 2 ≤ p) {n e : Nat} (hq : p ^ n ≤ 256) (he : 2 * (e + 1) ≤ n) : 2 ≤ p ^ (e + 1) ∧ p ^ (e + 1) ≤ 256 := by
 have h1 := pow_mono' hp2 (show e + 1 ≤ n by omega)
 have h2 := pow_mono' hp2 (show 1 ≤ e + 1 by omega)
 rw [Int.pow_one] at h2
 omega
set_option maxHeartbeats 8000000 in
theorem rirr_any (w : World) (vm : Value) (mod : List Int) (p : Int) (hm : SI w vm mod) (hp2 : 2 ≤ p) (hp3 : p ≤ 256) (hm8 : mod.length ≤ 8) (hq : p ^ mod.length ≤ 256) (hmr : Rng p mod) :
   Calls Tryz.prog 65 #[vm, .int .i64 p] w (RetB w (irrB p mod)) := by
 obtain ⟨n, hn⟩ : ∃ n, n = mod.length := ⟨_, rfl⟩
 obtain ⟨MA, mc, rfl, hm⟩ := hm
 have HM := Lib.hid hm.si; clear hm
 rw [← hn] at HM hm8 hq ⊢
 have HNN := Lib.hid hn; clear hn
 have HMR := Lib.hid hmr; clear hmr
 have HQ := Lib.hid hq; clear hq
 have HIR : Hid (irrB p mod = irrTo p mod (n / 2)) := by show _ = _; unfold irrB; rw [← HNN.out]
 go_enter Tryz.func65, Tryz.ntmps65
 go_wp2_with fail
 go_loopw [5, 6] (fun c d wr => ∃ (e D : Nat) (z : Int), e ≤ n / 2 ∧ D = e + 1 ∧ c = .int .i64 z ∧ d = .int .i64 (D : Int) ∧ Hid (z = p ^ e) ∧ Hid (irrTo p mod e = true) ∧ Hid (Below w.heap.size w wr)) (fun _ d _ => (n + 1 - intOf d).toNat)
 case atStart => exact ⟨0, 1, 1, Nat.zero_le _, rfl, rfl, rfl, by show _ = _; rw [Int.pow_zero], rfl, bl_refl _⟩
 case round =>
   obtain ⟨e, D, z, he, hD, rfl, rfl, HZ, HI, HB⟩ := hrel
   by_cases hlt : 2 * D ≤ n
   · have hpw := pow_half (e := e) hp2 HQ.out (by omega)
     have hzp : z * p = p ^ (e + 1) := by rw [HZ.out, Int.pow_succ]
     obtain ⟨V, hV⟩ : ∃ V : Nat, p ^ (e + 1) = (V : Int) := ⟨(p ^ (e + 1)).toNat, by omega⟩
     rw [hV] at hzp hpw
     have HV : Hid ((p ^ (e + 1)).toNat = V) := by rw [hV]; rfl
     have HVP := Lib.hid hV; clear hV
     obtain ⟨hpw1, hpw2⟩ := hpw
     have hlt2 : 2 * (D : Int) ≤ (n : Int) := by omega
     have hz0 : 0 ≤ z := by rw [HZ.out]; have := pow_pos' hp2 e; omega
     have HDE := Lib.hid hD; clear hD
     have hD1 : 1 ≤ D := by have := HDE.out; omega
     have hDn : D ≤ n := by omega
     go_wp2_with fail
     clear hzp hz0
     go_loopw [7] (fun v wr => ∃ k : Nat, k ≤ V ∧ v = .int .i64 (k : Int) ∧ Hid (noneTo p mod D k = true) ∧ Hid (Below w.heap.size w wr)) (fun v _ => (V - intOf v).toNat)
     case atStart => exact ⟨0, Nat.zero_le _, rfl, rfl, HB⟩
     case round =>
       clear HB
       obtain ⟨k, hk, rfl, HN, HB⟩ := hrel
       by_cases hltk : k < V
       · go_wp2_with fail
         refine (rdigits_any _ _ _ _ (by omega) (by omega) hp2 (by omega) (by omega) (by omega)).mono ?_
         rintro e1 w1 ⟨u, rfl, hu, hb1⟩
         rw [show ((D : Int)).toNat = D from Int.toNat_natCast D] at hu
         have hs := hu.si (by rw [digitsF_len]; omega) (fun i => by have := digitsF_range (x := (k : Int)) (m := D) hp2 i; exact I64.of_small (by omega) (by omega))
         have HS := Lib.hid hs; clear hs hu
         have HB1 := Lib.hid (bl_trans HB.out hb1); clear hb1
         go_wp2_with fail
         refine (rdivides_any _ _ _ (digitsF k p D) mod p HS.out (HM.out.below HB1.out (Nat.le_refl _)) hp2 hp3 (by rw [digitsF_len]; exact hD1) (by rw [digitsF_len, ← HNN.out]; exact hDn) (by rw [← HNN.out]; exact hm8) (fun i => digitsF_range hp2 i) HMR.out).mono ?_
         rintro e2 w2 ⟨rfl, hb2⟩
         have HB2 := Lib.hid (bl_trans HB1.out hb2); clear hb2
         by_cases hdv : dividesB p (digitsF k p D) mod = true
         · have HE : Hid (irrB p mod = false) := by
             show _ = _
             rw [HIR.out]
             exact irrTo_false (d := e) (by have := HDE.out; omega) (by rw [HV.out, ← HDE.out]; exact noneTo_false hltk hdv)
           rw [hdv]
           clear hdv
           go_wp2_with fail
           go_ret
           exact ⟨by rw [HE.out]; rfl, HB2.out⟩
         · have hdf : dividesB p (digitsF k p D) mod = false := by simpa using hdv
           have HE : Hid (noneTo p mod D (k + 1) = true) := by show _ = _; rw [noneTo_succ, HN.out, hdf]; rfl
           rw [hdf]
           clear hdv hdf
           go_wp2_with fail
           exact ⟨⟨k + 1, by omega, rfl, HE, HB2⟩, by simp only [intOf]; omega⟩
       · obtain rfl : V = k := by omega
         have HE : Hid (irrTo p mod (e + 1) = true) := by show _ = _; rw [irrTo_succ, HI.out, HV.out, ← HDE.out, HN.out]; rfl
         go_wp2_with fail
         exact ⟨⟨e + 1, D + 1, _, by have := HDE.out; omega, by have := HDE.out; omega, rfl, rfl, HVP.out.symm, HE, HB⟩, by simp only [intOf]; omega⟩
   · have HE : Hid (irrB p mod = true) := by
       show _ = _
       rw [HIR.out, show n / 2 = e by omega, HI.out]
     have hlt2 : (n : Int) < 2 * (D : Int) := by omega
     clear hlt
     go_wp2_with fail
     go_ret
     exact ⟨by rw [HE.out]; rfl, HB.out⟩
def FieldP (P M : Int) (Mod : List Int) : Prop := orderF P M ≠ 0 ∧ PrimeP P ∧ ModP P M Mod ∧ (M ≠ 1 → irrB P Mod = true)
noncomputable def checkF (P M : Int) (Mod : List Int) : Int := @ite _ (FieldP P M Mod) (Classical.propDecidable _) 0 1
theorem checkF_ok {P M : Int} {Mod : List Int} (h : FieldP P M Mod) : checkF P M Mod = 0 := by unfold checkF; rw [if_pos h]
theorem checkF_bad {P M : Int} {Mod : List Int} (h : ¬ FieldP P M Mod) : checkF P M Mod = 1 := by unfold checkF; rw [if_neg h]
set_option maxHeartbeats 8000000 in
theorem rCheck_any (w : World) (P M : Int) (mv : Value) (Mod : List Int) (hm : SI w mv Mod) :
   Calls Tryz.prog 30 #[.agg #[.int .i64 P, .int .i64 M, mv]] w (RetI w (checkF P M Mod)) := by
 obtain ⟨MA, mc, rfl, hm⟩ := hm
 have hn := hm.len
 have HM := Lib.hid hm.si; clear hm
 have HF := Lib.hid (FBox.mk' w P M (.slice MA Mod.length mc))
 by_cases ho : orderF P M = 0
 · have HE : Hid (checkF P M Mod = 1) := checkF_bad fun h => h.1 ho
   have HO := Lib.hid ho; clear ho
   go_enter Tryz.func30, Tryz.ntmps30
   go_wp2_with fail
   refine (order_any _ P M _).mono ?_
   rintro e w1 ⟨rfl, hb1⟩
   rw [HO.out]
   have HB1 := Lib.hid (bl_trans (bl_alloc _ _) hb1); clear hb1
   go_wp2_with fail
   go_ret
   exact ⟨by rw [HE.out]; rfl, HB1.out⟩
 obtain ⟨hP2, hP3, hM1, hM8, hq, hqq⟩ := order_ne ho
 clear hqq
 have ho2 : (orderF P M == 0) = false := by rw [beq_eq_false_iff_ne]; exact ho
 have HO := Lib.hid ho; clear ho
 generalize hoo : orderF P M = o at *
 have HOO := Lib.hid hoo; clear hoo
 by_cases hp : PrimeP P
 case neg =>
   have HE : Hid (checkF P M Mod = 1) := checkF_bad fun h => hp h.2.1
   have HP : Hid (primeB P = false) := primeB_false hp
   clear hp hq
   go_enter Tryz.func30, Tryz.ntmps30
   go_wp2_with fail
   refine (order_any _ P M _).mono ?_
   rintro e w1 ⟨rfl, hb1⟩
   rw [HOO.out]
   have HF1 := Lib.hid (HF.out.on hb1); clear hb1
   have c0 := HF1.out.c0
   go_wp2_with fail
   refine (rprime_any _ P hP2 hP3).mono ?_
   rintro e w2 ⟨rfl, rfl⟩
   rw [HP.out]
   go_wp2_with fail
   go_ret
   exact ⟨by rw [HE.out]; rfl, HF1.out.bel⟩
 have HPP := Lib.hid hp
 have HP : Hid (primeB P = true) := primeB_true hp
 clear hp
 go_enter Tryz.func30, Tryz.ntmps30
 go_wp2_with fail
 refine (order_any _ P M _).mono ?_
 rintro e w1 ⟨rfl, hb1⟩
 rw [HOO.out]
 have HF1 := Lib.hid (HF.out.on hb1); clear hb1
 have c0 := HF1.out.c0; have c1 := HF1.out.c1; have c2 := HF1.out.c2
 go_wp2_with fail
 refine (rprime_any _ P hP2 hP3).mono ?_
 rintro e w2 ⟨rfl, rfl⟩
 rw [HP.out]
 by_cases hM : M = 1
 · have hMb : (M == 1) = true := by rw [beq_iff_eq]; exact hM
   by_cases hl : Mod.length = 0
   · have hlb : (((Mod.length : Nat) : Int) != 0) = false := by simp; exact List.eq_nil_of_length_eq_zero hl
     have HE : Hid (checkF P M Mod = 0) := checkF_ok ⟨by rw [HOO.out]; exact HO.out, HPP.out, ⟨fun _ => List.eq_nil_of_length_eq_zero hl, fun h => absurd hM h⟩, fun h => absurd hM h⟩
     clear hM hl hq
     go_wp2_with fail
     go_ret
     exact ⟨by rw [HE.out]; rfl, HF1.out.bel⟩
   · have hlb : (((Mod.length : Nat) : Int) != 0) = true := by rw [bne_iff_ne]; omega
     have HE : Hid (checkF P M Mod = 1) := checkF_bad fun h => hl (by rw [h.2.2.1.1 hM]; rfl)
     clear hM hl hq
     go_wp2_with fail
     go_ret
     exact ⟨by rw [HE.out]; rfl, HF1.out.bel⟩
 have hMb : (M == 1) = false := by rw [beq_eq_false_iff_ne]; exact hM
 have HMne := Lib.hid hM; clear hM
 by_cases hl : (Mod.length : Int) = M
 case neg =>
   have hlb : (((Mod.length : Nat) : Int) != M) = true := by rw [bne_iff_ne]; exact hl
   have HE : Hid (checkF P M Mod = 1) := checkF_bad fun h => hl (h.2.2.1.2 HMne.out).1
   clear hl hq
   go_wp2_with fail
   go_ret
   exact ⟨by rw [HE.out]; rfl, HF1.out.bel⟩
 have hlb : (((Mod.length : Nat) : Int) != M) = false := by rw [bne_eq_false_iff_eq]; exact hl
 have HL := Lib.hid hl; clear hl
 have HQ := Lib.hid hq; clear hq
 go_wp2_with fail
 obtain ⟨wo, hwo⟩ : ∃ wo, wo = w1 := ⟨_, rfl⟩
 clear hlb
 go_loopw [3] (fun i wr => ∃ k : Nat, k ≤ Mod.length ∧ i = .int .i64 (k : Int) ∧ Hid (∀ j, j < k → 0 ≤ Mod.getD j 0 ∧ Mod.getD j 0 < P) ∧ Hid (FBox w wr P M (.slice MA Mod.length mc))) (fun i _ => (M - intOf i).toNat)
 case atStart => exact ⟨0, Nat.zero_le _, rfl, hid' fun j hj => absurd hj (by omega), HF1⟩
 case round =>
   clear c0 c1 c2
   obtain ⟨k, hk, rfl, HG, HFR⟩ := hrel
   have c0 := HFR.out.c0; have c1 := HFR.out.c1; have c2 := HFR.out.c2
   by_cases hlt : k < Mod.length
   · obtain ⟨ad, x, rfl, hc, _, HX⟩ := (HM.out.below HFR.out.bel (Nat.le_refl _)).elt hlt
     have hltM : (k : Int) < M := by have := HL.out; omega
     by_cases hx0 : x < 0
     · have HE : Hid (checkF P M Mod = 1) := checkF_bad fun h => by
         have := ((h.2.2.1.2 HMne.out).2 k hlt).1; rw [HX.out] at this; omega
       have d1 : decide (x < 0) = true := by simp [hx0]
       go_wp2_with fail
       go_quiet (fail)
       go_wp2_with fail
       go_ret
       exact ⟨by rw [HE.out]; rfl, (HFR.out.drewN _).bel⟩
     · have d1 : decide (x < 0) = false := by simp; omega
       by_cases hx1 : P ≤ x
       · have HE : Hid (checkF P M Mod = 1) := checkF_bad fun h => by
           have := ((h.2.2.1.2 HMne.out).2 k hlt).2; rw [HX.out] at this; omega
         go_wp2_with fail
         go_quiet (fail)
         go_wp2_with fail
         go_ret
         exact ⟨by rw [HE.out]; rfl, (HFR.out.drewN _).bel⟩
       · have d2 : decide (P ≤ x) = false := by simp; omega
         go_wp2_with fail
         go_quiet (fail)
         go_wp2_with fail
         exact ⟨⟨k + 1, by omega, rfl, hid' fun j hj => by
           by_cases e : j = k
           · subst e; rw [HX.out]; omega
           · exact HG.out j (by omega), HFR.out.drewN _⟩, by simp only [intOf]; omega⟩
   · have hkM : (k : Int) = M := by have := HL.out; omega
     have hge : M ≤ (k : Int) := by omega
     have HKM := Lib.hid hkM; clear hkM
     have HMP : Hid (ModP P M Mod) := ⟨fun h => absurd h HMne.out, fun _ => ⟨HL.out, fun j hj => HG.out j (by have := HL.out; have := HKM.out; omega)⟩⟩
     have HRNG : Hid (Rng P Mod) := fun j => by
       by_cases hj : j < Mod.length
       · exact (HMP.out.2 HMne.out).2 j hj
       · rw [getD_len (by omega)]; omega
     have hlt' : ¬ (k : Int) < M := by omega
     go_wp2_with fail
     refine (rirr_any _ _ Mod P (HM.out.below HFR.out.bel (Nat.le_refl _)) hP2 hP3 (by have := HL.out; omega) (by
       have := HQ.out; rwa [show M.toNat = Mod.length by have := HL.out; omega] at this) HRNG.out).mono ?_
     rintro e w3 ⟨rfl, hb3⟩
     have HF3 := Lib.hid (HFR.out.on hb3); clear hb3
     by_cases hir : irrB P Mod = true
     · have HE : Hid (checkF P M Mod = 0) := checkF_ok ⟨by rw [HOO.out]; exact HO.out, HPP.out, HMP.out, fun _ => hir⟩
       rw [hir]
       clear hir
       go_wp2_with fail
       go_ret
       exact ⟨by rw [HE.out]; rfl, HF3.out.bel⟩
     · have hif : irrB P Mod = false := by simpa using hir
       have HE : Hid (checkF P M Mod = 1) := checkF_bad fun h => hir (h.2.2.2 HMne.out)
       rw [hif]
       clear hir hif
       go_wp2_with fail
       go_ret
       exact ⟨by rw [HE.out]; rfl, HF3.out.bel⟩
def ShapeP (P M : Int) (Mod : List Int) : Prop := orderF P M ≠ 0 ∧ PrimeP P ∧ ModP P M Mod
noncomputable def shapeB (P M : Int) (Mod : List Int) : Bool := @decide (ShapeP P M Mod) (Classical.propDecidable _)
theorem shapeB_true {P M : Int} {Mod : List Int} (h : ShapeP P M Mod) : shapeB P M Mod = true := by unfold shapeB; simp [h]
theorem shapeB_false {P M : Int} {Mod : List Int} (h : ¬ ShapeP P M Mod) : shapeB P M Mod = false := by unfold shapeB; simp [h]
set_option maxHeartbeats 4000000 in
theorem shape_any (w : World) (P M : Int) (mv : Value) (Mod : List Int) (h : SI w mv Mod) :
  Calls Tryz.prog 86 #[.agg #[.int .i64 P, .int .i64 M, mv]] w (RetB w (shapeB P M Mod)) := by
 obtain ⟨A, c, rfl, h⟩ := h
 have hn := h.len
 have H := Lib.hid (h.below (bl_alloc w (.cells #[.int .i64 P, .int .i64 M, .slice A Mod.length c] 24)) (Nat.le_refl _)); clear h
 by_cases ho : orderF P M = 0
 ·have HE : Hid (shapeB P M Mod = false) := shapeB_false fun hs => hs.1 ho
  generalize hoo : orderF P M = o at *
  have HO := Lib.hid hoo; clear hoo
  subst ho
  go_enter Tryz.func86, Tryz.ntmps86
  go_wp2_with fail
  refine (forder_any _ _ _).mono ?_
  rintro e w1 ⟨rfl, rfl⟩
  rw [HO.out]
  go_wp2_with fail
  go_ret
  exact ⟨by rw [HE.out]; rfl, bl_alloc _ _⟩
 obtain ⟨hP2, hP3, hM1, hM8, hx1, hx2⟩ := order_ne ho
 clear hx1 hx2
 have ho2 : (orderF P M == 0) = false := by simp [ho]
 have HO := Lib.hid ho; clear ho
 by_cases hp : PrimeP P
 case neg =>
  have HE : Hid (shapeB P M Mod = false) := shapeB_false fun hs => hp hs.2.1
  have HPB : Hid (primeB P = false) := primeB_false hp
  clear hp
  go_enter Tryz.func86, Tryz.ntmps86
  go_wp2_with fail
  refine (forder_any _ _ _).mono ?_
  rintro e w1 ⟨rfl, rfl⟩
  go_wp2_with fail
  refine (isPrime_any _ _ hP2 hP3).mono ?_
  rintro e w1 ⟨rfl, rfl⟩
  rw [HPB.out]
  go_wp2_with fail
  go_ret
  exact ⟨by rw [HE.out]; rfl, bl_alloc _ _⟩
 have HPB : Hid (primeB P = true) := primeB_true hp
 have HPP := Lib.hid hp; clear hp
 by_cases hm1 : M = 1
 ·have hm2 : (M == 1) = true := by simp [hm1]
  have HS : Hid (shapeB P M Mod = decide (Mod.length = 0)) := by
   have : shapeB P M Mod = decide (Mod.length = 0) := by
    by_cases hz : Mod = []
    ·rw [shapeB_true ⟨HO.out, HPP.out, fun _ => hz, fun h => absurd hm1 h⟩]; simp [hz]
    ·rw [shapeB_false fun hs => hz (hs.2.2.1 hm1)]; simp [hz]
   exact this
  clear hm1
  go_enter Tryz.func86, Tryz.ntmps86
  go_wp2_with fail
  refine (forder_any _ _ _).mono ?_
  rintro e w1 ⟨rfl, rfl⟩
  go_wp2_with fail
  refine (isPrime_any _ _ hP2 hP3).mono ?_
  rintro e w1 ⟨rfl, rfl⟩
  rw [HPB.out]
  by_cases hz : Mod.length = 0
  ·have hz1 : (((Mod.length : Nat) : Int) == 0) = true := by simp [hz]
   have HSE : Hid (shapeB P M Mod = true) := by rw [HS.out]; simp [hz, Hid]
   clear hz
   go_wp2_with fail
   go_ret
   exact ⟨by rw [HSE.out]; rfl, bl_alloc _ _⟩
  ·have hz1 : (((Mod.length : Nat) : Int) == 0) = false := by simp; exact fun h => hz (by simp [h])
   have HSE : Hid (shapeB P M Mod = false) := by rw [HS.out]; simp [hz, Hid]
   clear hz
   go_wp2_with fail
   go_ret
   exact ⟨by rw [HSE.out]; rfl, bl_alloc _ _⟩
 have hm2 : (M == 1) = false := by simp [hm1]
 have HM1 := Lib.hid hm1; clear hm1
 by_cases hl : (Mod.length : Int) = M
 case neg =>
  have HE : Hid (shapeB P M Mod = false) := shapeB_false fun hs => hl (hs.2.2.2 HM1.out).1
  have hl2 : ((Mod.length : Int) != M) = true := by simp [hl]
  clear hl
  go_enter Tryz.func86, Tryz.ntmps86
  go_wp2_with fail
  refine (forder_any _ _ _).mono ?_
  rintro e w1 ⟨rfl, rfl⟩
  go_wp2_with fail
  refine (isPrime_any _ _ hP2 hP3).mono ?_
  rintro e w1 ⟨rfl, rfl⟩
  rw [HPB.out]
  go_wp2_with fail
  go_ret
  exact ⟨by rw [HE.out]; rfl, bl_alloc _ _⟩
 have hl2 : ((Mod.length : Int) != M) = false := by simp [hl]
 have HL := Lib.hid hl; clear hl
 go_enter Tryz.func86, Tryz.ntmps86
 go_wp2_with fail
 refine (forder_any _ _ _).mono ?_
 rintro e w1 ⟨rfl, rfl⟩
 go_wp2_with fail
 refine (isPrime_any _ _ hP2 hP3).mono ?_
 rintro e w1 ⟨rfl, rfl⟩
 rw [HPB.out]
 go_wp2_with fail
 clear hl2
 go_loop [33] (fun i => ∃ k : Nat, k ≤ Mod.length ∧ i = .int .i64 k ∧ Hid (∀ j, j < k → 0 ≤ Mod.getD j 0 ∧ Mod.getD j 0 < P)) (fun i => Mod.length - (intOf i).toNat)
 case atStart => exact ⟨0, Nat.zero_le _, rfl, hid' fun j hj => absurd hj (by omega)⟩
 case round =>
  obtain ⟨k, hk, rfl, HG⟩ := hrel
  by_cases hlt : k < Mod.length
  ·obtain ⟨ad, x, rfl, hc, _, HX⟩ := H.out.elt hlt
   by_cases hx : 0 ≤ x ∧ x < P
   ·obtain ⟨hx0, hx1⟩ := hx
    go_wp2_with fail
    go_round
    case rel => exact ⟨k + 1, by omega, by go_num, hid' fun j hj => by
     by_cases e : j = k
     ·subst e; rw [HX.out]; omega
     ·exact HG.out j (by omega)⟩
    case measure => simp [intOf]; omega
   ·have HE : Hid (shapeB P M Mod = false) := shapeB_false fun hs => hx (by have := (hs.2.2.2 HM1.out).2 k hlt; rwa [HX.out] at this)
    by_cases hx0 : x < 0
    ·go_wp2_with fail
     go_ret
     exact ⟨by rw [HE.out]; rfl, bl_alloc _ _⟩
    ·have hx1 : P ≤ x := by omega
     go_wp2_with fail
     go_ret
     exact ⟨by rw [HE.out]; rfl, bl_alloc _ _⟩
  ·obtain rfl : k = Mod.length := by omega
   have HE : Hid (shapeB P M Mod = true) := shapeB_true ⟨HO.out, HPP.out, fun h => absurd h HM1.out, fun _ => ⟨HL.out, HG.out⟩⟩
   go_wp2_with fail
   go_ret
   exact ⟨by rw [HE.out]; rfl, bl_alloc _ _⟩
theorem sizeInt : (Tryz.prog.info? 3).map (·.size) = some 1 := by
 obtain ⟨i, hi, hz⟩ := Option.map_eq_some_iff.1 Tryz.infoInt
 simp only [Prod.mk.injEq] at hz
 rw [hi]; simp [hz.2.1]
theorem shift_splice {o : List Int} {N e : Nat} (hl : o.length = N) (he : e + 1 = N) : splice (o.map (Value.int .i64)) 1 ((o.take e).map (Value.int .i64)) = (o.take 1 ++ o.take e).map (Value.int .i64) := by
 unfold splice
 rw [List.map_append, List.map_take (l := o) (i := 1)]
 congr 1
 rw [List.drop_eq_nil_of_le (by simp; omega), List.append_nil]
theorem shift_set {o : List Int} {N e : Nat} (hl : o.length = N) (he : e + 1 = N) : (o.take 1 ++ o.take e).set 0 0 = shiftF N o := by
 refine List.ext_getElem (by simp [shiftF]; omega) fun i h1 h2 => ?_
 simp only [List.length_set, List.length_append, List.length_take] at h1
 by_cases h : i = 0
 ·subst h; simp [shiftF]
 ·obtain ⟨j, rfl⟩ : ∃ j, i = j + 1 := ⟨i - 1, by omega⟩
  rw [List.getElem_set_ne (by omega), List.getElem_append_right (by simp; omega)]
  have hj : j < o.length := by omega
  simp [shiftF, List.getD, hj, show min 1 o.length = 1 by omega]
set_option maxHeartbeats 8000000 in
theorem multiply_any (w : World) (P M x y : Int) (mv : Value) (Mod : List Int) (h : SI w mv Mod) (hs : ShapeP P M Mod) (hx0 : 0 ≤ x) (hx1 : x < orderF P M) (hy0 : 0 ≤ y) (hy1 : y < orderF P M) :
   Calls Tryz.prog 121 #[.agg #[.int .i64 P, .int .i64 M, mv], .int .i64 x, .int .i64 y] w (RetI w (mulF P M Mod x y)) := by
 obtain ⟨hP2, hP3, hM1, hM8, hq, hqq⟩ := order_ne hs.1
 have hx2 : x ≤ 256 := by omega
 have hy2 : y ≤ 256 := by omega
 have HS := Lib.hid hs; clear hs
 have HQ := Lib.hid hq; clear hq
 clear hqq hx1 hy1
 have HM0 := Lib.hid h; clear h
 obtain ⟨N, hN⟩ : ∃ N : Nat, (N : Int) = M := ⟨M.toNat, by omega⟩
 have hNt : M.toNat = N := by omega
 have HMF : Hid (mulF P M Mod x y = valueF P (mulL P (lowF M Mod) (digitsF x P N) N (digitsF y P N))) := by
   have : mulF P M Mod x y = valueF P (mulL P (lowF M Mod) (digitsF x P N) N (digitsF y P N)) := by unfold mulF; rw [hNt]
   exact this
 have HPN : Hid (P ^ N ≤ 256) := by rw [← hNt]; exact HQ
 subst hN
 have hN1 : 1 ≤ N := by omega
 have hN8 : N ≤ 8 := by omega
 have HF := Lib.hid (FBox.mk' w P N mv)
 obtain ⟨A, hA⟩ : ∃ A, A = digitsF x P N := ⟨_, rfl⟩
 obtain ⟨B, hB⟩ : ∃ B, B = digitsF y P N := ⟨_, rfl⟩
 rw [← hA, ← hB] at HMF
 have HA := Lib.hid hA; have HB := Lib.hid hB; clear hA hB hNt
 have HAL : Hid (A.length = N) := by show _ = _; rw [HA.out, digitsF_len]
 have HBL : Hid (B.length = N) := by show _ = _; rw [HB.out, digitsF_len]
 have HAR : Hid (Rng P A) := fun k => by rw [HA.out]; exact digitsF_range hP2 k
 have HBR : Hid (Rng P B) := fun k => by rw [HB.out]; exact digitsF_range hP2 k
 have hmk := fun (w : World) => run_mkI N (by omega) w
 go_enter Tryz.func121, Tryz.ntmps121
 go_wp2_with fail
 obtain ⟨w0, hw0⟩ : ∃ w0, w0 = w.alloc (.cells #[.int .i64 P, .int .i64 (N : Int), mv] 24) := ⟨_, rfl⟩
 rw [← hw0] at HF ⊢
 clear hw0
 have c0 := HF.out.c0; have c1 := HF.out.c1; have c2 := HF.out.c2
 refine Kept.start (S := fun w' => w'.cell? ⟨w.heap.size, 0, none⟩ = some (.int .i64 P) ∧ w'.cell? ⟨w.heap.size, 1, none⟩ = some (.int .i64 (N : Int)) ∧ w'.cell? ⟨w.heap.size, 2, none⟩ = some mv) (by kernel_rfl) (⟨c0, c1, c2⟩) (fun hHeld => ?_)
 change Kept _ _ _ _ 14 _ _ _
 refine Kept.tk 0 (v := ?_) rfl ?_ hHeld ?_
 rotate_left
 · intro w' h; (try dsimp only at h); go_simp <;> with_reducible rfl
 try simp only [tda, tdb, tdc, Act.put, tdd, tde, tdf]
 refine Kept.tk 1 (v := ?_) rfl ?_ hHeld ?_
 rotate_left
 · intro w' h; (try dsimp only at h); go_simp <;> with_reducible rfl
 try simp only [tda, tdb, tdc, Act.put, tdd, tde, tdf]
 refine Kept.tk 2 (v := ?_) rfl ?_ hHeld ?_
 rotate_left
 · intro w' h; (try dsimp only at h); go_simp <;> with_reducible rfl
 try simp only [tda, tdb, tdc, Act.put, tdd, tde, tdf]
 refine Kept.tk 3 (v := ?_) rfl ?_ hHeld ?_
 rotate_left
 · intro w' h; (try dsimp only at h); go_simp <;> with_reducible rfl
 try simp only [tda, tdb, tdc, Act.put, tdd, tde, tdf]
 refine Kept.tk 4 (v := ?_) rfl ?_ hHeld ?_
 rotate_left
 · intro w' h; (try dsimp only at h); go_simp <;> with_reducible rfl
 try simp only [tda, tdb, tdc, Act.put, tdd, tde, tdf]
 refine Kept.tk 6 (v := ?_) rfl ?_ hHeld ?_
 rotate_left
 · intro w' h; (try dsimp only at h); go_simp <;> with_reducible rfl
 try simp only [tda, tdb, tdc, Act.put, tdd, tde, tdf]
 refine Kept.tk 7 (v := ?_) rfl ?_ hHeld ?_
 rotate_left
 · intro w' h; (try dsimp only at h); go_simp <;> with_reducible rfl
 try simp only [tda, tdb, tdc, Act.put, tdd, tde, tdf]
 refine Kept.tk 8 (v := ?_) rfl ?_ hHeld ?_
 rotate_left
 · intro w' h; (try dsimp only at h); go_simp <;> with_reducible rfl
 try simp only [tda, tdb, tdc, Act.put, tdd, tde, tdf]
 refine Kept.tk 9 (v := ?_) rfl ?_ hHeld ?_
 rotate_left
 · intro w' h; (try dsimp only at h); go_simp <;> with_reducible rfl
 try simp only [tda, tdb, tdc, Act.put, tdd, tde, tdf]
 refine Kept.tk 10 (v := ?_) rfl ?_ hHeld ?_
 rotate_left
 · intro w' h; (try dsimp only at h); go_simp <;> with_reducible rfl
 try simp only [tda, tdb, tdc, Act.put, tdd, tde, tdf]
 refine Kept.only (i := 5) (by kernel_rfl) rfl (fun K hK => ?_)
 go_simp
 refine (digitsOf_any _ x P (N : Int) hx0 hx2 hP2 (by omega) hM8).mono ?_; rintro e w1 ⟨u1, rfl, ho1, hb1⟩; rw [Int.toNat_natCast, ← HA.out] at ho1; obtain ⟨A1, k1, rfl⟩ := ho1.form'; have HF1 := Lib.hid (HF.out.drew.on hb1); have HO1 := Lib.hid ho1; clear ho1 hb1; have e0 := HF1.out.c0; have e1 := HF1.out.c1; have e2 := HF1.out.c2
 refine hK.out _ _ (⟨e0, e1, e2⟩) (fun hHeld2 => ?_)
 clear hK K
 replace hHeld := hHeld2
 clear hHeld2
 try simp only [tda, tdb, tdc, Act.put, tdd, tde, tdf]
 refine Kept.only (i := 11) (by kernel_rfl) rfl (fun K hK => ?_)
 go_simp
 refine (digitsOf_any _ y P (N : Int) hy0 hy2 hP2 (by omega) hM8).mono ?_; rintro e w2 ⟨u2, rfl, ho2, hb2⟩; rw [Int.toNat_natCast, ← HB.out] at ho2; obtain ⟨A2, k2, rfl⟩ := ho2.form'; have HF2 := Lib.hid (HF1.out.on hb2); have HO12 := Lib.hid (HO1.out.below hb2 (Nat.le_refl _)); have HO2 := Lib.hid ho2; clear ho2 hb2; have g0 := HF2.out.c0; have g1 := HF2.out.c1; have g2 := HF2.out.c2
 refine hK.out _ _ (⟨g0, g1, g2⟩) (fun hHeld2 => ?_)
 clear hK K
 replace hHeld := hHeld2
 clear hHeld2
 try simp only [tda, tdb, tdc, Act.put, tdd, tde, tdf]
 refine Kept.tk 12 (v := ?_) rfl ?_ hHeld ?_
 rotate_left
 · intro w' h; (try dsimp only at h); go_simp <;> with_reducible rfl
 try simp only [tda, tdb, tdc, Act.put, tdd, tde, tdf]
 refine Kept.only (i := 13) (by kernel_rfl) rfl (fun K hK => ?_)
 go_simp
 refine hK.out _ _ hHeld (fun hHeld2 => ?_)
 clear hK K
 clear hHeld2
 refine Kept.done (by kernel_rfl) ?_
 try simp only [tda, tdb, tdc, Act.put, tdd, tde, tdf]
 clear hHeld
 clear c0 c1 c2 e0 e1 e2
 rw [HAL.out] at HO12 ⊢
 rw [HBL.out] at HO2 ⊢
 have hlt2 := HF2.out.lt
 have hne2 : ¬ w.heap.size = w2.heap.size := by omega
 go_wp2_with fail
 clear hmk hlt2 hne2
 have HSA := Lib.hid (HO12.out.si (by rw [HAL.out]; omega) (HAR.out.I hP3))
 have HSB := Lib.hid (HO2.out.si (by rw [HBL.out]; omega) (HBR.out.I hP3))
 have HC0 := Lib.hid (RI.made w2 N)
 have HB0 := Lib.hid (bl_alloc w2 (.cells (madeCells #[.int .i64 0] N) 3))
 have HC1 : Hid (RI (w2.alloc (.cells (madeCells #[.int .i64 0] N) 3)) w2.heap.size (mulL P (lowF N Mod) A N (B.drop N))) := by
   rw [show B.drop N = [] by rw [← HBL.out]; exact List.drop_length]
   exact HC0
 obtain ⟨C, hC⟩ : ∃ C, C = w2.heap.size := ⟨_, rfl⟩
 have hwC : w.heap.size < C := by have := HF2.out.lt; omega
 rw [← hC] at HC1 ⊢
 have HCE := Lib.hid hC; clear hC HC0 g0 g1 g2
 go_loopw [10] (fun i wr => ∃ k : Nat, k ≤ N ∧ i = .int .i64 ((k : Int) - 1) ∧ Hid (RI wr C (mulL P (lowF N Mod) A N (B.drop k))) ∧ Hid (Below w2.heap.size w2 wr)) (fun i _ => (intOf i + 1).toNat)
 case atStart => exact ⟨N, Nat.le_refl _, rfl, HC1, HB0⟩
 case round =>
   clear HC1 HB0
   obtain ⟨k, hk, rfl, HR, HW⟩ := hrel
   have HFR := Lib.hid (HF2.out.on HW.out)
   have c0 := HFR.out.c0; have c1 := HFR.out.c1; have c2 := HFR.out.c2
   by_cases hk0 : 0 < k
   · obtain ⟨m, rfl⟩ : ∃ m, k = m + 1 := ⟨k - 1, by omega⟩
     have hm : m < N := by omega
     rw [show (((m + 1 : Nat) : Int) - 1) = (m : Int) by omega]
     obtain ⟨e, he⟩ : ∃ e : Nat, (N : Int) - 1 = (e : Int) := ⟨N - 1, by omega⟩
     have heN : e < N := by omega
     obtain ⟨o, ho⟩ : ∃ o, o = mulL P (lowF N Mod) A N (B.drop (m + 1)) := ⟨_, rfl⟩
     rw [← ho] at HR
     have HOE := Lib.hid ho; clear ho
     have HOL : Hid (o.length = N) := by show _ = _; rw [HOE.out]; exact mulL_len _ _ _ _ _
     have HOR : Hid (Rng P o) := fun j => by rw [HOE.out]; exact mulL_range hP2 _ j
     have ht := HR.out.cell e (by rw [HOL.out]; exact heN)
     obtain ⟨tp, htp⟩ : ∃ tp, tp = o.getD e 0 := ⟨_, rfl⟩
     rw [← htp] at ht
     have HTP := Lib.hid htp; clear htp
     have hN1i : (1 : Int) ≤ (N : Int) := hM1
     have hei : (e : Int) ≤ (N : Int) := by omega
     have hei0 : (0 : Int) ≤ (e : Int) := by omega
     have hneg : (0 : Int) ≤ (m : Int) := by omega
     go_wp2_with fail
     have hwe : IntKind.i64.wrap (e : Int) = (e : Int) := IntWalk.i64_in _ (by omega)
     have HSP := Lib.hid (shift_splice HOL.out (show e + 1 = N by omega))
     have HCP : Hid (0 < ((o.take e).map (Value.int .i64)).length → (if N = 1 then some (⟨C, 0, none⟩ : Addr) else some ⟨C, 1, none⟩) = some ⟨C, 1, none⟩ ∧ ∃ ad, (some (⟨C, 0, none⟩ : Addr)) = some ad ∧ ∀ (j : Nat) (v : Value), ((o.take e).map (Value.int .i64))[j]? = some v → wr.drew.cell? (ad.add j) = some v) := by
       intro hpos
       have hol := HOL.out
       simp only [List.length_map, List.length_take] at hpos
       refine ⟨by rw [if_neg (by omega)], _, rfl, fun j v hv => ?_⟩
       by_cases hj : j < e
       · have hv2 : v = .int .i64 (o.getD j 0) := by
           have h1 : j < o.length := by omega
           simp [List.getElem?_take, hj, h1] at hv
           rw [← hv]; simp [List.getD, h1]
         rw [hv2]
         have := HR.out.cell j (by omega)
         have e2 : (⟨C, 0, none⟩ : Addr).add j = ⟨C, j, none⟩ := by
           unfold Addr.add
           by_cases h0 : j = 0 <;> simp [h0]
         rw [e2]; exact this
       · simp [List.getElem?_take, hj] at hv
     refine Kept.start (S := fun w' => w'.cell? ⟨w.heap.size, 0, none⟩ = some (.int .i64 P) ∧ w'.cell? ⟨w.heap.size, 1, none⟩ = some (.int .i64 (N : Int)) ∧ w'.cell? ⟨w.heap.size, 2, none⟩ = some mv) (by kernel_rfl) (⟨c0, c1, c2⟩) (fun hHeld => ?_)
     change Kept _ _ _ _ 8 _ _ _
     refine Kept.tk 0 (v := ?_) rfl ?_ hHeld ?_
     rotate_left
     · intro w' h; (try dsimp only at h); go_simp <;> with_reducible rfl
     try simp only [tda, tdb, tdc, Act.put, tdd, tde, tdf]
     refine Kept.tk 1 (v := ?_) rfl ?_ hHeld ?_
     rotate_left
     · intro w' h; (try dsimp only at h); go_simp <;> with_reducible rfl
     try simp only [tda, tdb, tdc, Act.put, tdd, tde, tdf]
     refine Kept.tk 2 (v := ?_) rfl ?_ hHeld ?_
     rotate_left
     · intro w' h; (try dsimp only at h); go_simp <;> with_reducible rfl
     try simp only [tda, tdb, tdc, Act.put, tdd, tde, tdf]
     refine Kept.tk 3 (v := ?_) rfl ?_ hHeld ?_
     rotate_left
     · intro w' h; (try dsimp only at h); go_simp <;> with_reducible rfl
     try simp only [tda, tdb, tdc, Act.put, tdd, tde, tdf]
     refine Kept.tk 4 (v := ?_) rfl ?_ hHeld ?_
     rotate_left
     · intro w' h; (try dsimp only at h); go_simp <;> with_reducible rfl
     try simp only [tda, tdb, tdc, Act.put, tdd, tde, tdf]
     refine Kept.tk 5 (v := ?_) rfl ?_ hHeld ?_
     rotate_left
     · intro w' h; (try dsimp only at h); go_simp <;> with_reducible rfl
     try simp only [tda, tdb, tdc, Act.put, tdd, tde, tdf]
     refine Kept.tk 6 (v := ?_) rfl ?_ hHeld ?_
     rotate_left
     · intro w' h; (try dsimp only at h); go_simp <;> with_reducible rfl
     try simp only [tda, tdb, tdc, Act.put, tdd, tde, tdf]
     refine Kept.only (i := 7) (o := ?op1) (by kernel_rfl) ?ho1 (fun K hK => ?_)
     case ho1 => (conv => lhs; simp only [tdg, tdh, tdi])
     refine step_copy_splice (by kernel_rfl) (.tmp 43) (.tmp 48) 22 22 (by kernel_rfl) 3 Tryz.underlying22 sizeInt (if N = 1 then some ⟨C, 0, none⟩ else some ⟨C, 1, none⟩) (some ⟨C, 0, none⟩) (N - 1) (N - 1) e N (by kernel_rfl) (by kernel_rfl) C 1 (o.map (Value.int .i64)) 3 HR.out ((o.take e).map (Value.int .i64)) (by rw [List.length_map, List.length_take, HOL.out]; show min e N = min e (N - 1); omega) HCP.out (by rw [List.length_map, List.length_map, List.length_take, HOL.out]; omega) (fun v hv => by obtain ⟨z, _, rfl⟩ := List.mem_map.1 hv; rfl) w2.heap.size w2 HW.out.drew (by rw [HCE.out]; exact Nat.le_refl _) ?_; intro w4 hg4 hb4; have HR4 : Hid (RI w4 C (o.take 1 ++ o.take e)) := hid' (show w4.heap[C]? = some (.cells ((o.take 1 ++ o.take e).map (Value.int .i64)).toArray 3 (0, 0)) from HSP.out ▸ hg4.out); have HB4 := Lib.hid hb4; have HF4 := Lib.hid (HF2.out.on hb4); clear hg4 hb4; have e0 := HF4.out.c0; have e1 := HF4.out.c1; have e2 := HF4.out.c2
     refine hK.out _ _ (⟨e0, e1, e2⟩) (fun hHeld2 => ?_)
     clear hK K
     clear hHeld2
     refine Kept.done (by kernel_rfl) ?_
     try simp only [tda, tdb, tdc, Act.put, tdd, tde, tdf]
     clear hHeld
     generalize goInt (((o.take e).map (Value.int .i64)).length : Int) = cnt
     generalize (if N = 1 then some (⟨C, 0, none⟩ : Addr) else some ⟨C, 1, none⟩) = dpx
     have HSS := Lib.hid (shift_set HOL.out (show e + 1 = N by omega))
     have ho2 : (o.take 1 ++ o.take e).length = N := by rw [List.length_append, List.length_take, List.length_take, HOL.out]; omega
     have k0 := HR4.out.cell 0 (by rw [ho2]; omega)
     have f0 := HR4.out.frozen 0
     generalize hz : (o.take 1 ++ o.take e).getD 0 0 = z0 at k0
     have HNE : Hid (N - 1 = e) := by show _ = _; omega
     clear hz ho2 c0 c1 c2 he hwe ht hei hei0
     have HR5 := Lib.hid (HR4.out.set 0 0)
     rw [HSS.out, ← mulTo_zero P (lowF N Mod) A o N (B.getD m 0)] at HR5
     have HB5 := Lib.hid (HB4.out.setCell (p := ⟨C, 0, none⟩) (by rw [HCE.out]; exact Nat.le_refl _) (.int .i64 0))
     obtain ⟨bm, hbm⟩ : ∃ bm, bm = B.getD m 0 := ⟨_, rfl⟩
     rw [← hbm] at HR5
     have HBM := Lib.hid hbm; clear hbm
     go_wp2_with fail
     go_loopw [54] (fun t wi => ∃ j : Nat, j ≤ N ∧ t = .int .i64 (j : Int) ∧ Hid (RI wi C (mulTo P (lowF N Mod) A o N bm j)) ∧ Hid (Below w2.heap.size w2 wi)) (fun t _ => (N - intOf t).toNat)
     case atStart => exact ⟨0, Nat.zero_le _, rfl, HR5, HB5⟩
     case round =>
       clear HR5 HB5 HR4 HB4 e0 e1 e2 k0 f0
       obtain ⟨j, hj, rfl, HRJ, HWJ⟩ := hrel
       have HFJ := Lib.hid (HF2.out.on HWJ.out)
       have c0 := HFJ.out.c0; have c1 := HFJ.out.c1; have c2 := HFJ.out.c2
       by_cases hlt : j < N
       · have hent := mulTo_getD (p := P) (low := lowF N Mod) (a := A) (out := o) (b := bm) (k := j) hlt
         have ck := HRJ.out.cell j (by rw [mulTo_len]; exact hlt)
         have fk := HRJ.out.frozen j
         obtain ⟨z, hz⟩ : ∃ z, z = (if j = 0 then 0 else o.getD (j - 1) 0) := ⟨_, rfl⟩
         rw [hent, ← hz] at ck
         clear hent
         obtain ⟨ad, aj, rfl, ca, _, HAJ⟩ := (HSA.out.below HWJ.out (Nat.le_refl _)).elt (k := j) (by rw [HAL.out]; exact hlt)
         obtain ⟨bd, bm', rfl, cb, _, HBJ⟩ := (HSB.out.below HWJ.out (Nat.le_refl _)).elt (k := m) (by rw [HBL.out]; exact hm)
         obtain rfl : bm = bm' := by rw [HBM.out, HBJ.out]
         obtain ⟨lw, hlw⟩ : ∃ lw, lw = (lowF N Mod).getD j 0 := ⟨_, rfl⟩
         have hz1 : 0 ≤ z ∧ z < P := by
           rw [hz]
           split
           · omega
           · exact HOR.out (j - 1)
         have htp : 0 ≤ tp ∧ tp < P := by rw [HTP.out]; exact HOR.out e
         have hlr : 0 ≤ lw ∧ lw < P := by
           rw [hlw]
           unfold lowF
           split
           · rename_i h1
             have hh := (HS.out.2.2.2 (by omega)).2
             by_cases hk : j < Mod.length
             · exact hh j hk
             · rw [getD_len (by omega)]; omega
           · rw [getD_len (by simp)]; omega
         have hbr : 0 ≤ bm ∧ bm < P := by rw [HBM.out]; exact HBR.out m
         have har : 0 ≤ aj ∧ aj < P := by rw [← HAJ.out]; exact HAR.out j
         obtain ⟨b1, b2, b3, b4⟩ := entry_bounds hP2 hP3 hz1 htp hlr hbr har
         have HSET := Lib.hid (mulTo_set (p := P) (low := lowF N Mod) (a := A) (out := o) (b := bm) hlt)
         have HME : Hid (mulEntry P (lowF N Mod) A o N bm j = (z + (P - tp) * lw + bm * aj) % P) := by
           show _ = _
           unfold mulEntry
           rw [← hz, ← hlw, HAJ.out, HTP.out, HNE.out]
         have HRS := Lib.hid (HRJ.out.set j ((z + (P - tp) * lw + bm * aj) % P))
         have HWS := Lib.hid (HWJ.out.setCell (p := ⟨C, j, none⟩) (by rw [HCE.out]; exact Nat.le_refl _) (.int .i64 ((z + (P - tp) * lw + bm * aj) % P)))
         have HLW := Lib.hid hlw
         clear hz hlw
         obtain ⟨hz10, hz11⟩ := hz1; obtain ⟨htp0, htp1⟩ := htp; obtain ⟨hl0, hl1⟩ := hlr; obtain ⟨hb0, hb1⟩ := hbr; obtain ⟨ha0, ha1⟩ := har
         by_cases hN2 : 1 < N
         · have hml : (Mod.length : Int) = N := (HS.out.2.2.2 (by omega)).1
           obtain ⟨MA, mc, rfl, hmm⟩ := HM0.out
           have hN2i : (1 : Int) < (N : Int) := by omega
           have hjm : j < Mod.length := by omega
           obtain ⟨md, lw', rfl, cm, _, HMJ⟩ := (hmm.below (bl_trans HF2.out.bel HWJ.out) (Nat.le_refl _)).elt hjm
           obtain rfl : lw = lw' := by rw [HLW.out, ← HMJ.out]; unfold lowF; rw [if_pos (by omega)]
           clear hml hmm
           go_wp2_with fail
           have hP0 : ¬ P = 0 := by omega
           refine Drawn.start (S := fun w' => w'.cell? ⟨w.heap.size, 0, none⟩ = some (.int .i64 P) ∧ w'.cell? ⟨C, j, none⟩ = some (.int .i64 z) ∧ w'.frozen? ⟨C, j, none⟩ = false ∧ w'.cell? (ad.add j) = some (.int .i64 aj) ∧ w'.cell? (bd.add m) = some (.int .i64 bm)) (by kernel_rfl) (⟨c0, ck, fk, ca, cb⟩) (fun hHeld => ?_)
           change Drawn _ _ _ _ 28 _ _ _
           refine Drawn.tk 0 (v := ?_) rfl ?_ hHeld ?_
           rotate_left
           · intro w' h; (try dsimp only at h); go_simp <;> with_reducible rfl
           try simp only [tda, tdb, tdc, Act.put, tdd, tde, tdf]
           refine Drawn.tk 1 (v := ?_) rfl ?_ hHeld ?_
           rotate_left
           · intro w' h; (try dsimp only at h); go_simp <;> with_reducible rfl
           try simp only [tda, tdb, tdc, Act.put, tdd, tde, tdf]
           refine Drawn.tk 2 (v := ?_) rfl ?_ hHeld ?_
           rotate_left
           · intro w' h; (try dsimp only at h); go_simp <;> with_reducible rfl
           try simp only [tda, tdb, tdc, Act.put, tdd, tde, tdf]
           refine Drawn.tk 3 (v := ?_) rfl ?_ hHeld ?_
           rotate_left
           · intro w' h; (try dsimp only at h); go_simp <;> with_reducible rfl
           try simp only [tda, tdb, tdc, Act.put, tdd, tde, tdf]
           refine Drawn.tk 4 (v := ?_) rfl ?_ hHeld ?_
           rotate_left
           · intro w' h; (try dsimp only at h); go_simp <;> with_reducible rfl
           try simp only [tda, tdb, tdc, Act.put, tdd, tde, tdf]
           refine Drawn.tk 5 (v := ?_) rfl ?_ hHeld ?_
           rotate_left
           · intro w' h; (try dsimp only at h); go_simp <;> with_reducible rfl
           try simp only [tda, tdb, tdc, Act.put, tdd, tde, tdf]
           refine Drawn.tk 6 (v := ?_) rfl ?_ hHeld ?_
           rotate_left
           · intro w' h; (try dsimp only at h); go_simp <;> with_reducible rfl
           try simp only [tda, tdb, tdc, Act.put, tdd, tde, tdf]
           refine Drawn.tk 7 (v := ?_) rfl ?_ hHeld ?_
           rotate_left
           · intro w' h; (try dsimp only at h); go_simp <;> with_reducible rfl
           try simp only [tda, tdb, tdc, Act.put, tdd, tde, tdf]
           refine Drawn.tk 8 (v := ?_) rfl ?_ hHeld ?_
           rotate_left
           · intro w' h; (try dsimp only at h); go_simp <;> with_reducible rfl
           try simp only [tda, tdb, tdc, Act.put, tdd, tde, tdf]
           refine Drawn.tk 9 (v := ?_) rfl ?_ hHeld ?_
           rotate_left
           · intro w' h; (try dsimp only at h); go_simp <;> with_reducible rfl
           try simp only [tda, tdb, tdc, Act.put, tdd, tde, tdf]
           refine Drawn.tk 10 (v := ?_) rfl ?_ hHeld ?_
           rotate_left
           · intro w' h; (try dsimp only at h); go_simp <;> with_reducible rfl
           try simp only [tda, tdb, tdc, Act.put, tdd, tde, tdf]
           refine Drawn.tk 11 (v := ?_) rfl ?_ hHeld ?_
           rotate_left
           · intro w' h; (try dsimp only at h); go_simp <;> with_reducible rfl
           try simp only [tda, tdb, tdc, Act.put, tdd, tde, tdf]
           refine Drawn.tk 12 (v := ?_) rfl ?_ hHeld ?_
           rotate_left
           · intro w' h; (try dsimp only at h); go_simp <;> with_reducible rfl
           try simp only [tda, tdb, tdc, Act.put, tdd, tde, tdf]
           refine Drawn.tk 13 (v := ?_) rfl ?_ hHeld ?_
           rotate_left
           · intro w' h; (try dsimp only at h); go_simp <;> with_reducible rfl
           try simp only [tda, tdb, tdc, Act.put, tdd, tde, tdf]
           refine Drawn.tk 14 (v := ?_) rfl ?_ hHeld ?_
           rotate_left
           · intro w' h; (try dsimp only at h); go_simp <;> with_reducible rfl
           try simp only [tda, tdb, tdc, Act.put, tdd, tde, tdf]
           refine Drawn.tk 15 (v := ?_) rfl ?_ hHeld ?_
           rotate_left
           · intro w' h; (try dsimp only at h); go_simp <;> with_reducible rfl
           try simp only [tda, tdb, tdc, Act.put, tdd, tde, tdf]
           refine Drawn.tk 16 (v := ?_) rfl ?_ hHeld ?_
           rotate_left
           · intro w' h; (try dsimp only at h); go_simp <;> with_reducible rfl
           try simp only [tda, tdb, tdc, Act.put, tdd, tde, tdf]
           refine Drawn.tk 17 (v := ?_) rfl ?_ hHeld ?_
           rotate_left
           · intro w' h; (try dsimp only at h); go_simp <;> with_reducible rfl
           try simp only [tda, tdb, tdc, Act.put, tdd, tde, tdf]
           refine Drawn.tk 18 (v := ?_) rfl ?_ hHeld ?_
           rotate_left
           · intro w' h; (try dsimp only at h); go_simp <;> with_reducible rfl
           try simp only [tda, tdb, tdc, Act.put, tdd, tde, tdf]
           refine Drawn.tk 19 (v := ?_) rfl ?_ hHeld ?_
           rotate_left
           · intro w' h; (try dsimp only at h); go_simp <;> with_reducible rfl
           try simp only [tda, tdb, tdc, Act.put, tdd, tde, tdf]
           refine Drawn.tk 20 (v := ?_) rfl ?_ hHeld ?_
           rotate_left
           · intro w' h; (try dsimp only at h); go_simp <;> with_reducible rfl
           try simp only [tda, tdb, tdc, Act.put, tdd, tde, tdf]
           refine Drawn.tk 21 (v := ?_) rfl ?_ hHeld ?_
           rotate_left
           · intro w' h; (try dsimp only at h); go_simp <;> with_reducible rfl
           try simp only [tda, tdb, tdc, Act.put, tdd, tde, tdf]
           refine Drawn.tk 22 (v := ?_) rfl ?_ hHeld ?_
           rotate_left
           · intro w' h; (try dsimp only at h); go_simp <;> with_reducible rfl
           try simp only [tda, tdb, tdc, Act.put, tdd, tde, tdf]
           refine Drawn.tk 23 (v := ?_) rfl ?_ hHeld ?_
           rotate_left
           · intro w' h; (try dsimp only at h); go_simp <;> with_reducible rfl
           try simp only [tda, tdb, tdc, Act.put, tdd, tde, tdf]
           refine Drawn.tk 24 (v := ?_) rfl ?_ hHeld ?_
           rotate_left
           · intro w' h; (try dsimp only at h); go_simp <;> with_reducible rfl
           try simp only [tda, tdb, tdc, Act.put, tdd, tde, tdf]
           refine Drawn.tk 25 (v := ?_) rfl ?_ hHeld ?_
           rotate_left
           · intro w' h; (try dsimp only at h); go_simp <;> with_reducible rfl
           try simp only [tda, tdb, tdc, Act.put, tdd, tde, tdf]
           refine Drawn.tk 26 (v := ?_) rfl ?_ hHeld ?_
           rotate_left
           · intro w' h; (try dsimp only at h); go_simp <;> with_reducible rfl
           try simp only [tda, tdb, tdc, Act.put, tdd, tde, tdf]
           refine Drawn.only (i := 27) (by kernel_rfl) rfl (fun K hK => ?_)
           go_simp
           refine hK.out _ _ (fun h => absurd rfl h) (fun hHeld2 => ?_)
           clear hK K
           clear hHeld2
           refine Drawn.done (by kernel_rfl) ?_
           try simp only [tda, tdb, tdc, Act.put, tdd, tde, tdf]
           clear hHeld
           go_wp2_with fail
           exact ⟨⟨j + 1, by omega, rfl, by rw [← HSET.out, HME.out]; exact HRS.out.drew, HWS.out.drew⟩, by simp only [intOf]; omega⟩
         · have hN2i : ¬ (1 : Int) < (N : Int) := by omega
           obtain rfl : lw = 0 := by rw [HLW.out]; unfold lowF; rw [if_neg (by omega)]; simp
           rw [Int.mul_zero] at HRS HWS HME
           go_wp2_with fail
           have hP0 : ¬ P = 0 := by omega
           refine Drawn.start (S := fun w' => w'.cell? ⟨w.heap.size, 0, none⟩ = some (.int .i64 P) ∧ w'.cell? ⟨C, j, none⟩ = some (.int .i64 z) ∧ w'.frozen? ⟨C, j, none⟩ = false ∧ w'.cell? (ad.add j) = some (.int .i64 aj) ∧ w'.cell? (bd.add m) = some (.int .i64 bm)) (by kernel_rfl) (⟨c0, ck, fk, ca, cb⟩) (fun hHeld => ?_)
           change Drawn _ _ _ _ 28 _ _ _
           refine Drawn.tk 0 (v := ?_) rfl ?_ hHeld ?_
           rotate_left
           · intro w' h; (try dsimp only at h); go_simp <;> with_reducible rfl
           try simp only [tda, tdb, tdc, Act.put, tdd, tde, tdf]
           refine Drawn.tk 1 (v := ?_) rfl ?_ hHeld ?_
           rotate_left
           · intro w' h; (try dsimp only at h); go_simp <;> with_reducible rfl
           try simp only [tda, tdb, tdc, Act.put, tdd, tde, tdf]
           refine Drawn.tk 2 (v := ?_) rfl ?_ hHeld ?_
           rotate_left
           · intro w' h; (try dsimp only at h); go_simp <;> with_reducible rfl
           try simp only [tda, tdb, tdc, Act.put, tdd, tde, tdf]
           refine Drawn.tk 3 (v := ?_) rfl ?_ hHeld ?_
           rotate_left
           · intro w' h; (try dsimp only at h); go_simp <;> with_reducible rfl
           try simp only [tda, tdb, tdc, Act.put, tdd, tde, tdf]
           refine Drawn.tk 4 (v := ?_) rfl ?_ hHeld ?_
           rotate_left
           · intro w' h; (try dsimp only at h); go_simp <;> with_reducible rfl
           try simp only [tda, tdb, tdc, Act.put, tdd, tde, tdf]
           refine Drawn.tk 5 (v := ?_) rfl ?_ hHeld ?_
           rotate_left
           · intro w' h; (try dsimp only at h); go_simp <;> with_reducible rfl
           try simp only [tda, tdb, tdc, Act.put, tdd, tde, tdf]
           refine Drawn.tk 6 (v := ?_) rfl ?_ hHeld ?_
           rotate_left
           · intro w' h; (try dsimp only at h); go_simp <;> with_reducible rfl
           try simp only [tda, tdb, tdc, Act.put, tdd, tde, tdf]
           refine Drawn.tk 7 (v := ?_) rfl ?_ hHeld ?_
           rotate_left
           · intro w' h; (try dsimp only at h); go_simp <;> with_reducible rfl
           try simp only [tda, tdb, tdc, Act.put, tdd, tde, tdf]
           refine Drawn.tk 8 (v := ?_) rfl ?_ hHeld ?_
           rotate_left
           · intro w' h; (try dsimp only at h); go_simp <;> with_reducible rfl
           try simp only [tda, tdb, tdc, Act.put, tdd, tde, tdf]
           refine Drawn.tk 9 (v := ?_) rfl ?_ hHeld ?_
           rotate_left
           · intro w' h; (try dsimp only at h); go_simp <;> with_reducible rfl
           try simp only [tda, tdb, tdc, Act.put, tdd, tde, tdf]
           refine Drawn.tk 10 (v := ?_) rfl ?_ hHeld ?_
           rotate_left
           · intro w' h; (try dsimp only at h); go_simp <;> with_reducible rfl
           try simp only [tda, tdb, tdc, Act.put, tdd, tde, tdf]
           refine Drawn.tk 11 (v := ?_) rfl ?_ hHeld ?_
           rotate_left
           · intro w' h; (try dsimp only at h); go_simp <;> with_reducible rfl
           try simp only [tda, tdb, tdc, Act.put, tdd, tde, tdf]
           refine Drawn.tk 12 (v := ?_) rfl ?_ hHeld ?_
           rotate_left
           · intro w' h; (try dsimp only at h); go_simp <;> with_reducible rfl
           try simp only [tda, tdb, tdc, Act.put, tdd, tde, tdf]
           refine Drawn.tk 13 (v := ?_) rfl ?_ hHeld ?_
           rotate_left
           · intro w' h; (try dsimp only at h); go_simp <;> with_reducible rfl
           try simp only [tda, tdb, tdc, Act.put, tdd, tde, tdf]
           refine Drawn.tk 14 (v := ?_) rfl ?_ hHeld ?_
           rotate_left
           · intro w' h; (try dsimp only at h); go_simp <;> with_reducible rfl
           try simp only [tda, tdb, tdc, Act.put, tdd, tde, tdf]
           refine Drawn.tk 15 (v := ?_) rfl ?_ hHeld ?_
           rotate_left
           · intro w' h; (try dsimp only at h); go_simp <;> with_reducible rfl
           try simp only [tda, tdb, tdc, Act.put, tdd, tde, tdf]
           refine Drawn.tk 16 (v := ?_) rfl ?_ hHeld ?_
           rotate_left
           · intro w' h; (try dsimp only at h); go_simp <;> with_reducible rfl
           try simp only [tda, tdb, tdc, Act.put, tdd, tde, tdf]
           refine Drawn.tk 17 (v := ?_) rfl ?_ hHeld ?_
           rotate_left
           · intro w' h; (try dsimp only at h); go_simp <;> with_reducible rfl
           try simp only [tda, tdb, tdc, Act.put, tdd, tde, tdf]
           refine Drawn.tk 18 (v := ?_) rfl ?_ hHeld ?_
           rotate_left
           · intro w' h; (try dsimp only at h); go_simp <;> with_reducible rfl
           try simp only [tda, tdb, tdc, Act.put, tdd, tde, tdf]
           refine Drawn.tk 19 (v := ?_) rfl ?_ hHeld ?_
           rotate_left
           · intro w' h; (try dsimp only at h); go_simp <;> with_reducible rfl
           try simp only [tda, tdb, tdc, Act.put, tdd, tde, tdf]
           refine Drawn.tk 20 (v := ?_) rfl ?_ hHeld ?_
           rotate_left
           · intro w' h; (try dsimp only at h); go_simp <;> with_reducible rfl
           try simp only [tda, tdb, tdc, Act.put, tdd, tde, tdf]
           refine Drawn.tk 21 (v := ?_) rfl ?_ hHeld ?_
           rotate_left
           · intro w' h; (try dsimp only at h); go_simp <;> with_reducible rfl
           try simp only [tda, tdb, tdc, Act.put, tdd, tde, tdf]
           refine Drawn.tk 22 (v := ?_) rfl ?_ hHeld ?_
           rotate_left
           · intro w' h; (try dsimp only at h); go_simp <;> with_reducible rfl
           try simp only [tda, tdb, tdc, Act.put, tdd, tde, tdf]
           refine Drawn.tk 23 (v := ?_) rfl ?_ hHeld ?_
           rotate_left
           · intro w' h; (try dsimp only at h); go_simp <;> with_reducible rfl
           try simp only [tda, tdb, tdc, Act.put, tdd, tde, tdf]
           refine Drawn.tk 24 (v := ?_) rfl ?_ hHeld ?_
           rotate_left
           · intro w' h; (try dsimp only at h); go_simp <;> with_reducible rfl
           try simp only [tda, tdb, tdc, Act.put, tdd, tde, tdf]
           refine Drawn.tk 25 (v := ?_) rfl ?_ hHeld ?_
           rotate_left
           · intro w' h; (try dsimp only at h); go_simp <;> with_reducible rfl
           try simp only [tda, tdb, tdc, Act.put, tdd, tde, tdf]
           refine Drawn.tk 26 (v := ?_) rfl ?_ hHeld ?_
           rotate_left
           · intro w' h; (try dsimp only at h); go_simp <;> with_reducible rfl
           try simp only [tda, tdb, tdc, Act.put, tdd, tde, tdf]
           refine Drawn.only (i := 27) (by kernel_rfl) rfl (fun K hK => ?_)
           go_simp
           refine hK.out _ _ (fun h => absurd rfl h) (fun hHeld2 => ?_)
           clear hK K
           clear hHeld2
           refine Drawn.done (by kernel_rfl) ?_
           try simp only [tda, tdb, tdc, Act.put, tdd, tde, tdf]
           clear hHeld
           go_wp2_with fail
           exact ⟨⟨j + 1, by omega, rfl, by rw [← HSET.out, HME.out]; exact HRS.out.drew, HWS.out.drew⟩, by simp only [intOf]; omega⟩
       · obtain rfl : N = j := by omega
         have HFIN : Hid (RI wr C (mulL P (lowF N Mod) A N (B.drop m))) := by
           have h1 := HRJ.out
           rw [mulTo_full, HBM.out, HOE.out] at h1
           show RI _ _ _
           rw [mulL_drop (by rw [HBL.out]; exact hm)]
           exact h1
         go_wp2_with fail
         exact ⟨⟨m, by omega, rfl, HFIN, HWJ⟩, by simp only [intOf]; omega⟩
   · obtain rfl : k = 0 := by omega
     have HL : Hid ((mulL P (lowF N Mod) A N B).length = N) := mulL_len _ _ _ _ _
     have HRG : Hid (Rng P (mulL P (lowF N Mod) A N B)) := fun j => mulL_range hP2 _ j
     rw [List.drop_zero] at HR
     have HSR := Lib.hid (HR.out.si (by rw [HL.out]; omega) (HRG.out.I hP3))
     rw [HL.out] at HSR
     have hvr : ∀ i, i < (mulL P (lowF N Mod) A N B).length → 0 ≤ (mulL P (lowF N Mod) A N B).getD i 0 ∧ (mulL P (lowF N Mod) A N B).getD i 0 < P := fun i _ => HRG.out i
     have HVR := Lib.hid hvr; clear hvr
     rw [show (((0 : Nat) : Int) - 1) = -1 by omega]
     go_wp2_with fail
     refine (valueOf_any _ _ (mulL P (lowF N Mod) A N B) P HSR.out hP2 HVR.out (by rw [HL.out]; exact HPN.out)).mono ?_
     rintro e w5 ⟨rfl, rfl⟩
     go_wp2_with fail
     go_ret
     exact ⟨by rw [HMF.out]; rfl, HFR.out.bel⟩
def RetS (w : World) (xss : List (List Int)) (e : Ending) (w' : World) : Prop := ∃ u, e = .returned u ∧ OS w.heap.size (fun g => g < w.heap.size) w' u xss ∧ Below w.heap.size w w'
set_option maxHeartbeats 8000000 in
theorem rCopy_any (w : World) (v : Value) (xss : List (List Int)) (h : SS w v xss) (hn : xss.length ≤ 100000000) (hr : ∀ k, k < xss.length → (xss.getD k []).length ≤ 100000000) :
  Calls Tryz.prog 112 #[v] w (RetS w xss) := by
 obtain ⟨A, c, rfl, h⟩ := h
 have H := Lib.hid (show SS w (.slice A xss.length c) xss from ⟨A, c, rfl, h⟩); clear h
 have HR := Lib.hid hr; clear hr
 obtain ⟨n, hnn⟩ : ∃ n, n = xss.length := ⟨_, rfl⟩
 rw [← hnn] at hn H ⊢
 have HN := Lib.hid hnn; clear hnn
 go_enter Tryz.func112, Tryz.ntmps112
 go_wp2_with fail
 go_loopw [3, 4] (fun out i wr => ∃ k : Nat, k ≤ n ∧ i = .int .i64 (k : Int) ∧ Hid (OS w.heap.size (fun g => g < w.heap.size) wr out (xss.take k)) ∧ Hid (Below w.heap.size w wr)) (fun _ i _ => (n - intOf i).toNat)
 case atStart => exact ⟨0, Nat.zero_le _, rfl, OS.nil _ _ _, bl_refl _⟩
 case round =>
  obtain ⟨k, hk, rfl, HO, HB⟩ := hrel
  by_cases hlt : k < n
  ·obtain ⟨ad, Ak, ck, xs, rfl, hc, HX, HXE⟩ := (H.out.below HB.out (Nat.le_refl _)).eltA (k := k) (by rw [← HN.out]; exact hlt)
   have hc2 := cell_below (bl_alloc wr (.cells #[] 3)) hc
   have hxl := HR.out k (by rw [← HN.out]; exact hlt)
   rw [HXE.out] at hxl
   have HTK : Hid (xss.take (k + 1) = xss.take k ++ [xs]) := by
    show _ = _
    have hk2 : k < xss.length := by rw [← HN.out]; exact hlt
    rw [List.take_succ_eq_append_getElem hk2]
    have := HXE.out
    simp [List.getD, hk2] at this
    rw [this]
   have HXS := Lib.hid (HX.out.si.below (bl_alloc wr (.cells #[] 3)) (Nat.le_refl _))
   have HXW := Lib.hid HX.out.wf
   have hsz := HB.out.size
   have hlen : (xss.take k).length ≤ k := List.length_take_le _ _
   have HLEN := Lib.hid hlen; clear hlen
   have HE0 := Lib.hid (OI.empty (B := wr.heap.size) wr (Nat.le_refl _))
   have HB1 := Lib.hid (bl_alloc wr (.cells #[] 3))
   have T1 : Hid (([] : List Int).length + xs.length ≤ 17592186044416) := by show _ ≤ _; simp; omega
   have T2 : Hid (wr.heap.size ≤ (wr.alloc (.cells #[] 3)).heap.size) := by show _ ≤ _; simp
   clear HX
   go_wp2_with (first
    | (at_builtin; refine wpList_catI rfl _ _ rfl wr.heap.size _ _ rfl HE0.out _ xs rfl HXS.out T1.out T2.out ?_; (intro v1 w1 ho hg hv1); go_must (have HB2 := Lib.hid (HE0.out.bgrown HB1.out T2.out hg); rw [List.nil_append] at ho; have HSI := Lib.hid (ho.si (by omega) HXW.out); have HNEW := Lib.hid (ho.new (w := wr) (Nat.le_refl _)); have HOS1 := Lib.hid (HO.out.below HB2.out); obtain ⟨A1, cc1, rfl, _⟩ := HSI.out; have HOS2 := Lib.hid (HOS1.out.alloc (.cells #[.slice A1 xs.length cc1] 22)); have HSI2 := Lib.hid (HSI.out.below (bl_alloc w1 (.cells #[.slice A1 xs.length cc1] 22)) (Nat.le_refl _)); have HBX := Lib.hid (box1 (w := w1) (u := .slice A1 xs.length cc1) (t := 22)); have HUP := Lib.hid (up_alloc (w := w1) (B := w.heap.size) (Nat.le_trans hsz HB2.out.size) (.cells #[.slice A1 xs.length cc1] 22)); clear ho hg hv1))
    | (at_builtin; refine wpList_pushS rfl _ _ rfl w.heap.size (fun g => g < w.heap.size) _ (xss.take k) rfl HOS2.out w1.heap.size 1 _ xs rfl HBX.out HSI2.out (fun _ g hg => ⟨fun e => by have h1 := HNEW.out g hg; have h2 := (HO.out.lt e).2; omega, by have h1 := HNEW.out g hg; show ¬ g < w.heap.size; omega⟩) (by have := HLEN.out; omega) HUP.out ?_; (intro v2 w2 ho hg hv2); go_must (have HO3 := Lib.hid ho; have HB3 := Lib.hid (HOS2.out.bgrown ((bl_trans HB.out HB2.out).alloc (Nat.le_trans hsz HB2.out.size) (.cells #[.slice A1 xs.length cc1] 22)) HUP.out hg); clear ho hg hv2)))
   exact ⟨⟨k + 1, by omega, rfl, by rw [HTK.out]; exact HO3, HB3⟩, by simp only [intOf]; omega⟩
  ·obtain rfl : n = k := by omega
   go_wp2_with fail
   go_ret
   refine ⟨_, rfl, ?_, HB.out⟩
   have := HO.out
   rwa [List.take_of_length_le (by rw [← HN.out]; exact Nat.le_refl _)] at this
set_option maxHeartbeats 8000000 in
theorem rSameInts_any (w : World) (va vb : Value) (a b : List Int) (ha : SI w va a) (hb : SI w vb b) :
  Calls Tryz.prog 24 #[va, vb] w (RetB w (decide (a = b))) := by
 obtain ⟨A, c, rfl, ha⟩ := ha
 obtain ⟨B, d, rfl, hb⟩ := hb
 have hna := ha.len
 have hnb := hb.len
 have HA := Lib.hid ha.si; have HB := Lib.hid hb.si; clear ha hb
 by_cases hl : a.length = b.length
 case neg =>
  have hbl : (((a.length : Nat) : Int) != (b.length : Int)) = true := by rw [bne_iff_ne]; omega
  have HE : Hid (decide (a = b) = false) := by show _ = _; exact decide_eq_false fun h => hl (by rw [h])
  clear hl
  go_enter Tryz.func24, Tryz.ntmps24
  go_wp2_with fail
  go_ret
  exact ⟨by rw [HE.out]; rfl, bl_refl _⟩
 obtain ⟨n, hn⟩ : ∃ n, n = a.length := ⟨_, rfl⟩
 have hn2 : n = b.length := by omega
 rw [← hn] at HA hna ⊢
 rw [← hn2] at HB ⊢
 have HN := Lib.hid hn; have HN2 := Lib.hid hn2; clear hn hn2 hl hnb
 have hbl : (((n : Nat) : Int) != (n : Int)) = false := by rw [bne_eq_false_iff_eq]
 go_enter Tryz.func24, Tryz.ntmps24
 go_wp2_with fail
 clear hbl
 go_loopw [5] (fun i wr => ∃ k : Nat, k ≤ n ∧ i = .int .i64 (k : Int) ∧ Hid (∀ j, j < k → a.getD j 0 = b.getD j 0) ∧ Hid (Below w.heap.size w wr)) (fun i _ => (n - intOf i).toNat)
 case atStart => exact ⟨0, Nat.zero_le _, rfl, hid' fun j hj => absurd hj (by omega), bl_refl _⟩
 case round =>
  obtain ⟨k, hk, rfl, HG, HW⟩ := hrel
  by_cases hlt : k < n
  ·obtain ⟨ad, x, rfl, hc, _, HX⟩ := (HA.out.below HW.out (Nat.le_refl _)).elt (k := k) (by rw [← HN.out]; exact hlt)
   obtain ⟨bd, y, rfl, hd, _, HY⟩ := (HB.out.below HW.out (Nat.le_refl _)).elt (k := k) (by rw [← HN2.out]; exact hlt)
   by_cases hxy : x = y
   ·have hb1 : (x != y) = false := by simp [hxy]
    have HXY := Lib.hid hxy; clear hxy
    go_wp2_with fail
    go_quiet (fail)
    go_wp2_with fail
    exact ⟨⟨k + 1, by omega, rfl, hid' fun j hj => by
     by_cases e : j = k
     ·subst e; rw [HX.out, HY.out]; exact HXY.out
     ·exact HG.out j (by omega), bl_trans HW.out (bl_drewN _ _)⟩, by simp only [intOf]; omega⟩
   ·have hb1 : (x != y) = true := by simp [hxy]
    have HE : Hid (decide (a = b) = false) := by show _ = _; exact decide_eq_false fun h => hxy (by rw [← HX.out, ← HY.out, h])
    clear hxy
    go_wp2_with fail
    go_quiet (fail)
    go_wp2_with fail
    go_ret
    exact ⟨by rw [HE.out]; rfl, bl_trans HW.out (bl_drewN _ _)⟩
  ·obtain rfl : n = k := by omega
   have HE : Hid (decide (a = b) = true) := by
    show _ = _
    refine decide_eq_true (List.ext_getElem (by rw [← HN.out, ← HN2.out]) fun i h1 h2 => ?_)
    have := HG.out i (by rw [HN.out]; exact h1)
    simp [List.getD, h1, h2] at this
    exact this
   go_wp2_with fail
   go_ret
   exact ⟨by rw [HE.out]; rfl, HW.out⟩
set_option maxHeartbeats 8000000 in
theorem rSameRows_any (w : World) (va vb : Value) (a b : List (List Int)) (ha : SS w va a) (hb : SS w vb b) :
  Calls Tryz.prog 44 #[va, vb] w (RetB w (decide (a = b))) := by
 obtain ⟨A, c, rfl, ha⟩ := ha
 obtain ⟨B, d, rfl, hb⟩ := hb
 have hna := ha.len
 have hnb := hb.len
 have HA := Lib.hid (show SS w (.slice A a.length c) a from ⟨A, c, rfl, ha⟩); have HB := Lib.hid (show SS w (.slice B b.length d) b from ⟨B, d, rfl, hb⟩); clear ha hb
 by_cases hl : a.length = b.length
 case neg =>
  have hbl : (((a.length : Nat) : Int) != (b.length : Int)) = true := by rw [bne_iff_ne]; omega
  have HE : Hid (decide (a = b) = false) := by show _ = _; exact decide_eq_false fun h => hl (by rw [h])
  clear hl
  go_enter Tryz.func44, Tryz.ntmps44
  go_wp2_with fail
  go_ret
  exact ⟨by rw [HE.out]; rfl, bl_refl _⟩
 obtain ⟨n, hn⟩ : ∃ n, n = a.length := ⟨_, rfl⟩
 have hn2 : n = b.length := by omega
 rw [← hn] at HA hna ⊢
 rw [← hn2] at HB ⊢
 have HN := Lib.hid hn; have HN2 := Lib.hid hn2; clear hn hn2 hl hnb
 have hbl : (((n : Nat) : Int) != (n : Int)) = false := by rw [bne_eq_false_iff_eq]
 go_enter Tryz.func44, Tryz.ntmps44
 go_wp2_with fail
 clear hbl
 go_loopw [5] (fun i wr => ∃ k : Nat, k ≤ n ∧ i = .int .i64 (k : Int) ∧ Hid (∀ j, j < k → a.getD j [] = b.getD j []) ∧ Hid (Below w.heap.size w wr)) (fun i _ => (n - intOf i).toNat)
 case atStart => exact ⟨0, Nat.zero_le _, rfl, hid' fun j hj => absurd hj (by omega), bl_refl _⟩
 case round =>
  obtain ⟨k, hk, rfl, HG, HW⟩ := hrel
  by_cases hlt : k < n
  ·obtain ⟨ad, Ak, ck, x, rfl, hc, HX, HXE⟩ := (HA.out.below HW.out (Nat.le_refl _)).eltA (k := k) (by rw [← HN.out]; exact hlt)
   obtain ⟨bd, Bk, dk, y, rfl, hd, HY, HYE⟩ := (HB.out.below HW.out (Nat.le_refl _)).eltA (k := k) (by rw [← HN2.out]; exact hlt)
   go_wp2_with fail
   go_still_tail 8, (by kernel_rfl)
   change wpList _ _ _ _ _ wr.drew
   go_wp2_with fail
   refine (rSameInts_any _ _ _ x y (HX.out.si.below (bl_drew _) (Nat.le_refl _)) (HY.out.si.below (bl_drew _) (Nat.le_refl _))).mono ?_
   rintro e w1 ⟨rfl, hb1⟩
   have HB1 := Lib.hid (bl_trans (bl_trans HW.out (bl_drew _)) hb1)
   clear hb1 hc hd
   by_cases hxy : x = y
   ·rw [show decide (x = y) = true from decide_eq_true hxy]
    have HXY := Lib.hid hxy; clear hxy
    go_wp2_with fail
    exact ⟨⟨k + 1, by omega, rfl, hid' fun j hj => by
     by_cases e : j = k
     ·subst e; rw [HXE.out, HYE.out]; exact HXY.out
     ·exact HG.out j (by omega), HB1⟩, by simp only [intOf]; omega⟩
   ·rw [show decide (x = y) = false from decide_eq_false hxy]
    have HE : Hid (decide (a = b) = false) := by show _ = _; exact decide_eq_false fun h => hxy (by rw [← HXE.out, ← HYE.out, h])
    clear hxy
    go_wp2_with fail
    go_ret
    exact ⟨by rw [HE.out]; rfl, HB1.out⟩
  ·obtain rfl : n = k := by omega
   have HE : Hid (decide (a = b) = true) := by
    show _ = _
    refine decide_eq_true (List.ext_getElem (by rw [← HN.out, ← HN2.out]) fun i h1 h2 => ?_)
    have := HG.out i (by rw [HN.out]; exact h1)
    simp [List.getD, h1, h2] at this
    exact this
   go_wp2_with fail
   go_ret
   exact ⟨by rw [HE.out]; rfl, HW.out⟩
def refOps (P M : Int) (Mod : List Int) : FOps := ⟨addF P M, mulR P M Mod, negF P M, invF P M Mod⟩
theorem valueRow_lt {P M : Int} (ho : orderF P M ≠ 0) {r : List Int} (hl : r.length = M.toNat) (hr : ∀ i, i < r.length → 0 ≤ r.getD i 0 ∧ r.getD i 0 < P) : 0 ≤ valueF P r ∧ valueF P r < orderF P M := by
 obtain ⟨hP2, _, _, _, _, hqq⟩ := order_ne ho
 have := valueF_bounds hP2 r hr
 rw [hqq, ← hl]; exact this
theorem addF_lt {P M : Int} (ho : orderF P M ≠ 0) (x y : Int) : 0 ≤ addF P M x y ∧ addF P M x y < orderF P M := by
 obtain ⟨hP2, _, _, _, _, _⟩ := order_ne ho
 refine valueRow_lt ho (rowOf_len _ _) fun i hi => ?_
 rw [rowOf_len] at hi
 rw [rowOf_getD hi]
 exact ⟨Int.emod_nonneg _ (by omega), Int.emod_lt_of_pos _ (by omega)⟩
theorem negF_lt {P M : Int} (ho : orderF P M ≠ 0) (x : Int) : 0 ≤ negF P M x ∧ negF P M x < orderF P M := by
 obtain ⟨hP2, _, _, _, _, _⟩ := order_ne ho
 refine valueRow_lt ho (rowOf_len _ _) fun i hi => ?_
 rw [rowOf_len] at hi
 rw [rowOf_getD hi]
 exact ⟨Int.emod_nonneg _ (by omega), Int.emod_lt_of_pos _ (by omega)⟩
theorem mulR_lt {P M : Int} (ho : orderF P M ≠ 0) (Mod : List Int) (x y : Int) : 0 ≤ mulR P M Mod x y ∧ mulR P M Mod x y < orderF P M := by
 obtain ⟨hP2, _, hM1, _, _, _⟩ := order_ne ho
 have hr := redTo_rng hP2 Mod M.toNat _ (conv_rng hP2 (digF P M x) (digF P M y) M.toNat M.toNat) (M.toNat - 1)
 have hl : (mulRL P Mod (digF P M x) (digF P M y) M.toNat).length = M.toNat := by
  unfold mulRL
  rw [List.length_take, redTo_len, conv_len]; omega
 refine valueRow_lt ho hl fun i hi => ?_
 rw [hl] at hi
 have := hr i
 unfold mulRL
 rw [show ((redTo P Mod M.toNat (conv P (digF P M x) (digF P M y) M.toNat M.toNat) (M.toNat - 1)).take M.toNat).getD i 0 = (redTo P Mod M.toNat (conv P (digF P M x) (digF P M y) M.toNat M.toNat) (M.toNat - 1)).getD i 0 by simp [List.getD, List.getElem?_take, hi]]
 exact this
theorem refOps_lt {P M : Int} (ho : orderF P M ≠ 0) (Mod : List Int) : (refOps P M Mod).Lt (orderF P M) :=
 ⟨by
  obtain ⟨hP2, _, hM1, _, _, hqq⟩ := order_ne ho
  have := pow_mono' hP2 (show 1 ≤ M.toNat by omega)
  rw [Int.pow_one] at this
  omega, addF_lt ho, mulR_lt ho Mod⟩
set_option maxHeartbeats 8000000 in
theorem rScale_any (w : World) (P M a : Int) (mv v : Value) (Mod xs : List Int) (hm : SI w mv Mod) (hv : SI w v xs) (hn : xs.length ≤ 100000000) (ho : orderF P M ≠ 0) (hmod : ModP P M Mod) :
  Calls Tryz.prog 113 #[.agg #[.int .i64 P, .int .i64 M, mv], .int .i64 a, v] w (RetO w (scaleL (refOps P M Mod) a xs)) := by
 obtain ⟨A, c, rfl, hv⟩ := hv
 have HV := Lib.hid hv.si; clear hv
 have HM := Lib.hid hm; clear hm
 have HMOD := Lib.hid hmod; clear hmod
 have HO := Lib.hid ho; clear ho
 obtain ⟨n, hnn⟩ : ∃ n, n = xs.length := ⟨_, rfl⟩
 rw [← hnn] at hn HV ⊢
 have HSC : Hid (scaleL (refOps P M Mod) a xs = rowOf n fun i => mulR P M Mod a (xs.getD i 0)) := by rw [hnn]; rfl
 have HN := Lib.hid hnn; clear hnn
 have hmk := fun (w : World) => run_mkI n (by omega) w
 have HF := Lib.hid (FBox.mk' w P M mv)
 go_enter Tryz.func113, Tryz.ntmps113
 go_wp2_with fail
 clear hmk
 obtain ⟨C, hC⟩ : ∃ C, C = w.heap.size + 1 := ⟨_, rfl⟩
 have HF1 := Lib.hid (HF.out.on (bl_alloc _ (.cells (madeCells #[.int .i64 0] n) 3)))
 have HC0 : Hid (RI ((w.alloc (.cells #[.int .i64 P, .int .i64 M, mv] 24)).alloc (.cells (madeCells #[.int .i64 0] n) 3)) C (List.replicate n 0)) := by
  have := RI.made (w.alloc (.cells #[.int .i64 P, .int .i64 M, mv] 24)) n
  rw [World.size_alloc, ← hC] at this
  exact this
 rw [← hC]
 have hC1 : w.heap.size < C := by omega
 clear hC HF
 go_loopw [8] (fun i wr => ∃ k : Nat, k ≤ n ∧ i = .int .i64 (k : Int) ∧ Hid (RI wr C (fillTo n (fun i => mulR P M Mod a (xs.getD i 0)) (fun _ => 0) k)) ∧ Hid (FBox w wr P M mv)) (fun i _ => (n - intOf i).toNat)
 case atStart => exact ⟨0, Nat.zero_le _, rfl, by rw [fillTo_zero, rowOf_zero]; exact HC0, HF1⟩
 case round =>
  clear HC0 HF1
  obtain ⟨k, hk, rfl, HC, HFR⟩ := hrel
  by_cases hlt : k < n
  ·obtain ⟨ad, x, rfl, hc, _, HX⟩ := (HV.out.below HFR.out.bel (Nat.le_refl _)).elt (k := k) (by rw [← HN.out]; exact hlt)
   have c0 := HFR.out.c0; have c1 := HFR.out.c1; have c2 := HFR.out.c2
   have HFS := Lib.hid (fillTo_set (f := fun i => mulR P M Mod a (xs.getD i 0)) (g := fun _ => 0) hlt)
   have hne1 : ad.add k ≠ ⟨C, k, none⟩ := fun e => by
    obtain ⟨ad', x', e1, hc', _, _⟩ := HV.out.elt (k := k) (by rw [← HN.out]; exact hlt)
    obtain rfl := Option.some.inj e1
    have := World.block_lt_of_cell? _ _ hc'
    rw [e] at this
    exact absurd this (by show ¬ C < w.heap.size; omega)
   have hneC : ¬ w.heap.size = C := by omega
   go_wp2_with fail
   go_region_held3 (fun w' => w'.cell? ⟨w.heap.size, 0, none⟩ = some (.int .i64 P) ∧ w'.cell? ⟨w.heap.size, 1, none⟩ = some (.int .i64 M) ∧ w'.cell? ⟨w.heap.size, 2, none⟩ = some mv ∧ w'.cell? (ad.add k) = some (.int .i64 x)) (go_keep)
    (first
     | (go_at_call 104; refine (rMul_any _ P M a x mv Mod (HM.out.below HFR.out.drew.bel (Nat.le_refl _)) HO.out HMOD.out).mono ?_; rintro e w1 ⟨rfl, hb1⟩; have HC1 := Lib.hid (HC.out.drew.belowS hb1); have HF1 := Lib.hid (HFR.out.drew.on hb1); have hc1 := cell_below hb1 hc; clear hb1; have e0 := HF1.out.c0; have e1 := HF1.out.c1; have e2 := HF1.out.c2; have d1 := HC1.out.cell k (by rw [fillTo_len]; exact hlt); rw [fillTo_getD hlt] at d1; have f1 := HC1.out.frozen k; have HSF := Lib.hid (HF1.out.far (k := k) hC1 (.int .i64 (mulR P M Mod a x))); have s0 := HSF.out.c0; have s1 := HSF.out.c1; have s2 := HSF.out.c2; have s3 := cell_other (a := ⟨C, k, none⟩) (v := .int .i64 (mulR P M Mod a x)) hc1 hne1))
   go_wp2_with fail
   rw [HX.out] at HFS
   exact ⟨⟨k + 1, by omega, rfl, by rw [← HFS.out]; exact HC1.out.set k _, HSF⟩, by simp only [intOf]; omega⟩
  ·obtain rfl : n = k := by omega
   rw [fillTo_full, ← HSC.out] at HC
   have HL : Hid ((scaleL (refOps P M Mod) a xs).length = n) := by show _ = _; rw [scaleL_len, HN.out]
   go_wp2_with fail
   go_ret
   have := HC.out.oi (B := w.heap.size) (by omega) (by rw [HL.out]; omega)
   rw [HL.out] at this
   exact ⟨_, rfl, this, HFR.out.bel⟩
set_option maxHeartbeats 8000000 in
theorem rAddTo_any (w : World) (P M a : Int) (mv v u : Value) (Mod xs ys : List Int) (hm : SI w mv Mod) (hv : SI w v xs) (hu : SI w u ys) (hn : xs.length ≤ 100000000) (hxy : xs.length ≤ ys.length) (ho : orderF P M ≠ 0) (hmod : ModP P M Mod) :
  Calls Tryz.prog 97 #[.agg #[.int .i64 P, .int .i64 M, mv], v, .int .i64 a, u] w (RetO w (addToL (refOps P M Mod) xs a ys)) := by
 obtain ⟨A, c, rfl, hv⟩ := hv
 obtain ⟨B, d, rfl, hu⟩ := hu
 have HV := Lib.hid hv.si; clear hv
 have hul := hu.len
 have HU := Lib.hid hu.si; clear hu
 have HM := Lib.hid hm; clear hm
 have HMOD := Lib.hid hmod; clear hmod
 have HO := Lib.hid ho; clear ho
 obtain ⟨n, hnn⟩ : ∃ n, n = xs.length := ⟨_, rfl⟩
 rw [← hnn] at hn HV hxy ⊢
 have HSC : Hid (addToL (refOps P M Mod) xs a ys = rowOf n fun i => if ys.getD i 0 ≠ 0 then addF P M (xs.getD i 0) (mulR P M Mod a (ys.getD i 0)) else xs.getD i 0) := by rw [hnn]; rfl
 have HN := Lib.hid hnn; clear hnn
 have hmk := fun (w : World) => run_mkI n (by omega) w
 have HF := Lib.hid (FBox.mk' w P M mv)
 go_enter Tryz.func97, Tryz.ntmps97
 go_wp2_with fail
 clear hmk
 obtain ⟨C, hC⟩ : ∃ C, C = w.heap.size + 1 := ⟨_, rfl⟩
 have HF1 := Lib.hid (HF.out.on (bl_alloc _ (.cells (madeCells #[.int .i64 0] n) 3)))
 have HC0 : Hid (RI ((w.alloc (.cells #[.int .i64 P, .int .i64 M, mv] 24)).alloc (.cells (madeCells #[.int .i64 0] n) 3)) C (List.replicate n 0)) := by
  have := RI.made (w.alloc (.cells #[.int .i64 P, .int .i64 M, mv] 24)) n
  rw [World.size_alloc, ← hC] at this
  exact this
 rw [← hC]
 have hC1 : w.heap.size < C := by omega
 clear hC HF
 obtain ⟨f, hf⟩ : ∃ f : Nat → Int, f = fun i => if ys.getD i 0 ≠ 0 then addF P M (xs.getD i 0) (mulR P M Mod a (ys.getD i 0)) else xs.getD i 0 := ⟨_, rfl⟩
 rw [← hf] at HSC
 have HFE := Lib.hid hf; clear hf
 go_loopw [10] (fun i wr => ∃ k : Nat, k ≤ n ∧ i = .int .i64 (k : Int) ∧ Hid (RI wr C (fillTo n f (fun _ => 0) k)) ∧ Hid (FBox w wr P M mv)) (fun i _ => (n - intOf i).toNat)
 case atStart => exact ⟨0, Nat.zero_le _, rfl, by rw [fillTo_zero, rowOf_zero]; exact HC0, HF1⟩
 case round =>
  clear HC0 HF1
  obtain ⟨k, hk, rfl, HC, HFR⟩ := hrel
  by_cases hlt : k < n
  ·have hlu : k < ys.length := by omega
   obtain ⟨ad, x, rfl, hc, _, HX⟩ := (HV.out.below HFR.out.bel (Nat.le_refl _)).elt (k := k) (by rw [← HN.out]; exact hlt)
   obtain ⟨bd, y, rfl, hd, _, HY⟩ := (HU.out.below HFR.out.bel (Nat.le_refl _)).elt (k := k) hlu
   have d1 := HC.out.cell k (by rw [fillTo_len]; exact hlt)
   rw [fillTo_getD hlt] at d1
   have f1 := HC.out.frozen k
   have HFS := Lib.hid (fillTo_set (f := f) (g := fun _ => 0) hlt)
   have hna : ad.add k ≠ ⟨C, k, none⟩ := fun e => by
    obtain ⟨ad', x', e1, hc', _, _⟩ := HV.out.elt (k := k) (by rw [← HN.out]; exact hlt)
    obtain rfl := Option.some.inj e1
    have := World.block_lt_of_cell? _ _ hc'
    rw [e] at this
    exact absurd this (by show ¬ C < w.heap.size; omega)
   have hnb : bd.add k ≠ ⟨C, k, none⟩ := fun e => by
    obtain ⟨ad', x', e1, hc', _, _⟩ := HU.out.elt (k := k) hlu
    obtain rfl := Option.some.inj e1
    have := World.block_lt_of_cell? _ _ hc'
    rw [e] at this
    exact absurd this (by show ¬ C < w.heap.size; omega)
   have hfk : f k = if y ≠ 0 then addF P M x (mulR P M Mod a y) else x := by rw [HFE.out]; show (if ys.getD k 0 ≠ 0 then _ else _) = _; rw [HX.out, HY.out]
   have HFK := Lib.hid hfk; clear hfk
   have ha1 := cell_other (a := ⟨C, k, none⟩) (v := .int .i64 x) hc hna
   have hb1 := cell_other (a := ⟨C, k, none⟩) (v := .int .i64 x) hd hnb
   obtain ⟨wx, hwx⟩ : ∃ wx, wx = wr.setCell ⟨C, k, none⟩ (.int .i64 x) := ⟨_, rfl⟩
   have HFX := Lib.hid (HFR.out.far (k := k) hC1 (.int .i64 x))
   have HCX := Lib.hid (HC.out.set k x)
   rw [← hwx] at HFX HCX
   have HBX : Hid (ad.block = ad.block) := rfl
   by_cases hy0 : y = 0
   ·have hyb : (y != 0) = false := by simp [hy0]
    have HY0 := Lib.hid hy0; clear hy0
    rw [hwx] at HFX HCX
    clear hwx
    go_wp2_with fail
    exact ⟨⟨k + 1, by omega, rfl, by rw [← HFS.out, HFK.out, if_neg (by rw [HY0.out]; simp)]; exact HCX, HFX⟩, by simp only [intOf]; omega⟩
   ·have hyb : (y != 0) = true := by simp [hy0]
    have HY0 := Lib.hid hy0; clear hy0
    rw [← hwx] at ha1 hb1
    have HA1 := Lib.hid ha1; have HB1 := Lib.hid hb1
    rw [hwx] at hb1
    clear ha1
    go_wp2_with fail
    clear hb1 hc hd d1 f1
    rw [← hwx]
    clear hwx
    have ha1 := HA1.out; have hb1 := HB1.out
    have c0 := HFX.out.c0; have c1 := HFX.out.c1; have c2 := HFX.out.c2
    go_region_held3 (fun w' => w'.cell? ⟨w.heap.size, 0, none⟩ = some (.int .i64 P) ∧ w'.cell? ⟨w.heap.size, 1, none⟩ = some (.int .i64 M) ∧ w'.cell? ⟨w.heap.size, 2, none⟩ = some mv ∧ w'.cell? (ad.add k) = some (.int .i64 x) ∧ w'.cell? (bd.add k) = some (.int .i64 y)) (go_keep)
     (first
      | (go_at_call 104; refine (rMul_any _ P M a y mv Mod (HM.out.below HFX.out.drew.bel (Nat.le_refl _)) HO.out HMOD.out).mono ?_; rintro e w1 ⟨rfl, hb1⟩; have HC1 := Lib.hid (HCX.out.drew.belowS hb1); have HF1 := Lib.hid (HFX.out.drew.on hb1); have ha2 := cell_below hb1 HA1.out; have hb2 := cell_below hb1 HB1.out; clear hb1; have e0 := HF1.out.c0; have e1 := HF1.out.c1; have e2 := HF1.out.c2)
      | (go_at_call 103; refine (rAdd_any _ P M x _ mv HO.out).mono ?_; rintro e w2 ⟨rfl, hb1⟩; have HC2 := Lib.hid (HC1.out.belowS hb1); have HF2 := Lib.hid (HF1.out.on hb1); have ha3 := cell_below hb1 ha2; have hb3 := cell_below hb1 hb2; clear hb1; have g0 := HF2.out.c0; have g1 := HF2.out.c1; have g2 := HF2.out.c2; have d1 := HC2.out.cell k (by rw [List.length_set, fillTo_len]; exact hlt); have f1 := HC2.out.frozen k; have HSF := Lib.hid (HF2.out.far (k := k) hC1 (.int .i64 (addF P M x (mulR P M Mod a y)))); have s0 := HSF.out.c0; have s1 := HSF.out.c1; have s2 := HSF.out.c2; have s3 := cell_other (a := ⟨C, k, none⟩) (v := .int .i64 (addF P M x (mulR P M Mod a y))) ha3 hna; have s4 := cell_other (a := ⟨C, k, none⟩) (v := .int .i64 (addF P M x (mulR P M Mod a y))) hb3 hnb))
    go_wp2_with fail
    have HE := Lib.hid (HC2.out.set k (addF P M x (mulR P M Mod a y)))
    rw [List.set_set] at HE
    exact ⟨⟨k + 1, by omega, rfl, by rw [← HFS.out, HFK.out, if_pos HY0.out]; exact HE, HSF⟩, by simp only [intOf]; omega⟩
  ·obtain rfl : n = k := by omega
   rw [fillTo_full, ← HSC.out] at HC
   have HL : Hid ((addToL (refOps P M Mod) xs a ys).length = n) := by show _ = _; rw [addToL_len, HN.out]
   go_wp2_with fail
   go_ret
   have := HC.out.oi (B := w.heap.size) (by omega) (by rw [HL.out]; omega)
   rw [HL.out] at this
   exact ⟨_, rfl, this, HFR.out.bel⟩
end Go.Proofs.YtlofhnmpbpjigaaGreat
