/- Texts of a claim, merged: words, plain facts and walks that the last of its texts uses. -/
import Derived.Test.YtlcgihjdafglmaaZA1
import Derived.Deep.RegionHeld3
import Derived.BigRegion
import Derived.OrdersHeld
import Derived.StillTail
set_option linter.unusedSimpArgs false
set_option linter.unusedVariables false

/- ref04: prime, divides, irreducible, Check. -/
namespace Go.Proofs.Ytlcgihjdafglmaa
open Go.RowKit
set_option linter.unusedVariables false
set_option maxRecDepth 100000

set_option maxHeartbeats 2000000 in
theorem rprime_any (w : World) (n : Int) (h2 : 2 ≤ n) (hn : n ≤ 256) : Calls Try.prog 79 #[.int .i64 n] w fun e w' => e = .returned (.bool (primeB n)) ∧ w = w' := by
  go_enter Try.func79, Try.ntmps79
  go_wp2
  go_loop [3] (fun d => ∃ k : Int, 2 ≤ k ∧ k ≤ n ∧ d = .int .i64 k ∧ Hid (∀ e : Int, 2 ≤ e → e < k → n % e ≠ 0)) (fun d => (n - intOf d).toNat)
  case atStart => exact ⟨2, by omega, by omega, rfl, hid' fun e h1 h2 => by omega⟩
  case round =>
    obtain ⟨k, hk2, hkn, rfl, HG⟩ := hrel
    have hk0 : ¬ k = 0 := by omega
    by_cases hle : k < n
    · by_cases hz : n % k = 0
      · have HE : Hid (primeB n = false) := primeB_false fun hp => hp.2 k hk2 hle hz
        have hz2 : (n % k == 0) = true := by simp [hz]
        have HZ := Lib.hid hz; clear hz
        go_wp2
        go_ret
        exact ⟨by rw [HE.out]; rfl, rfl⟩
      · have hz2 : (n % k == 0) = false := by simp [hz]
        have HZ := Lib.hid hz; clear hz
        go_wp2
        go_round
        case rel => exact ⟨k + 1, by omega, by omega, rfl, hid' fun e h1 h2 => by
          by_cases he : e = k
          · subst he; exact HZ.out
          · exact HG.out e h1 (by omega)⟩
        case measure => simp [intOf]; omega
    · obtain rfl : n = k := by omega
      have HE : Hid (primeB n = true) := primeB_true ⟨h2, HG.out⟩
      go_wp2
      go_ret
      exact ⟨by rw [HE.out]; rfl, rfl⟩

set_option maxHeartbeats 16000000 in
theorem rdivides_any (w : World) (vl vm : Value) (low mod : List Int) (p : Int) (hl : SI w vl low) (hm : SI w vm mod) (hp2 : 2 ≤ p) (hp3 : p ≤ 256) (hl1 : 1 ≤ low.length) (hlm : low.length ≤ mod.length) (hm8 : mod.length ≤ 8) (hlr : Rng p low) (hmr : Rng p mod) :
    Calls Try.prog 109 #[vl, vm, .int .i64 p] w (RetB w (dividesB p low mod)) := by
  obtain ⟨d, hd⟩ : ∃ d, d = low.length := ⟨_, rfl⟩
  obtain ⟨n, hn⟩ : ∃ n, n = mod.length := ⟨_, rfl⟩
  obtain ⟨LA, lc, rfl, hl⟩ := hl
  obtain ⟨MA, mc, rfl, hm⟩ := hm
  have HL := Lib.hid hl.si; have HM := Lib.hid hm.si; clear hl hm
  rw [← hd] at HL hl1 hlm ⊢
  rw [← hn] at HM hlm hm8 ⊢
  have HD := Lib.hid hd; have HNN := Lib.hid hn; clear hd hn
  have HLR := Lib.hid hlr; have HMR := Lib.hid hmr; clear hlr hmr
  have hp0 : ¬ p = 0 := by omega
  go_enter Try.func109, Try.ntmps109
  have HE0 := Lib.hid (OI.empty (B := w.heap.size) w (Nat.le_refl _))
  have HM0 := Lib.hid (HM.out.below (bl_alloc w (.cells #[] 3)) (Nat.le_refl _))
  have T1 : Hid (([] : List Int).length + mod.length ≤ 17592186044416) := by show _ ≤ _; rw [← HNN.out]; simp; omega
  have T2 : Hid (([] ++ mod : List Int).length = n) := by show _ = _; rw [List.nil_append, HNN.out]
  obtain ⟨L, hLL⟩ : ∃ L, L = n + 1 := ⟨_, rfl⟩
  have T4 : Hid (([] ++ mod ++ [1] : List Int).length = L) := by show _ = _; rw [hLL, List.nil_append, List.length_append, ← HNN.out]; rfl
  have hL1 : 1 ≤ L := by omega
  have hL9 : L ≤ 9 := by omega
  have HLE := Lib.hid hLL; clear hLL
  have T3 : Hid (w.heap.size ≤ (w.alloc (.cells #[] 3)).heap.size) := by show _ ≤ _; simp
  have HB0 := Lib.hid (bl_alloc w (.cells #[] 3))
  go_wp2_with (first
    | (at_builtin; refine wpList_catI rfl _ _ rfl w.heap.size _ _ rfl HE0.out _ mod rfl HM0.out T1.out T3.out ?_; (intro v1 w1 ho hg hv1); go_must (have HB1 := Lib.hid (HE0.out.bgrown HB0.out T3.out hg); obtain ⟨G, gc, rfl, hG1, hG2⟩ := ho.form (by rw [T2.out]; omega); rw [T2.out] at ho ⊢; have HP := Lib.hid (PushI.mk' (w0 := w) ho HB1.out HB1.out.size 1); clear ho hg hv1))
    | (at_builtin; refine wpList_pushI rfl _ _ rfl w.heap.size _ ([] ++ mod) rfl HP.out.own w1.heap.size 1 1 rfl HP.out.box (by rw [T2.out]; omega) HP.out.up ?_; (intro v2 w2 ho hg); go_must (have HB2 := Lib.hid (HP.out.below (Nat.le_refl _) hg); obtain ⟨G2, gc2, rfl, hG21, hG22⟩ := ho.form (by simp); rw [T4.out] at ho ⊢; have HO2 := Lib.hid ho; clear ho hg)))
  rw [List.nil_append] at HO2
  obtain ⟨r0, hr0⟩ : ∃ r0, r0 = mod ++ [1] := ⟨_, rfl⟩
  rw [← hr0] at HO2
  have HR0L : Hid (r0.length = n + 1) := by show _ = _; rw [hr0, List.length_append, ← HNN.out]; rfl
  have HR0R : Hid (Rng p r0) := by
    rw [hr0]
    intro k
    by_cases hk : k < mod.length
    · have e : (mod ++ [(1 : Int)]).getD k 0 = mod.getD k 0 := by simp [List.getD, List.getElem?_append_left hk]
      rw [e]; exact HMR.out k
    · by_cases hk2 : k = mod.length
      · subst hk2
        have e : (mod ++ [(1 : Int)]).getD mod.length 0 = 1 := by simp [List.getD]
        rw [e]; omega
      · rw [getD_len (by rw [List.length_append, List.length_singleton]; omega)]; omega
  have HDV : Hid (dividesB p low mod = (divTo p low r0 (n + 1 - d)).all (· == 0)) := by show _ = _; unfold dividesB; rw [← hr0, ← HNN.out, ← HD.out]
  clear hr0
  clear T1 T2 T3 T4 HE0 HM0 HP HB0 HB1
  go_loopw [9] (fun i wr => ∃ t I : Nat, t ≤ n + 1 - d ∧ I + t = n ∧ i = .int .i64 (I : Int) ∧ Hid (OI w.heap.size wr (.slice (some ⟨G2, 0, none⟩) L gc2) (divTo p low r0 t)) ∧ Hid (Below w.heap.size w wr)) (fun i _ => (intOf i).toNat)
  case atStart => exact ⟨0, n, Nat.zero_le _, rfl, by have := HLE.out; congr 1; omega, HO2, HB2⟩
  case round =>
    clear HO2 HB2
    obtain ⟨t, I, ht, hI, rfl, HO, HB⟩ := hrel
    obtain ⟨r, hr⟩ : ∃ r, r = divTo p low r0 t := ⟨_, rfl⟩
    rw [← hr] at HO
    have HRL : Hid (r.length = n + 1) := by show _ = _; rw [hr, divTo_len, HR0L.out]
    have hIL : I < L := by have := HLE.out; omega
    have HRR : Hid (Rng p r) := by rw [hr]; exact divTo_rng hp2 low r0 HR0R.out t
    by_cases hlt : d ≤ I
    · have ci := HO.out.cell I (by rw [HRL.out]; omega)
      obtain ⟨q, hq⟩ : ∃ q, q = r.getD I 0 := ⟨_, rfl⟩
      rw [← hq] at ci
      have HNX : Hid (divTo p low r0 (t + 1) = (divRow p low q I d r).set I 0) := by
        show _ = _
        rw [divTo, HR0L.out, show n + 1 - 1 - t = I by omega, ← hr, ← hq, HD.out]
      have hqr := HRR.out I
      rw [← hq] at hqr
      obtain ⟨hq0, hq1⟩ := hqr
      have hI8 : I ≤ 8 := by omega
      have hIn : I < n + 1 := by omega
      clear hr hq
      go_wp2_with fail
      clear ci
      go_loopw [11] (fun j wr => ∃ k : Nat, k ≤ d ∧ j = .int .i64 (k : Int) ∧ Hid (OI w.heap.size wr (.slice (some ⟨G2, 0, none⟩) L gc2) (divRow p low q I k r)) ∧ Hid (Below w.heap.size w wr)) (fun j _ => (d - intOf j).toNat)
      case atStart => exact ⟨0, Nat.zero_le _, rfl, HO, HB⟩
      case round =>
        clear HO HB
        obtain ⟨j, hj, rfl, HO, HB⟩ := hrel
        obtain ⟨cc, hcc⟩ : ∃ cc, cc = divRow p low q I j r := ⟨_, rfl⟩
        rw [← hcc] at HO
        have HCL : Hid (cc.length = n + 1) := by show _ = _; rw [hcc, divRow_len, HRL.out]
        by_cases hltj : j < d
        · obtain ⟨la, q2, rfl, cl, _, HQ2⟩ := (HL.out.below HB.out (Nat.le_refl _)).elt (k := j) (by rw [← HD.out]; exact hltj)
          have hmj := HLR.out j
          rw [HQ2.out] at hmj
          obtain ⟨hm0, hm1⟩ := hmj
          have hrr := divRow_rng hp2 low q I j r HRR.out
          rw [← hcc] at hrr
          obtain ⟨D, hDD⟩ : ∃ D, D = I - d := ⟨_, rfl⟩
          obtain ⟨T, hT⟩ : ∃ T, T = D + j := ⟨_, rfl⟩
          have hTL : T < n + 1 := by omega
          have hTn : T < L := by have := HLE.out; omega
          have hw1 : IntKind.i64.wrap ((I : Int) - (d : Int)) = (D : Int) := by rw [IntWalk.i64_in _ (by omega)]; omega
          have hw2 : IntKind.i64.wrap ((D : Int) + (j : Int)) = (T : Int) := by rw [IntWalk.i64_in _ (by omega)]; omega
          have hrow : divRow p low q I (j + 1) r = cc.set T ((cc.getD T 0 + (p - q) * q2) % p) := by rw [divRow, ← hcc, HQ2.out, ← HD.out, ← hDD, ← hT]
          have HROW := Lib.hid hrow
          have ck := HO.out.cell T (by rw [HCL.out]; exact hTL)
          have fk := HO.out.frozen T
          have HSET := Lib.hid (HO.out.set T ((cc.getD T 0 + (p - q) * q2) % p))
          have hr3 := hrr T
          generalize cc.getD T 0 = q3 at *
          clear hcc hrow hrr
          have HT := Lib.hid hT; have HDH := Lib.hid hDD; clear hT hDD
          obtain ⟨hr30, hr31⟩ := hr3
          have hs0 : 0 ≤ p - q := by omega
          have hmm0 : 0 ≤ (p - q) * q2 := Int.mul_nonneg hs0 hm0
          have hmm1 : (p - q) * q2 ≤ 256 * 256 := Int.mul_le_mul (by omega) (by omega) hm0 (by omega)
          go_wp2_with fail
          go_still_tail 26, (by kernel_rfl)
          change wpList _ _ _ _ _ wr.drew
          go_wp2_with fail
          exact ⟨⟨j + 1, by omega, rfl, by rw [HROW.out]; exact HSET.out.below (bl_drew _) (Nat.le_refl _), (HB.out.setCell hG21 _).drew⟩, by simp only [intOf]; omega⟩
        · obtain rfl : d = j := by omega
          have ck := HO.out.cell I (by rw [HCL.out]; exact hIn)
          have fk := HO.out.frozen I
          have HSET := Lib.hid (HO.out.set I 0)
          rw [hcc] at HSET
          generalize cc.getD I 0 = q3 at *
          clear hcc
          go_wp2_with fail
          exact ⟨⟨t + 1, I - 1, by omega, by omega, by congr 1; omega, by rw [HNX.out]; exact HSET, HB.out.setCell hG21 _⟩, by simp only [intOf]; omega⟩
    · obtain rfl : t = n + 1 - d := by omega
      rw [← hr] at HDV
      clear hr
      go_wp2_with fail
      go_loop [12] (fun i => ∃ k : Nat, k ≤ L ∧ i = .int .i64 (k : Int) ∧ Hid (∀ j, j < k → r.getD j 0 = 0)) (fun i => (L - intOf i).toNat)
      case atStart => exact ⟨0, Nat.zero_le _, rfl, hid' fun j hj => absurd hj (by omega)⟩
      case round =>
        obtain ⟨k, hk, rfl, HG⟩ := hrel
        by_cases hltk : k < L
        · have ck := HO.out.cell k (by rw [HRL.out, ← HLE.out]; exact hltk)
          obtain ⟨q, hq⟩ : ∃ q, q = r.getD k 0 := ⟨_, rfl⟩
          rw [← hq] at ck
          by_cases hz : q = 0
          · have hb : (q != 0) = false := by simp [hz]
            have HQ := Lib.hid hq; have HZ := Lib.hid hz; clear hq hz
            go_wp2_with fail
            exact ⟨⟨k + 1, by omega, rfl, hid' fun j hj => by
              by_cases e : j = k
              · subst e; rw [← HQ.out]; exact HZ.out
              · exact HG.out j (by omega)⟩, by simp only [intOf]; omega⟩
          · have hb : (q != 0) = true := by simp [hz]
            have HE : Hid (dividesB p low mod = false) := by
              show _ = _
              rw [HDV.out, List.all_eq_false]
              exact ⟨q, by rw [hq]; exact getD_mem_or k (by rw [HRL.out, ← HLE.out]; exact hltk), by simp [hz]⟩
            clear hq hz
            go_wp2_with fail
            go_ret
            exact ⟨by rw [HE.out]; rfl, HB.out⟩
        · have HE : Hid (dividesB p low mod = true) := by
            show _ = _
            rw [HDV.out, List.all_eq_true]
            intro x hx
            obtain ⟨i, hi, rfl⟩ := List.mem_iff_getElem.1 hx
            have := HG.out i (by rw [HRL.out, ← HLE.out] at hi; omega)
            simp [List.getD, hi] at this
            simp [this]
          go_wp2_with fail
          go_ret
          exact ⟨by rw [HE.out]; rfl, HB.out⟩

theorem pow_half {p : Int} (hp2 : 2 ≤ p) {n e : Nat} (hq : p ^ n ≤ 256) (he : 2 * (e + 1) ≤ n) : 2 ≤ p ^ (e + 1) ∧ p ^ (e + 1) ≤ 256 := by
  have h1 := pow_mono' hp2 (show e + 1 ≤ n by omega)
  have h2 := pow_mono' hp2 (show 1 ≤ e + 1 by omega)
  rw [Int.pow_one] at h2
  omega

set_option maxHeartbeats 8000000 in
theorem rirr_any (w : World) (vm : Value) (mod : List Int) (p : Int) (hm : SI w vm mod) (hp2 : 2 ≤ p) (hp3 : p ≤ 256) (hm8 : mod.length ≤ 8) (hq : p ^ mod.length ≤ 256) (hmr : Rng p mod) :
    Calls Try.prog 80 #[vm, .int .i64 p] w (RetB w (irrB p mod)) := by
  obtain ⟨n, hn⟩ : ∃ n, n = mod.length := ⟨_, rfl⟩
  obtain ⟨MA, mc, rfl, hm⟩ := hm
  have HM := Lib.hid hm.si; clear hm
  rw [← hn] at HM hm8 hq ⊢
  have HNN := Lib.hid hn; clear hn
  have HMR := Lib.hid hmr; clear hmr
  have HQ := Lib.hid hq; clear hq
  have HIR : Hid (irrB p mod = irrTo p mod (n / 2)) := by show _ = _; unfold irrB; rw [← HNN.out]
  go_enter Try.func80, Try.ntmps80
  go_wp2_with fail
  go_loopw [5, 6] (fun c d wr => ∃ (e D : Nat) (z : Int), e ≤ n / 2 ∧ D = e + 1 ∧ c = .int .i64 z ∧ d = .int .i64 (D : Int) ∧ Hid (z = p ^ e) ∧ Hid (irrTo p mod e = true) ∧ Hid (Below w.heap.size w wr)) (fun _ d _ => (n + 1 - intOf d).toNat)
  case atStart => exact ⟨0, 1, 1, Nat.zero_le _, rfl, rfl, rfl, by show _ = _; rw [Int.pow_zero], rfl, bl_refl _⟩
  case round =>
    obtain ⟨e, D, z, he, hD, rfl, rfl, HZ, HI, HB⟩ := hrel
    by_cases hlt : 2 * D ≤ n
    · have hpw := pow_half (e := e) hp2 HQ.out (by omega)
      have hzp : z * p = p ^ (e + 1) := by rw [HZ.out, Int.pow_succ]
      obtain ⟨V, hV⟩ : ∃ V : Nat, p ^ (e + 1) = (V : Int) := ⟨(p ^ (e + 1)).toNat, by omega⟩
      rw [hV] at hzp hpw
      have HV : Hid ((p ^ (e + 1)).toNat = V) := by rw [hV]; rfl
      have HVP := Lib.hid hV; clear hV
      obtain ⟨hpw1, hpw2⟩ := hpw
      have hlt2 : 2 * (D : Int) ≤ (n : Int) := by omega
      have hz0 : 0 ≤ z := by rw [HZ.out]; have := pow_pos' hp2 e; omega
      have HDE := Lib.hid hD; clear hD
      have hD1 : 1 ≤ D := by have := HDE.out; omega
      have hDn : D ≤ n := by omega
      go_wp2_with fail
      clear hzp hz0
      go_loopw [7] (fun v wr => ∃ k : Nat, k ≤ V ∧ v = .int .i64 (k : Int) ∧ Hid (noneTo p mod D k = true) ∧ Hid (Below w.heap.size w wr)) (fun v _ => (V - intOf v).toNat)
      case atStart => exact ⟨0, Nat.zero_le _, rfl, rfl, HB⟩
      case round =>
        clear HB
        obtain ⟨k, hk, rfl, HN, HB⟩ := hrel
        by_cases hltk : k < V
        · go_wp2_with fail
          refine (rdigits_any _ _ _ _ (by omega) (by omega) hp2 (by omega) (by omega) (by omega)).mono ?_
          rintro e1 w1 ⟨u, rfl, hu, hb1⟩
          rw [show ((D : Int)).toNat = D from Int.toNat_natCast D] at hu
          have hs := hu.si (by rw [digitsF_len]; omega) (fun i => by have := digitsF_range (x := (k : Int)) (m := D) hp2 i; exact I64.of_small (by omega) (by omega))
          have HS := Lib.hid hs; clear hs hu
          have HB1 := Lib.hid (bl_trans HB.out hb1); clear hb1
          go_wp2_with fail
          refine (rdivides_any _ _ _ (digitsF k p D) mod p HS.out (HM.out.below HB1.out (Nat.le_refl _)) hp2 hp3 (by rw [digitsF_len]; exact hD1) (by rw [digitsF_len, ← HNN.out]; exact hDn) (by rw [← HNN.out]; exact hm8) (fun i => digitsF_range hp2 i) HMR.out).mono ?_
          rintro e2 w2 ⟨rfl, hb2⟩
          have HB2 := Lib.hid (bl_trans HB1.out hb2); clear hb2
          by_cases hdv : dividesB p (digitsF k p D) mod = true
          · have HE : Hid (irrB p mod = false) := by
              show _ = _
              rw [HIR.out]
              exact irrTo_false (d := e) (by have := HDE.out; omega) (by rw [HV.out, ← HDE.out]; exact noneTo_false hltk hdv)
            rw [hdv]
            clear hdv
            go_wp2_with fail
            go_ret
            exact ⟨by rw [HE.out]; rfl, HB2.out⟩
          · have hdf : dividesB p (digitsF k p D) mod = false := by simpa using hdv
            have HE : Hid (noneTo p mod D (k + 1) = true) := by show _ = _; rw [noneTo_succ, HN.out, hdf]; rfl
            rw [hdf]
            clear hdv hdf
            go_wp2_with fail
            exact ⟨⟨k + 1, by omega, rfl, HE, HB2⟩, by simp only [intOf]; omega⟩
        · obtain rfl : V = k := by omega
          have HE : Hid (irrTo p mod (e + 1) = true) := by show _ = _; rw [irrTo_succ, HI.out, HV.out, ← HDE.out, HN.out]; rfl
          go_wp2_with fail
          exact ⟨⟨e + 1, D + 1, _, by have := HDE.out; omega, by have := HDE.out; omega, rfl, rfl, HVP.out.symm, HE, HB⟩, by simp only [intOf]; omega⟩
    · have HE : Hid (irrB p mod = true) := by
        show _ = _
        rw [HIR.out, show n / 2 = e by omega, HI.out]
      have hlt2 : (n : Int) < 2 * (D : Int) := by omega
      clear hlt
      go_wp2_with fail
      go_ret
      exact ⟨by rw [HE.out]; rfl, HB.out⟩

/-- the description of a field, as the reference tells it -/
def FieldP (P M : Int) (Mod : List Int) : Prop := orderF P M ≠ 0 ∧ PrimeP P ∧ ModP P M Mod ∧ (M ≠ 1 → irrB P Mod = true)
noncomputable def checkF (P M : Int) (Mod : List Int) : Int := @ite _ (FieldP P M Mod) (Classical.propDecidable _) 0 1
theorem checkF_ok {P M : Int} {Mod : List Int} (h : FieldP P M Mod) : checkF P M Mod = 0 := by unfold checkF; rw [if_pos h]
theorem checkF_bad {P M : Int} {Mod : List Int} (h : ¬ FieldP P M Mod) : checkF P M Mod = 1 := by unfold checkF; rw [if_neg h]

set_option maxHeartbeats 8000000 in
theorem rCheck_any (w : World) (P M : Int) (mv : Value) (Mod : List Int) (hm : SI w mv Mod) :
    Calls Try.prog 51 #[.agg #[.int .i64 P, .int .i64 M, mv]] w (RetI w (checkF P M Mod)) := by
  obtain ⟨MA, mc, rfl, hm⟩ := hm
  have hn := hm.len
  have HM := Lib.hid hm.si; clear hm
  have HF := Lib.hid (FBox.mk' w P M (.slice MA Mod.length mc))
  by_cases ho : orderF P M = 0
  · have HE : Hid (checkF P M Mod = 1) := checkF_bad fun h => h.1 ho
    have HO := Lib.hid ho; clear ho
    go_enter Try.func51, Try.ntmps51
    go_wp2_with fail
    refine (order_any _ P M _).mono ?_
    rintro e w1 ⟨rfl, hb1⟩
    rw [HO.out]
    have HB1 := Lib.hid (bl_trans (bl_alloc _ _) hb1); clear hb1
    go_wp2_with fail
    go_ret
    exact ⟨by rw [HE.out]; rfl, HB1.out⟩
  obtain ⟨hP2, hP3, hM1, hM8, hq, hqq⟩ := order_ne ho
  clear hqq
  have ho2 : (orderF P M == 0) = false := by rw [beq_eq_false_iff_ne]; exact ho
  have HO := Lib.hid ho; clear ho
  generalize hoo : orderF P M = o at *
  have HOO := Lib.hid hoo; clear hoo
  by_cases hp : PrimeP P
  case neg =>
    have HE : Hid (checkF P M Mod = 1) := checkF_bad fun h => hp h.2.1
    have HP : Hid (primeB P = false) := primeB_false hp
    clear hp hq
    go_enter Try.func51, Try.ntmps51
    go_wp2_with fail
    refine (order_any _ P M _).mono ?_
    rintro e w1 ⟨rfl, hb1⟩
    rw [HOO.out]
    have HF1 := Lib.hid (HF.out.on hb1); clear hb1
    have c0 := HF1.out.c0
    go_wp2_with fail
    refine (rprime_any _ P hP2 hP3).mono ?_
    rintro e w2 ⟨rfl, rfl⟩
    rw [HP.out]
    go_wp2_with fail
    go_ret
    exact ⟨by rw [HE.out]; rfl, HF1.out.bel⟩
  have HPP := Lib.hid hp
  have HP : Hid (primeB P = true) := primeB_true hp
  clear hp
  go_enter Try.func51, Try.ntmps51
  go_wp2_with fail
  refine (order_any _ P M _).mono ?_
  rintro e w1 ⟨rfl, hb1⟩
  rw [HOO.out]
  have HF1 := Lib.hid (HF.out.on hb1); clear hb1
  have c0 := HF1.out.c0; have c1 := HF1.out.c1; have c2 := HF1.out.c2
  go_wp2_with fail
  refine (rprime_any _ P hP2 hP3).mono ?_
  rintro e w2 ⟨rfl, rfl⟩
  rw [HP.out]
  by_cases hM : M = 1
  · have hMb : (M == 1) = true := by rw [beq_iff_eq]; exact hM
    by_cases hl : Mod.length = 0
    · have hlb : (((Mod.length : Nat) : Int) != 0) = false := by simp; exact List.eq_nil_of_length_eq_zero hl
      have HE : Hid (checkF P M Mod = 0) := checkF_ok ⟨by rw [HOO.out]; exact HO.out, HPP.out, ⟨fun _ => List.eq_nil_of_length_eq_zero hl, fun h => absurd hM h⟩, fun h => absurd hM h⟩
      clear hM hl hq
      go_wp2_with fail
      go_ret
      exact ⟨by rw [HE.out]; rfl, HF1.out.bel⟩
    · have hlb : (((Mod.length : Nat) : Int) != 0) = true := by rw [bne_iff_ne]; omega
      have HE : Hid (checkF P M Mod = 1) := checkF_bad fun h => hl (by rw [h.2.2.1.1 hM]; rfl)
      clear hM hl hq
      go_wp2_with fail
      go_ret
      exact ⟨by rw [HE.out]; rfl, HF1.out.bel⟩
  have hMb : (M == 1) = false := by rw [beq_eq_false_iff_ne]; exact hM
  have HMne := Lib.hid hM; clear hM
  by_cases hl : (Mod.length : Int) = M
  case neg =>
    have hlb : (((Mod.length : Nat) : Int) != M) = true := by rw [bne_iff_ne]; exact hl
    have HE : Hid (checkF P M Mod = 1) := checkF_bad fun h => hl (h.2.2.1.2 HMne.out).1
    clear hl hq
    go_wp2_with fail
    go_ret
    exact ⟨by rw [HE.out]; rfl, HF1.out.bel⟩
  have hlb : (((Mod.length : Nat) : Int) != M) = false := by rw [bne_eq_false_iff_eq]; exact hl
  have HL := Lib.hid hl; clear hl
  have HQ := Lib.hid hq; clear hq
  go_wp2_with fail
  obtain ⟨wo, hwo⟩ : ∃ wo, wo = w1 := ⟨_, rfl⟩
  clear hlb
  go_loopw [3] (fun i wr => ∃ k : Nat, k ≤ Mod.length ∧ i = .int .i64 (k : Int) ∧ Hid (∀ j, j < k → 0 ≤ Mod.getD j 0 ∧ Mod.getD j 0 < P) ∧ Hid (FBox w wr P M (.slice MA Mod.length mc))) (fun i _ => (M - intOf i).toNat)
  case atStart => exact ⟨0, Nat.zero_le _, rfl, hid' fun j hj => absurd hj (by omega), HF1⟩
  case round =>
    clear c0 c1 c2
    obtain ⟨k, hk, rfl, HG, HFR⟩ := hrel
    have c0 := HFR.out.c0; have c1 := HFR.out.c1; have c2 := HFR.out.c2
    by_cases hlt : k < Mod.length
    · obtain ⟨ad, x, rfl, hc, _, HX⟩ := (HM.out.below HFR.out.bel (Nat.le_refl _)).elt hlt
      have hltM : (k : Int) < M := by have := HL.out; omega
      by_cases hx0 : x < 0
      · have HE : Hid (checkF P M Mod = 1) := checkF_bad fun h => by
          have := ((h.2.2.1.2 HMne.out).2 k hlt).1; rw [HX.out] at this; omega
        have d1 : decide (x < 0) = true := by simp [hx0]
        go_wp2_with fail
        go_quiet (fail)
        go_wp2_with fail
        go_ret
        exact ⟨by rw [HE.out]; rfl, (HFR.out.drewN _).bel⟩
      · have d1 : decide (x < 0) = false := by simp; omega
        by_cases hx1 : P ≤ x
        · have HE : Hid (checkF P M Mod = 1) := checkF_bad fun h => by
            have := ((h.2.2.1.2 HMne.out).2 k hlt).2; rw [HX.out] at this; omega
          go_wp2_with fail
          go_quiet (fail)
          go_wp2_with fail
          go_ret
          exact ⟨by rw [HE.out]; rfl, (HFR.out.drewN _).bel⟩
        · have d2 : decide (P ≤ x) = false := by simp; omega
          go_wp2_with fail
          go_quiet (fail)
          go_wp2_with fail
          exact ⟨⟨k + 1, by omega, rfl, hid' fun j hj => by
            by_cases e : j = k
            · subst e; rw [HX.out]; omega
            · exact HG.out j (by omega), HFR.out.drewN _⟩, by simp only [intOf]; omega⟩
    · have hkM : (k : Int) = M := by have := HL.out; omega
      have hge : M ≤ (k : Int) := by omega
      have HKM := Lib.hid hkM; clear hkM
      have HMP : Hid (ModP P M Mod) := ⟨fun h => absurd h HMne.out, fun _ => ⟨HL.out, fun j hj => HG.out j (by have := HL.out; have := HKM.out; omega)⟩⟩
      have HRNG : Hid (Rng P Mod) := fun j => by
        by_cases hj : j < Mod.length
        · exact (HMP.out.2 HMne.out).2 j hj
        · rw [getD_len (by omega)]; omega
      have hlt' : ¬ (k : Int) < M := by omega
      go_wp2_with fail
      refine (rirr_any _ _ Mod P (HM.out.below HFR.out.bel (Nat.le_refl _)) hP2 hP3 (by have := HL.out; omega) (by
        have := HQ.out; rwa [show M.toNat = Mod.length by have := HL.out; omega] at this) HRNG.out).mono ?_
      rintro e w3 ⟨rfl, hb3⟩
      have HF3 := Lib.hid (HFR.out.on hb3); clear hb3
      by_cases hir : irrB P Mod = true
      · have HE : Hid (checkF P M Mod = 0) := checkF_ok ⟨by rw [HOO.out]; exact HO.out, HPP.out, HMP.out, fun _ => hir⟩
        rw [hir]
        clear hir
        go_wp2_with fail
        go_ret
        exact ⟨by rw [HE.out]; rfl, HF3.out.bel⟩
      · have hif : irrB P Mod = false := by simpa using hir
        have HE : Hid (checkF P M Mod = 1) := checkF_bad fun h => hir (h.2.2.2 HMne.out)
        rw [hif]
        clear hir hif
        go_wp2_with fail
        go_ret
        exact ⟨by rw [HE.out]; rfl, HF3.out.bel⟩
end Go.Proofs.Ytlcgihjdafglmaa

/- field.shape, field.multiply. -/
namespace Go.Proofs.Ytlcgihjdafglmaa
open Go.RowKit
set_option linter.unusedVariables false
set_option maxRecDepth 100000

def ShapeP (P M : Int) (Mod : List Int) : Prop := orderF P M ≠ 0 ∧ PrimeP P ∧ ModP P M Mod
noncomputable def shapeB (P M : Int) (Mod : List Int) : Bool := @decide (ShapeP P M Mod) (Classical.propDecidable _)
theorem shapeB_true {P M : Int} {Mod : List Int} (h : ShapeP P M Mod) : shapeB P M Mod = true := by unfold shapeB; simp [h]
theorem shapeB_false {P M : Int} {Mod : List Int} (h : ¬ ShapeP P M Mod) : shapeB P M Mod = false := by unfold shapeB; simp [h]
set_option maxHeartbeats 4000000 in
theorem shape_any (w : World) (P M : Int) (mv : Value) (Mod : List Int) (h : SI w mv Mod) :
    Calls Try.prog 98 #[.agg #[.int .i64 P, .int .i64 M, mv]] w (RetB w (shapeB P M Mod)) := by
  obtain ⟨A, c, rfl, h⟩ := h
  have hn := h.len
  have H := Lib.hid (h.below (bl_alloc w (.cells #[.int .i64 P, .int .i64 M, .slice A Mod.length c] 24)) (Nat.le_refl _)); clear h
  by_cases ho : orderF P M = 0
  · have HE : Hid (shapeB P M Mod = false) := shapeB_false fun hs => hs.1 ho
    generalize hoo : orderF P M = o at *
    have HO := Lib.hid hoo; clear hoo
    subst ho
    go_enter Try.func98, Try.ntmps98
    go_wp2_with fail
    refine (forder_any _ _ _).mono ?_
    rintro e w1 ⟨rfl, rfl⟩
    rw [HO.out]
    go_wp2_with fail
    go_ret
    exact ⟨by rw [HE.out]; rfl, bl_alloc _ _⟩
  obtain ⟨hP2, hP3, hM1, hM8, hx1, hx2⟩ := order_ne ho
  clear hx1 hx2
  have ho2 : (orderF P M == 0) = false := by simp [ho]
  have HO := Lib.hid ho; clear ho
  by_cases hp : PrimeP P
  case neg =>
    have HE : Hid (shapeB P M Mod = false) := shapeB_false fun hs => hp hs.2.1
    have HPB : Hid (primeB P = false) := primeB_false hp
    clear hp
    go_enter Try.func98, Try.ntmps98
    go_wp2_with fail
    refine (forder_any _ _ _).mono ?_
    rintro e w1 ⟨rfl, rfl⟩
    go_wp2_with fail
    refine (isPrime_any _ _ hP2 hP3).mono ?_
    rintro e w1 ⟨rfl, rfl⟩
    rw [HPB.out]
    go_wp2_with fail
    go_ret
    exact ⟨by rw [HE.out]; rfl, bl_alloc _ _⟩
  have HPB : Hid (primeB P = true) := primeB_true hp
  have HPP := Lib.hid hp; clear hp
  by_cases hm1 : M = 1
  · have hm2 : (M == 1) = true := by simp [hm1]
    have HS : Hid (shapeB P M Mod = decide (Mod.length = 0)) := by
      have : shapeB P M Mod = decide (Mod.length = 0) := by
        by_cases hz : Mod = []
        · rw [shapeB_true ⟨HO.out, HPP.out, fun _ => hz, fun h => absurd hm1 h⟩]; simp [hz]
        · rw [shapeB_false fun hs => hz (hs.2.2.1 hm1)]; simp [hz]
      exact this
    clear hm1
    go_enter Try.func98, Try.ntmps98
    go_wp2_with fail
    refine (forder_any _ _ _).mono ?_
    rintro e w1 ⟨rfl, rfl⟩
    go_wp2_with fail
    refine (isPrime_any _ _ hP2 hP3).mono ?_
    rintro e w1 ⟨rfl, rfl⟩
    rw [HPB.out]
    by_cases hz : Mod.length = 0
    · have hz1 : (((Mod.length : Nat) : Int) == 0) = true := by simp [hz]
      have HSE : Hid (shapeB P M Mod = true) := by rw [HS.out]; simp [hz, Hid]
      clear hz
      go_wp2_with fail
      go_ret
      exact ⟨by rw [HSE.out]; rfl, bl_alloc _ _⟩
    · have hz1 : (((Mod.length : Nat) : Int) == 0) = false := by simp; exact fun h => hz (by simp [h])
      have HSE : Hid (shapeB P M Mod = false) := by rw [HS.out]; simp [hz, Hid]
      clear hz
      go_wp2_with fail
      go_ret
      exact ⟨by rw [HSE.out]; rfl, bl_alloc _ _⟩
  have hm2 : (M == 1) = false := by simp [hm1]
  have HM1 := Lib.hid hm1; clear hm1
  by_cases hl : (Mod.length : Int) = M
  case neg =>
    have HE : Hid (shapeB P M Mod = false) := shapeB_false fun hs => hl (hs.2.2.2 HM1.out).1
    have hl2 : ((Mod.length : Int) != M) = true := by simp [hl]
    clear hl
    go_enter Try.func98, Try.ntmps98
    go_wp2_with fail
    refine (forder_any _ _ _).mono ?_
    rintro e w1 ⟨rfl, rfl⟩
    go_wp2_with fail
    refine (isPrime_any _ _ hP2 hP3).mono ?_
    rintro e w1 ⟨rfl, rfl⟩
    rw [HPB.out]
    go_wp2_with fail
    go_ret
    exact ⟨by rw [HE.out]; rfl, bl_alloc _ _⟩
  have hl2 : ((Mod.length : Int) != M) = false := by simp [hl]
  have HL := Lib.hid hl; clear hl
  go_enter Try.func98, Try.ntmps98
  go_wp2_with fail
  refine (forder_any _ _ _).mono ?_
  rintro e w1 ⟨rfl, rfl⟩
  go_wp2_with fail
  refine (isPrime_any _ _ hP2 hP3).mono ?_
  rintro e w1 ⟨rfl, rfl⟩
  rw [HPB.out]
  go_wp2_with fail
  clear hl2
  go_loop [33] (fun i => ∃ k : Nat, k ≤ Mod.length ∧ i = .int .i64 k ∧ Hid (∀ j, j < k → 0 ≤ Mod.getD j 0 ∧ Mod.getD j 0 < P)) (fun i => Mod.length - (intOf i).toNat)
  case atStart => exact ⟨0, Nat.zero_le _, rfl, hid' fun j hj => absurd hj (by omega)⟩
  case round =>
    obtain ⟨k, hk, rfl, HG⟩ := hrel
    by_cases hlt : k < Mod.length
    · obtain ⟨ad, x, rfl, hc, _, HX⟩ := H.out.elt hlt
      by_cases hx : 0 ≤ x ∧ x < P
      · obtain ⟨hx0, hx1⟩ := hx
        go_wp2_with fail
        go_round
        case rel => exact ⟨k + 1, by omega, by go_num, hid' fun j hj => by
          by_cases e : j = k
          · subst e; rw [HX.out]; omega
          · exact HG.out j (by omega)⟩
        case measure => simp [intOf]; omega
      · have HE : Hid (shapeB P M Mod = false) := shapeB_false fun hs => hx (by have := (hs.2.2.2 HM1.out).2 k hlt; rwa [HX.out] at this)
        by_cases hx0 : x < 0
        · go_wp2_with fail
          go_ret
          exact ⟨by rw [HE.out]; rfl, bl_alloc _ _⟩
        · have hx1 : P ≤ x := by omega
          go_wp2_with fail
          go_ret
          exact ⟨by rw [HE.out]; rfl, bl_alloc _ _⟩
    · obtain rfl : k = Mod.length := by omega
      have HE : Hid (shapeB P M Mod = true) := shapeB_true ⟨HO.out, HPP.out, fun h => absurd h HM1.out, fun _ => ⟨HL.out, HG.out⟩⟩
      go_wp2_with fail
      go_ret
      exact ⟨by rw [HE.out]; rfl, bl_alloc _ _⟩
end Go.Proofs.Ytlcgihjdafglmaa

/- Plain facts: the product of two residues as field.multiply makes it (by Horner's rule), step by step. No program in sight. -/
namespace Go.Proofs.Ytlcgihjdafglmaa

/-- what a step starts from: the entries moved up by one -/
def shiftF (N : Nat) (out : List Int) : List Int := (List.range N).map fun j => if j = 0 then 0 else out.getD (j - 1) 0
/-- one entry of a step -/
def mulEntry (p : Int) (low a out : List Int) (N : Nat) (b : Int) (j : Nat) : Int :=
  ((if j = 0 then 0 else out.getD (j - 1) 0) + (p - out.getD (N - 1) 0) * low.getD j 0 + b * a.getD j 0) % p
/-- the entries below k are done -/
def mulTo (p : Int) (low a out : List Int) (N : Nat) (b : Int) (k : Nat) : List Int :=
  (List.range N).map fun j => if j < k then mulEntry p low a out N b j else if j = 0 then 0 else out.getD (j - 1) 0
def mulStep (p : Int) (low a out : List Int) (N : Nat) (b : Int) : List Int := (List.range N).map fun j => mulEntry p low a out N b j
/-- the product of digit lists -/
def mulL (p : Int) (low a : List Int) (N : Nat) : List Int → List Int
  | [] => List.replicate N 0
  | b :: r => mulStep p low a (mulL p low a N r) N b
theorem mulTo_zero (p : Int) (low a out : List Int) (N : Nat) (b : Int) : mulTo p low a out N b 0 = shiftF N out := by simp [mulTo, shiftF]
theorem mulTo_full (p : Int) (low a out : List Int) (N : Nat) (b : Int) : mulTo p low a out N b N = mulStep p low a out N b := by
  unfold mulTo mulStep
  exact List.map_congr_left fun j hj => by rw [if_pos (by simpa using hj)]
theorem mulTo_len (p : Int) (low a out : List Int) (N : Nat) (b : Int) (k : Nat) : (mulTo p low a out N b k).length = N := by simp [mulTo]
theorem mulStep_len (p : Int) (low a out : List Int) (N : Nat) (b : Int) : (mulStep p low a out N b).length = N := by simp [mulStep]
theorem mulL_len (p : Int) (low a : List Int) (N : Nat) : ∀ b, (mulL p low a N b).length = N
  | [] => by simp [mulL]
  | b :: r => by rw [mulL, mulStep_len]
theorem mulTo_getD {p : Int} {low a out : List Int} {N : Nat} {b : Int} {k : Nat} (hk : k < N) : (mulTo p low a out N b k).getD k 0 = if k = 0 then 0 else out.getD (k - 1) 0 := by
  simp [mulTo, List.getD, hk]
theorem mulTo_set {p : Int} {low a out : List Int} {N : Nat} {b : Int} {k : Nat} (hk : k < N) : (mulTo p low a out N b k).set k (mulEntry p low a out N b k) = mulTo p low a out N b (k + 1) := by
  apply List.ext_getElem?
  intro i
  by_cases hi : i < N
  · by_cases e : k = i
    · subst e; simp [mulTo, hi]
    · have h2 : (i < k + 1) = (i < k) := by simp; omega
      simp [mulTo, List.getElem?_set, e, hi, h2]
  · simp [mulTo, List.getElem?_set, hi]
theorem mulL_range {p : Int} {low a : List Int} {N : Nat} (hp : 2 ≤ p) : ∀ (b : List Int) (j : Nat), 0 ≤ (mulL p low a N b).getD j 0 ∧ (mulL p low a N b).getD j 0 < p
  | [], j => by
    rw [mulL]
    have : (List.replicate N (0 : Int)).getD j 0 = 0 := by by_cases h : j < N <;> simp [List.getD, h]
    rw [this]; omega
  | b :: r, j => by
    rw [mulL]
    by_cases h : j < N
    · have : (mulStep p low a (mulL p low a N r) N b).getD j 0 = mulEntry p low a (mulL p low a N r) N b j := by simp [mulStep, List.getD, h]
      rw [this]
      exact ⟨Int.emod_nonneg _ (by omega), Int.emod_lt_of_pos _ (by omega)⟩
    · rw [List.getD_eq_getElem?_getD, List.getElem?_eq_none (by rw [mulStep_len]; omega)]
      simp; omega
/-- the low coefficients that field.multiply uses -/
def lowF (M : Int) (Mod : List Int) : List Int := if 1 < M then Mod else []
/-- the product of two residues -/
def mulF (P M : Int) (Mod : List Int) (x y : Int) : Int := valueF P (mulL P (lowF M Mod) (digitsF x P M.toNat) M.toNat (digitsF y P M.toNat))
theorem mulL_drop {p : Int} {low a d : List Int} {N i : Nat} (h : i < d.length) : mulL p low a N (d.drop i) = mulStep p low a (mulL p low a N (d.drop (i + 1))) N (d.getD i 0) := by
  rw [drop_succ_getD h]; rfl
/-- the bounds of one entry's sum -/
theorem entry_bounds {p s top lw b a : Int} (hp2 : 2 ≤ p) (hp : p ≤ 256) (hs : 0 ≤ s ∧ s < p) (ht : 0 ≤ top ∧ top < p) (hl : 0 ≤ lw ∧ lw < p) (hb : 0 ≤ b ∧ b < p) (ha : 0 ≤ a ∧ a < p) :
    0 ≤ (p - top) * lw ∧ (p - top) * lw ≤ 65536 ∧ 0 ≤ b * a ∧ b * a ≤ 65536 := by
  have h1 : 0 ≤ (p - top) * lw := Int.mul_nonneg (by omega) (by omega)
  have h2 : (p - top) * lw ≤ 256 * 256 := Int.mul_le_mul (by omega) (by omega) (by omega) (by omega)
  have h3 : 0 ≤ b * a := Int.mul_nonneg (by omega) (by omega)
  have h4 : b * a ≤ 256 * 256 := Int.mul_le_mul (by omega) (by omega) (by omega) (by omega)
  omega
end Go.Proofs.Ytlcgihjdafglmaa

/- Regions that draw their order, with guards and calls that make memory, in which nothing old is written: reads are taken first in every world that meets S. -/
namespace Go.Proofs.Ytlcgihjdafglmaa
open Go.RowKit
section
variable {P : Program} {ops : Array Oper} {Q : Exit → Act → World → Prop} {S : World → Prop}

/-- whichever operation comes next: S holds behind it -/
def Kept (P : Program) (ops : Array Oper) (Q : Exit → Act → World → Prop) (S : World → Prop) : Nat → Array Bool → Act → World → Prop
  | 0, L, a, w => Region.ready .any ops L = [] ∧ Q .normal a w
  | n + 1, L, a, w =>
    (Region.ready .any ops L = [] → Q .normal a w) ∧
    ∀ i ∈ Region.ready .any ops L, wpOp P ops Q i (fun b v => S v ∧ Kept P ops Q S n (L.setIfInBounds i true) b v) a w
theorem Kept.any : ∀ (n : Nat) (L : Array Bool) (a : Act) (w : World), Kept P ops Q S n L a w → wpAny P .any ops Q n L a w
  | 0, _, _, _, h => h
  | n + 1, _, _, _, h => ⟨h.1, fun i hi => wpOp_mono (fun b v hb => Kept.any n _ b v hb.2) (h.2 i hi)⟩
theorem not_listedS {L : Array Bool} {i : Nat} {oj : Oper} {j : Nat} (hi : i ∈ Region.ready .any ops L) (hj : ops[j]? = some oj) (hall : ∀ e ∈ oj.after, Region.binds .any e = true → L.getD e.on false = true) : ∀ e ∈ oj.after, Region.binds .any e = true → e.on ≠ i := fun e he hb heq => by
  have h1 := hall e he hb
  have h0 := (mem_ready.1 hi).1
  rw [heq] at h1
  rcases Nat.lt_or_ge i L.size with hs | hs
  · simp [hs] at h0 h1; rw [h0] at h1; cases h1
  · simp [Array.getElem?_eq_none hs] at h1
theorem Kept.first {i : Nat} {oi : Oper} {v : Value} (hi : ops[i]? = some oi) (hsel : ∀ (j : Nat) (o : Oper) cs b, ops[j]? = some o → o.op ≠ .select cs b)
    (hQ : ∀ c a w, Q (.panic c) (a.put oi.dst v) w → Q (.panic c) a w) :
    ∀ (n : Nat) (L : Array Bool) (a : Act) (w : World),
      (∀ j oj, ops[j]? = some oj → j ≠ i → L.getD j true = false → (∀ e ∈ oj.after, Region.binds .any e = true → e.on ≠ i) → oi.apart ops oj = true) →
      i ∈ Region.ready .any ops L → YieldsIf P ops S oi v a → S w →
      Kept P ops Q S n (L.setIfInBounds i true) (a.put oi.dst v) w → Kept P ops Q S (n + 1) L a w
  | 0, L, a, w, _, hr, hy, hS, H => by
    refine ⟨fun h => (by rw [h] at hr; cases hr), fun j hj => ?_⟩
    by_cases hji : j = i
    · subst hji; exact hy.wpOp hi hS ⟨hS, H⟩
    · have := ready_mono hj hji
      rw [H.1] at this
      cases this
  | n + 1, L, a, w, hfree, hr, hy, hS, H => by
    refine ⟨fun h => (by rw [h] at hr; cases hr), fun j hj => ?_⟩
    by_cases hji : j = i
    · subst hji; exact hy.wpOp hi hS ⟨hS, H⟩
    · have h1 := H.2 j (ready_mono hj hji)
      obtain ⟨hjun, oj, hoj, hall⟩ := mem_ready.1 hj
      have h2 := wpOp_putIf hoj (hfree j oj hoj hji hjun (not_listedS hr hoj hall)) (fun cs b => hsel i oi cs b hi) (fun cs b => hsel j oj cs b hoj) hQ hy h1
      have hr' := ready_mono hr (Ne.symm hji)
      refine wpOp_mono (fun b u h3 => ?_) h2
      rcases h3 with ⟨hyb, hSu, hD⟩
      refine ⟨hSu, Kept.first hi hsel hQ n (L.setIfInBounds j true) b u (fun k ok hk hki hun hno => ?_) hr' hyb hSu ?_⟩
      · refine hfree k ok hk hki ?_ hno
        by_cases hjk : j = k
        · subst hjk; exact hjun
        · rw [getD_set_ne true hjk] at hun; exact hun
      · rw [Array.setIfInBounds_comm _ _ hji]
        exact hD
/-- operation i is taken: it reads (or computes) the same in every world that meets S -/
theorem Kept.take {i n : Nat} {oi : Oper} {v : Value} {L : Array Bool} {a : Act} {w : World} (hi : ops[i]? = some oi) (hs : Region.noSelect ops = true) (hf : Region.free .any ops L i = true)
    (hr : (Region.ready .any ops L).contains i = true) (hQ : ∀ c a w, Q (.panic c) (a.put oi.dst v) w → Q (.panic c) a w) (hy : YieldsIf P ops S oi v a) (hS : S w)
    (h : Kept P ops Q S n (L.setIfInBounds i true) (a.put oi.dst v) w) : Kept P ops Q S (n + 1) L a w :=
  Kept.first hi (Region.noSelect_spec hs) hQ n L a w (Region.free_spec hi hf) (by simpa using hr) hy hS h
/-- one operation alone may come next -/
theorem Kept.only {i n : Nat} {o : Oper} {L : Array Bool} {a : Act} {w : World} (hr : Region.ready .any ops L = [i]) (ho : ops[i]? = some o)
    (h : ∀ K : Act → World → Prop, Hid (∀ b v, S v → (S v → Kept P ops Q S n (L.setIfInBounds i true) b v) → K b v) → if Region.wanted o (yielded ops a.tmps) = true then Oper.wp P o a w K Q else K (a.put o.dst undef) w) :
    Kept P ops Q S (n + 1) L a w := by
  refine ⟨fun h0 => absurd (hr.symm.trans h0) (by simp), fun j hj => ?_⟩
  rw [hr] at hj
  obtain rfl : j = i := by simpa using hj
  exact wpOp_step ho (fun K' hK => h K' (fun b v hS hD => hK b v ⟨hS, hD hS⟩))
theorem Kept.done {n : Nat} {L : Array Bool} {a : Act} {w : World} (hr : Region.ready .any ops L = []) (h : Q .normal a w) : Kept P ops Q S n L a w := by
  cases n with
  | zero => exact ⟨hr, h⟩
  | succ n => exact ⟨fun _ => h, fun i hi => by rw [hr] at hi; cases hi⟩
theorem Kept.start {id : Nat} {a : Act} {w : World} (hm : P.follows .mixedOrders = true) (hS : S w.drew) (h : S w.drew → Kept P ops Q S ops.size (Array.replicate ops.size false) a w.drew) : (Code.region id ops true).wp P Q a w :=
  wp_region_any hm (Kept.any _ _ _ _ (h hS))
end
end Go.Proofs.Ytlcgihjdafglmaa

/- Regions that draw their order and whose last store hits a cell that they load: reads are taken first in every world that meets S, and S is not asked behind the last operation. -/
namespace Go.Proofs.Ytlcgihjdafglmaa
open Go.RowKit
section
variable {P : Program} {ops : Array Oper} {Q : Exit → Act → World → Prop} {S : World → Prop}

/-- whichever operation comes next: S holds behind it, unless it was the last -/
def Drawn (P : Program) (ops : Array Oper) (Q : Exit → Act → World → Prop) (S : World → Prop) : Nat → Array Bool → Act → World → Prop
  | 0, L, a, w => Region.ready .any ops L = [] ∧ Q .normal a w
  | n + 1, L, a, w =>
    (Region.ready .any ops L = [] → Q .normal a w) ∧
    ∀ i ∈ Region.ready .any ops L, wpOp P ops Q i (fun b v => (i + 1 ≠ ops.size → S v) ∧ Drawn P ops Q S n (L.setIfInBounds i true) b v) a w
theorem Drawn.any : ∀ (n : Nat) (L : Array Bool) (a : Act) (w : World), Drawn P ops Q S n L a w → wpAny P .any ops Q n L a w
  | 0, _, _, _, h => h
  | n + 1, _, _, _, h => ⟨h.1, fun i hi => wpOp_mono (fun b v hb => Drawn.any n _ b v hb.2) (h.2 i hi)⟩
theorem not_listed {L : Array Bool} {i : Nat} {oj : Oper} {j : Nat} (hi : i ∈ Region.ready .any ops L) (hj : ops[j]? = some oj) (hall : ∀ e ∈ oj.after, Region.binds .any e = true → L.getD e.on false = true) : ∀ e ∈ oj.after, Region.binds .any e = true → e.on ≠ i := fun e he hb heq => by
  have h1 := hall e he hb
  have h0 := (mem_ready.1 hi).1
  rw [heq] at h1
  rcases Nat.lt_or_ge i L.size with hs | hs
  · simp [hs] at h0 h1; rw [h0] at h1; cases h1
  · simp [Array.getElem?_eq_none hs] at h1
theorem Drawn.first {i : Nat} {oi : Oper} {v : Value} (hi : ops[i]? = some oi) (hsel : ∀ (j : Nat) (o : Oper) cs b, ops[j]? = some o → o.op ≠ .select cs b)
    (hQ : ∀ c a w, Q (.panic c) (a.put oi.dst v) w → Q (.panic c) a w) (hw : Region.waitsFor .any ops (ops.size - 1) i = true) :
    ∀ (n : Nat) (L : Array Bool) (a : Act) (w : World),
      (∀ j oj, ops[j]? = some oj → j ≠ i → L.getD j true = false → (∀ e ∈ oj.after, Region.binds .any e = true → e.on ≠ i) → oi.apart ops oj = true) →
      i ∈ Region.ready .any ops L → YieldsIf P ops S oi v a → S w →
      Drawn P ops Q S n (L.setIfInBounds i true) (a.put oi.dst v) w → Drawn P ops Q S (n + 1) L a w
  | 0, L, a, w, _, hr, hy, hS, H => by
    refine ⟨fun h => (by rw [h] at hr; cases hr), fun j hj => ?_⟩
    by_cases hji : j = i
    · subst hji; exact hy.wpOp hi hS ⟨fun _ => hS, H⟩
    · have := ready_mono hj hji
      rw [H.1] at this
      cases this
  | n + 1, L, a, w, hfree, hr, hy, hS, H => by
    refine ⟨fun h => (by rw [h] at hr; cases hr), fun j hj => ?_⟩
    by_cases hji : j = i
    · subst hji; exact hy.wpOp hi hS ⟨fun _ => hS, H⟩
    · have h1 := H.2 j (ready_mono hj hji)
      obtain ⟨hjun, oj, hoj, hall⟩ := mem_ready.1 hj
      have h2 := wpOp_putIf hoj (hfree j oj hoj hji hjun (not_listed hr hoj hall)) (fun cs b => hsel i oi cs b hi) (fun cs b => hsel j oj cs b hoj) hQ hy h1
      have hr' := ready_mono hr (Ne.symm hji)
      have hjl : j + 1 ≠ ops.size := fun hjl => by
        obtain ⟨ol, hol, e, he, hb, hon⟩ := Region.waitsFor_spec hw
        rw [show ops.size - 1 = j by omega] at hol
        obtain rfl := Option.some.inj (hol.symm.trans hoj)
        exact not_listed hr hoj hall e he hb hon
      refine wpOp_mono (fun b u h3 => ?_) h2
      rcases h3 with ⟨hyb, hSb, hD⟩
      have hSu := hSb hjl
      refine ⟨fun _ => hSu, Drawn.first hi hsel hQ hw n (L.setIfInBounds j true) b u (fun k ok hk hki hun hno => ?_) hr' hyb hSu ?_⟩
      · refine hfree k ok hk hki ?_ hno
        by_cases hjk : j = k
        · subst hjk; exact hjun
        · rw [getD_set_ne true hjk] at hun; exact hun
      · rw [Array.setIfInBounds_comm _ _ hji]
        exact hD
/-- operation i is taken: it reads (or computes) the same in every world that meets S -/
theorem Drawn.take {i n : Nat} {oi : Oper} {v : Value} {L : Array Bool} {a : Act} {w : World} (hi : ops[i]? = some oi) (hs : Region.noSelect ops = true) (hf : Region.free .any ops L i = true)
    (hr : (Region.ready .any ops L).contains i = true) (hw : Region.waitsFor .any ops (ops.size - 1) i = true) (hQ : ∀ c a w, Q (.panic c) (a.put oi.dst v) w → Q (.panic c) a w) (hy : YieldsIf P ops S oi v a) (hS : S w)
    (h : Drawn P ops Q S n (L.setIfInBounds i true) (a.put oi.dst v) w) : Drawn P ops Q S (n + 1) L a w :=
  Drawn.first hi (Region.noSelect_spec hs) hQ hw n L a w (Region.free_spec hi hf) (by simpa using hr) hy hS h
/-- one operation alone may come next -/
theorem Drawn.only {i n : Nat} {o : Oper} {L : Array Bool} {a : Act} {w : World} (hr : Region.ready .any ops L = [i]) (ho : ops[i]? = some o)
    (h : ∀ K : Act → World → Prop, Hid (∀ b v, (i + 1 ≠ ops.size → S v) → ((i + 1 ≠ ops.size → S v) → Drawn P ops Q S n (L.setIfInBounds i true) b v) → K b v) → if Region.wanted o (yielded ops a.tmps) = true then Oper.wp P o a w K Q else K (a.put o.dst undef) w) :
    Drawn P ops Q S (n + 1) L a w := by
  refine ⟨fun h0 => absurd (hr.symm.trans h0) (by simp), fun j hj => ?_⟩
  rw [hr] at hj
  obtain rfl : j = i := by simpa using hj
  exact wpOp_step ho (fun K' hK => h K' (fun b v hS hD => hK b v ⟨hS, hD hS⟩))
theorem Drawn.done {n : Nat} {L : Array Bool} {a : Act} {w : World} (hr : Region.ready .any ops L = []) (h : Q .normal a w) : Drawn P ops Q S n L a w := by
  cases n with
  | zero => exact ⟨hr, h⟩
  | succ n => exact ⟨fun _ => h, fun i hi => by rw [hr] at hi; cases hi⟩
theorem Drawn.start {id : Nat} {a : Act} {w : World} (hm : P.follows .mixedOrders = true) (hS : S w.drew) (h : S w.drew → Drawn P ops Q S ops.size (Array.replicate ops.size false) a w.drew) : (Code.region id ops true).wp P Q a w :=
  wp_region_any hm (Drawn.any _ _ _ _ (h hS))
end
end Go.Proofs.Ytlcgihjdafglmaa

/- Words for structs that a call stores into a block of its own, field by field. -/
namespace Go.Proofs.Ytlcgihjdafglmaa
open Go.RowKit
set_option linter.unusedVariables false

/-- the world behind the stores, under a name of its own -/
structure Laid (w w' : World) (g : Nat) (t : TypeId) (cs : List Value) : Prop where
  blk : Blk w' g t cs
  gr : w.grownBy w' (some g)
theorem Laid.c0 {w w' : World} {g : Nat} {t : TypeId} {a : Value} {cs : List Value} (h : Laid w w' g t (a :: cs)) : w'.cell? ⟨g, 0, none⟩ = some a := h.blk.cell 0
theorem Laid.c1 {w w' : World} {g : Nat} {t : TypeId} {a b : Value} {cs : List Value} (h : Laid w w' g t (a :: b :: cs)) : w'.cell? ⟨g, 1, none⟩ = some b := h.blk.cell 1
theorem Laid.c2 {w w' : World} {g : Nat} {t : TypeId} {a b c : Value} {cs : List Value} (h : Laid w w' g t (a :: b :: c :: cs)) : w'.cell? ⟨g, 2, none⟩ = some c := h.blk.cell 2
theorem Laid.c3 {w w' : World} {g : Nat} {t : TypeId} {a b c d : Value} {cs : List Value} (h : Laid w w' g t (a :: b :: c :: d :: cs)) : w'.cell? ⟨g, 3, none⟩ = some d := h.blk.cell 3
theorem Laid.c4 {w w' : World} {g : Nat} {t : TypeId} {a b c d e : Value} {cs : List Value} (h : Laid w w' g t (a :: b :: c :: d :: e :: cs)) : w'.cell? ⟨g, 4, none⟩ = some e := h.blk.cell 4
theorem Laid.below {B : Nat} {w0 w w' : World} {g : Nat} {t : TypeId} {cs : List Value} (h : Laid w w' g t cs) (hb : Below B w0 w) (hB : B ≤ w.heap.size) (hg : B ≤ g) : Below B w0 w' := hb.grown h.gr hB fun k e => by cases e; exact hg
theorem lay2 {w : World} {g : Nat} {t : TypeId} {a b x y : Value} (h : Blk w g t [a, b]) : ∃ w', (w.setCell ⟨g, 0, none⟩ x).setCell ⟨g, 1, none⟩ y = w' ∧ Laid w w' g t [x, y] :=
  ⟨_, rfl, (h.set_ 0 x).set_ 1 y, gr_set2 w g 0 1 x y⟩
theorem lay3 {w : World} {g : Nat} {t : TypeId} {a b c x y z : Value} (h : Blk w g t [a, b, c]) : ∃ w', ((w.setCell ⟨g, 0, none⟩ x).setCell ⟨g, 1, none⟩ y).setCell ⟨g, 2, none⟩ z = w' ∧ Laid w w' g t [x, y, z] :=
  ⟨_, rfl, ((h.set_ 0 x).set_ 1 y).set_ 2 z, gr_setCell (p := ⟨g, 2, none⟩) (gr_set2 w g 0 1 x y) (.inl rfl) _⟩
theorem lay5 {w : World} {g : Nat} {t : TypeId} {a b c d e x y z u v : Value} (h : Blk w g t [a, b, c, d, e]) : ∃ w', ((((w.setCell ⟨g, 0, none⟩ x).setCell ⟨g, 1, none⟩ y).setCell ⟨g, 2, none⟩ z).setCell ⟨g, 3, none⟩ u).setCell ⟨g, 4, none⟩ v = w' ∧ Laid w w' g t [x, y, z, u, v] :=
  ⟨_, rfl, ((((h.set_ 0 x).set_ 1 y).set_ 2 z).set_ 3 u).set_ 4 v, gr_setCell (p := ⟨g, 4, none⟩) (gr_setCell (p := ⟨g, 3, none⟩) (gr_setCell (p := ⟨g, 2, none⟩) (gr_set2 w g 0 1 x y) (.inl rfl) _) (.inl rfl) _) (.inl rfl) _⟩
theorem Blk.three {w : World} {g : Nat} {t : TypeId} {a b c : Value} (h : Blk w g t [a, b, c]) :
    w.cell? ⟨g, 0, none⟩ = some a ∧ w.cell? ⟨g, 1, none⟩ = some b ∧ w.cell? ⟨g, 2, none⟩ = some c ∧ w.frozen? ⟨g, 0, none⟩ = false ∧ w.frozen? ⟨g, 1, none⟩ = false ∧ w.frozen? ⟨g, 2, none⟩ = false :=
  ⟨h.cell 0, h.cell 1, h.cell 2, h.frozen 0, h.frozen 1, h.frozen 2⟩
theorem Blk.two {w : World} {g : Nat} {t : TypeId} {a b : Value} (h : Blk w g t [a, b]) :
    w.cell? ⟨g, 0, none⟩ = some a ∧ w.cell? ⟨g, 1, none⟩ = some b ∧ w.frozen? ⟨g, 0, none⟩ = false ∧ w.frozen? ⟨g, 1, none⟩ = false :=
  ⟨h.cell 0, h.cell 1, h.frozen 0, h.frozen 1⟩
theorem Blk.five {w : World} {g : Nat} {t : TypeId} {a b c d e : Value} (h : Blk w g t [a, b, c, d, e]) :
    w.cell? ⟨g, 0, none⟩ = some a ∧ w.cell? ⟨g, 1, none⟩ = some b ∧ w.cell? ⟨g, 2, none⟩ = some c ∧ w.cell? ⟨g, 3, none⟩ = some d ∧ w.cell? ⟨g, 4, none⟩ = some e ∧
    w.frozen? ⟨g, 0, none⟩ = false ∧ w.frozen? ⟨g, 1, none⟩ = false ∧ w.frozen? ⟨g, 2, none⟩ = false ∧ w.frozen? ⟨g, 3, none⟩ = false ∧ w.frozen? ⟨g, 4, none⟩ = false :=
  ⟨h.cell 0, h.cell 1, h.cell 2, h.cell 3, h.cell 4, h.frozen 0, h.frozen 1, h.frozen 2, h.frozen 3, h.frozen 4⟩
end Go.Proofs.Ytlcgihjdafglmaa

/- What a value reads as, while only blocks below a bound turn: results that lie in new memory. -/
namespace Go.Proofs.Ytlcgihjdafglmaa
open Go.RowKit
set_option linter.unusedVariables false

/-- Φ holds in every world in which the blocks from B on read as they do here -/
def Sep (B : Nat) (w : World) (Φ : World → Prop) : Prop := ∀ w2 : World, (∀ p : Addr, B ≤ p.block → p.block < w.heap.size → w2.cell? p = w.cell? p) → Φ w2
section
variable {B B' : Nat} {w w' : World} {Φ Ψ : World → Prop}
theorem Sep.out (h : Sep B w Φ) : Φ w := h w fun _ _ _ => rfl
theorem Sep.mono (h : Sep B w Φ) (hB : B' ≤ B) : Sep B' w Φ := fun w2 h2 => h w2 fun p h3 h4 => h2 p (by omega) h4
theorem Sep.of (h : Sep B w Φ) (hs : w.heap.size ≤ w'.heap.size) (hc : ∀ p : Addr, B ≤ p.block → p.block < w.heap.size → w'.cell? p = w.cell? p) : Sep B w' Φ := fun w2 h2 =>
  h w2 fun p h3 h4 => (h2 p h3 (Nat.lt_of_lt_of_le h4 hs)).trans (hc p h3 h4)
theorem Sep.on (h : Sep B w Φ) (hb : Below w.heap.size w w') : Sep B w' Φ := h.of hb.size fun p _ h4 => hb.cell h4
theorem Sep.grown {row : Option Nat} (h : Sep B w Φ) (hg : w.grownBy w' row) (hr : ∀ g, row = some g → g < B) : Sep B w' Φ := h.of hg.size fun p h3 h4 =>
  World.cell?_of_block (hg.block _ h4 fun e => by have := hr _ e.symm; omega)
theorem Sep.imp (h : Sep B w Φ) (k : ∀ w2, Φ w2 → Ψ w2) : Sep B w Ψ := fun w2 h2 => k w2 (h w2 h2)
theorem Sep.and (h : Sep B w Φ) (k : Sep B w Ψ) : Sep B w fun w2 => Φ w2 ∧ Ψ w2 := fun w2 h2 => ⟨h w2 h2, k w2 h2⟩
end
theorem SI.wfs {w : World} {v : Value} {xs : List Int} (h : SI w v xs) (k : Nat) : I64 (xs.getD k 0) := by obtain ⟨_, _, _, h⟩ := h; exact h.wf k
theorem SI.len' {w : World} {v : Value} {xs : List Int} (h : SI w v xs) : xs.length ≤ 17592186044416 := by obtain ⟨_, _, _, h⟩ := h; exact h.len
theorem SS.len' {w : World} {v : Value} {xs : List (List Int)} (h : SS w v xs) : xs.length ≤ 17592186044416 := by obtain ⟨_, _, _, h⟩ := h; exact h.len
theorem SI.moved {w w' : World} {v : Value} {xs : List Int} (h : SI w v xs) (hc : ∀ p : Addr, v.ownBlock = some p.block → p.block < w.heap.size → w'.cell? p = w.cell? p) : SI w' v xs := by
  obtain ⟨A, c, rfl, h⟩ := h
  refine ⟨A, c, rfl, h.len, h.cap, fun k hk => ?_, h.wf⟩
  obtain ⟨ad, e, hcl⟩ := h.cell k hk
  refine ⟨ad, e, ?_⟩
  subst e
  rw [hc (ad.add k) (by rw [block_of_add]; rfl) (World.block_lt_of_cell? _ _ hcl)]
  exact hcl
theorem SI.sep {B : Nat} {w : World} {v : Value} {xs : List Int} (h : SI w v xs) (hn : 0 < xs.length → ∀ g, v.ownBlock = some g → B ≤ g) : Sep B w fun w2 => SI w2 v xs := fun w2 h2 => by
  by_cases h0 : 0 < xs.length
  · exact h.moved fun p hp hl => h2 p (hn h0 _ hp) hl
  · obtain ⟨A, c, rfl, h⟩ := h
    exact ⟨A, c, rfl, h.len, h.cap, fun k hk => absurd hk (by omega), h.wf⟩
theorem OI.sep {B : Nat} {w : World} {v : Value} {xs : List Int} (h : OI B w v xs) (hl : xs.length ≤ 17592186044416) (hw : ∀ k, I64 (xs.getD k 0)) : Sep B w fun w2 => SI w2 v xs :=
  (h.si hl hw).sep fun _ g hg => (h.lt hg).1
theorem SI.nilSep (B : Nat) (w : World) : Sep B w fun w2 => SI w2 (.slice none 0 0) [] := fun w2 _ => SI.none_ w2
theorem SS.nilSep (B : Nat) (w : World) : Sep B w fun w2 => SS w2 (.slice none 0 0) [] := fun w2 _ => SS.none_ w2
theorem OS.sep {B : Nat} {X : Nat → Prop} {w : World} {v : Value} {l : List (List Int)} (h : OS B X w v l) (hX : ∀ g, g < B → X g) (hl : l.length ≤ 17592186044416) : Sep B w fun w2 => SS w2 v l := fun w2 h2 => by
  obtain ⟨us, ho, hi⟩ := h
  have hc := ho.2
  rcases hc with ⟨rfl, h0⟩ | ⟨g, cap, cur, rfl, hB, hg, hn, _, _, _⟩
  · obtain rfl : l = [] := List.eq_nil_of_length_eq_zero h0
    exact SS.none_ w2
  · have hgl := (Array.getElem?_eq_some_iff.1 hg).1
    refine ⟨some ⟨g, 0, none⟩, cap, rfl, hl, hn, fun k hk => ?_⟩
    obtain ⟨u, hu, hs, hx⟩ := hi k hk
    refine ⟨_, u, rfl, ?_, (hs.sep (B := B) fun h0 g' hg' => ?_) w2 h2⟩
    · rw [h2 _ (by rw [block_of_add]; exact hB) (by rw [block_of_add]; exact hgl)]
      exact World.ownsRow.cells ho (g := g) rfl k u hu
    · refine Decidable.byContradiction fun hlt => (hx h0 g' hg').2 (hX g' (by omega))
end Go.Proofs.Ytlcgihjdafglmaa
