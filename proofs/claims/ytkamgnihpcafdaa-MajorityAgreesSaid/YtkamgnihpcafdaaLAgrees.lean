/- The law MajorityAgrees returns true for every input. -/
import Derived.Test.YtkamgnihpcafdaaRVotes
import Derived.Test.YtkamgnihpcafdaaAgreesP
import Derived.Test.YtkamgnihpcafdaaMemG
import Derived.StillTailTactics
namespace Go.Proofs.Ytkamgnihpcafdaa
open Go.RowKit
set_option linter.unusedVariables false
set_option maxRecDepth 100000

theorem replicate_getD (n k : Nat) : (List.replicate n (0 : Int)).getD k 0 = 0 := by
  by_cases h : k < n <;> simp [List.getD, h]

set_option maxHeartbeats 8000000 in
theorem lawAgrees (w : World) (m : Int) (vv vt : Value) (vars : List Int) (terms : List (List Int)) (hv : SI w vv vars) (ht : SS w vt terms) :
    Calls Try.prog 5 #[.int .i64 m, vv, vt] w (RetB w true) := by
  obtain ⟨VA, vc, rfl, hvat⟩ := hv
  have hvl := hvat.len
  have HVS := Lib.hid hvat.si; clear hvat
  obtain ⟨TA, tc, rfl, ht⟩ := ht
  have HT := Lib.hid ht; clear ht
  by_cases he : (evalSpec m vars).2 = 0
  case neg =>
    generalize hbb : (evalSpec m vars).2 = b at *
    have HBB := Lib.hid hbb; clear hbb
    have hne : (b != 0) = true := by simp [he]
    clear he
    go_enter Try.func5, Try.ntmps5
    go_wp2_with fail
    refine (alive43_any _).mono ?_
    rintro e w1 ⟨rfl, hb1⟩
    have HB1 := Lib.hid hb1; clear hb1
    go_wp2_with fail
    refine (reval_any _ _ _ vars (HVS.out.below HB1.out (Nat.le_refl _))).mono ?_
    rintro e w2 ⟨u, rfl, _, _, hb2⟩
    rw [HBB.out]
    have HB2 := Lib.hid (bl_trans HB1.out hb2); clear hb2
    go_wp2_with fail
    go_ret
    exact ⟨rfl, HB2.out⟩
  obtain ⟨hm0, hm6, hs⟩ := evalSpec_zero he
  have HE := Lib.hid he; clear he
  by_cases hlen : 300 < terms.length
  · go_enter Try.func5, Try.ntmps5
    go_wp2_with fail
    refine (alive43_any _).mono ?_
    rintro e w1 ⟨rfl, hb1⟩
    have HB1 := Lib.hid hb1; clear hb1
    go_wp2_with fail
    refine (reval_any _ _ _ vars (HVS.out.below HB1.out (Nat.le_refl _))).mono ?_
    rintro e w2 ⟨u, rfl, _, _, hb2⟩
    rw [HE.out]
    have HB2 := Lib.hid (bl_trans HB1.out hb2); clear hb2
    go_wp2_with fail
    go_ret
    exact ⟨rfl, HB2.out⟩
  have hlen3 : terms.length ≤ 300 := by omega
  clear hlen
  have HS := Lib.hid hs; clear hs
  have hN := two_pow_le hm6
  have HM := Lib.hid (maskN_lt_pow HS.out)
  have HTERM := Lib.hid (fun (term : List Int) => @AllAre.term m vars term hm0 hm6 HS.out)
  generalize hNN : 2 ^ m.toNat = N at *
  have hp2 : (2 : Int) ^ m.toNat = (N : Int) := by rw [← hNN]; simp
  have HN := Lib.hid hNN; clear hNN
  have hmki := run_mkI N (by omega)
  generalize hMM : maskN vars = M at *
  have HMM := Lib.hid hMM; clear hMM
  go_enter Try.func5, Try.ntmps5
  go_wp2_with fail
  refine (alive43_any _).mono ?_
  rintro e w1 ⟨rfl, hb1⟩
  have HB1 := Lib.hid hb1; clear hb1
  go_wp2_with fail
  refine (reval_any _ _ _ vars (HVS.out.below HB1.out (Nat.le_refl _))).mono ?_
  rintro e w2 ⟨u, rfl, _, _, hb2⟩
  rw [HE.out]
  have HB2 := Lib.hid (bl_trans HB1.out hb2); clear hb2
  go_wp2_with fail
  clear hmki
  have HB3 := Lib.hid (bl_trans HB2.out (bl_alloc w2 (.cells (madeCells #[.int .i64 0] N) 3)))
  have HO3 := Lib.hid (OI.made (B := w2.heap.size) w2 N (Nat.le_refl _) (by omega))
  go_loopw [10, 11] (fun cf i wr => ∃ (k : Nat) (cc : Int) (y : List Int), k ≤ terms.length ∧ i = .int .i64 k ∧ cf = .int .i64 cc ∧ 0 ≤ cc ∧ cc ≤ 1 ∧ Hid (y.length = N) ∧ Hid (Bits y) ∧ Hid (AllAre N M y cc) ∧
      Hid (OI w2.heap.size wr (.slice (some ⟨w2.heap.size, 0, none⟩) N N) y) ∧ Hid (Below w2.heap.size w2 wr)) (fun _ i _ => terms.length - (intOf i).toNat)
  case atStart => exact ⟨0, 0, List.replicate N 0, Nat.zero_le _, rfl, rfl, by omega, by omega, by simp [Hid], hid' fun k hk => .inl (replicate_getD N k), AllAre.zero N M (replicate_getD N), HO3, bl_alloc _ _⟩
  case round =>
    clear HB3 HO3
    obtain ⟨k, cc, y, hk, rfl, rfl, hc0, hc1, HYL, HYB, HALL, HO, HB⟩ := hrel
    have HBW := Lib.hid (bl_trans HB2.out HB.out)
    by_cases hlt : k < terms.length
    · obtain ⟨ad, Ak, ck, term, rfl, hcw, HTKw, HTE⟩ := HT.out.elt hlt
      have HCW := Lib.hid hcw; clear hcw
      have hc := cell_below HBW.out HCW.out
      have HTK := Lib.hid (HTKw.out.below HBW.out (Nat.le_refl _))
      by_cases het : (evalSpec m term).2 = 0
      case neg =>
        generalize hbb : (evalSpec m term).2 = b at *
        have HBB := Lib.hid hbb; clear hbb
        have hne : (b != 0) = true := by simp [het]
        clear het
        go_wp2_with fail
        refine (reval_any _ _ _ term HTK.out.si).mono ?_
        rintro e w3 ⟨u3, rfl, _, _, hb3⟩
        rw [HBB.out]
        have HB3 := Lib.hid (bl_trans HBW.out hb3); clear hb3
        go_wp2_with fail
        go_ret
        exact ⟨rfl, HB3.out⟩
      obtain ⟨_, _, hst⟩ := evalSpec_zero het
      have HEV : Hid (evalSpec m term = (evalF m term, 0)) := evalSpec_ok hm0 hm6 hst
      have HST := Lib.hid hst; clear hst
      have HET := Lib.hid het; clear het
      have htl : term.length ≤ 17592186044416 := HTK.out.len
      go_wp2_with fail
      refine (reval_any _ _ _ term HTK.out.si).mono ?_
      rintro e w3 ⟨u3, rfl, hsi, hnew, hb3⟩
      rw [HET.out]
      rw [HEV.out] at hsi
      obtain ⟨UA, uc, rfl, hsi⟩ := hsi
      have HU := Lib.hid hsi; clear hsi
      have HNW := Lib.hid hnew; clear hnew
      have HUL : Hid ((evalF m term).length = N) := by
        have : (evalF m term).length = N := by rw [length_evalF]; exact HN.out
        exact this
      have HB3 := Lib.hid hb3; clear hb3
      have HBW3 := Lib.hid (bl_trans HBW.out HB3.out)
      have hc3 := cell_below HBW3.out HCW.out
      have HTK3 := Lib.hid (HTK.out.below HB3.out (Nat.le_refl _))
      have HO3 := Lib.hid (HO.out.below HB3.out (Nat.le_refl _))
      clear hc
      by_cases hbig : vars.length < term.length
      · go_wp2_with fail
        go_ret
        exact ⟨rfl, HBW3.out⟩
      · have hsm : term.length ≤ vars.length := by omega
        have hdd : decide (vars.length < term.length) = false := by simp; omega
        clear hbig
        go_wp2_with fail
        obtain ⟨wo, rfl⟩ : ∃ wo : World, wo = wr := ⟨_, rfl⟩
        have HO4 : Hid (OI w2.heap.size w3 (.slice (some ⟨w2.heap.size, 0, none⟩) N N) (addTo N y (evalF m term) 0)) := by rw [addTo_zero HYL.out]; exact HO3
        have HBA := Lib.hid (bl_trans HB.out HB3.out)
        go_loopw [14] (fun i wx => ∃ (p : Nat), p ≤ N ∧ i = .int .i64 p ∧ Hid (OI w2.heap.size wx (.slice (some ⟨w2.heap.size, 0, none⟩) N N) (addTo N y (evalF m term) p)) ∧ Hid (w3.grownBy wx (some w2.heap.size)) ∧ Hid (Below w2.heap.size w2 wx)) (fun i _ => N - (intOf i).toNat)
        case atStart => exact ⟨0, Nat.zero_le _, rfl, HO4, hid' (World.grownBy.refl _ _), HBA⟩
        case round =>
          obtain ⟨p, hp, rfl, HOp, HGp, HBp⟩ := hrel
          by_cases hpl : p < N
          · have hcy := HOp.out.cell p (by rw [addTo_len]; exact hpl)
            have hfr := HOp.out.frozen p
            rw [addTo_getD hpl, if_neg (by omega)] at hcy
            have hszr : w2.heap.size < wo.heap.size := by have := (HO.out.lt (g := w2.heap.size) rfl).2; exact this
            obtain ⟨bd, t, rfl, hct, _, HTT⟩ := (HU.out.grown HGp.out (fun g hg e => by have := HNW.out g hg; injection e with e; omega)).elt (by rw [HUL.out]; exact hpl)
            have hyb : y.getD p 0 = 0 ∨ y.getD p 0 = 1 := HYB.out p (by rw [HYL.out]; exact hpl)
            have htb : t = 0 ∨ t = 1 := by rw [← HTT.out, evalF_getD m term p (by rw [HN.out]; exact hpl)]; split <;> simp
            have HSET := Lib.hid (HOp.out.set p ((y.getD p 0 + t) % 2))
            have HSUCC := Lib.hid (addTo_succ (y := y) (t := evalF m term) hpl)
            generalize hyy : y.getD p 0 = yy at *
            have HYY := Lib.hid hyy; clear hyy
            have hy0 : 0 ≤ yy := by omega
            have hy1 : yy ≤ 1 := by omega
            have ht0 : 0 ≤ t := by omega
            have ht1 : t ≤ 1 := by omega
            clear hyb htb
            have hul : p < (evalF m term).length := by rw [HUL.out]; exact hpl
            go_wp2_with fail
            go_still_tail 13, (by kernel_rfl)
            change wpList _ _ _ _ _ wr.drew
            go_wp2_with fail
            go_roundw
            case rel => exact ⟨p + 1, by omega, by go_num, by
              have h1 := HSUCC.out
              rw [HTT.out] at h1
              rw [← h1]; exact HSET.out.below (bl_drew _) (Nat.le_refl _), gr_drew (gr_setCell HGp.out (.inl rfl) _), (HBp.out.setCell (Nat.le_refl _) _).drew⟩
            case measure => simp [intOf]; omega
          · obtain rfl : p = N := by omega
            have HYN : Hid (AllAre p M (addTo p y (evalF m term) p) ((cc + if term = vars then 1 else 0) % 2)) := HALL.out.add (HTERM.out term HST.out hsm)
            have HYBN : Hid (Bits (addTo p y (evalF m term) p)) := fun i hi => by
              rw [addTo_len] at hi
              rw [addTo_getD hi, if_pos hi]; omega
            have HBW4 := Lib.hid (bl_trans HB2.out HBp.out)
            have hcr := cell_below HBW4.out HCW.out
            clear hc3
            go_wp2_with fail
            refine (same_any _ _ _ term vars (HTKw.out.below HBW4.out (Nat.le_refl _)).si (HVS.out.below HBW4.out (Nat.le_refl _))).mono ?_
            rintro e w5 ⟨rfl, hb5⟩
            have HB5 := Lib.hid (bl_trans HBp.out hb5)
            have HO5 := Lib.hid (HOp.out.below hb5 (Nat.le_refl _))
            clear hb5 hcr
            by_cases heq : term = vars
            · have hd : decide (term = vars) = true := decide_eq_true heq
              rw [if_pos heq] at HYN
              rw [hd]
              have HEQ := Lib.hid heq; clear heq hd
              go_wp2_with fail
              go_roundw
              case rel => exact ⟨k + 1, 1 - cc, _, by omega, by go_num, rfl, by omega, by omega, hid' (addTo_len _ _ _ _), HYBN, by rw [show 1 - cc = (cc + 1) % 2 by omega]; exact HYN, HO5, HB5⟩
              case measure => simp [intOf]; omega
            · have hd : decide (term = vars) = false := decide_eq_false heq
              rw [if_neg heq] at HYN
              rw [hd]
              have HEQ := Lib.hid heq; clear heq hd
              go_wp2_with fail
              go_roundw
              case rel => exact ⟨k + 1, cc, _, by omega, by go_num, rfl, by omega, by omega, hid' (addTo_len _ _ _ _), HYBN, by have h := HYN.out; rw [show (cc + 0) % 2 = cc by omega] at h; exact h, HO5, HB5⟩
              case measure => simp [intOf]; omega
    · have HYSI : Hid (SI wr (.slice (some ⟨w2.heap.size, 0, none⟩) N N) y) := HO.out.si (by rw [HYL.out]; omega) (fun i => by
        by_cases hi : i < y.length
        · rcases HYB.out i hi with h | h <;> rw [h]
          · exact I64.zero
          · exact I64.one
        · rw [List.getD_eq_getElem?_getD, List.getElem?_eq_none (by omega)]; exact I64.zero)
      have HVO : Hid (votesSpec m vars y = (votesF y M, 0)) := by
        have : votesSpec m vars y = (votesF y M, 0) := by
          unfold votesSpec
          rw [if_pos HE.out, HN.out, HMM.out, if_pos]
          unfold bitsF
          rw [if_pos HYL.out, if_pos HYB.out]
        exact this
      have hvl2 : (vars.length : Int) ≤ m := subset_len HS.out hm0
      have HVL : Hid ((votesF y M).length = 2 ^ (m.toNat - vars.length)) := by
        have : (votesF y M).length = 2 ^ (m.toNat - vars.length) := by rw [← HMM.out]; exact votesF_len hm0 hm6 HS.out (by rw [HYL.out]; exact HN.out.symm)
        exact this
      have HVALL : Hid (∀ i, i < (votesF y M).length → (votesF y M).getD i 0 = cc) := fun i hi => HALL.out.votes HYL.out hi
      go_wp2_with fail
      refine (Votes_any _ _ _ _ vars y (HVS.out.below HBW.out (Nat.le_refl _)) HYSI.out).mono ?_
      rintro e w5 ⟨u5, rfl, hsi, _, hb5⟩
      rw [HVO.out] at hsi
      rw [HVO.out]
      obtain ⟨UA, uc, rfl, hsi⟩ := hsi
      have HU := Lib.hid hsi; clear hsi
      have HB5 := Lib.hid (bl_trans HBW.out hb5); clear hb5
      generalize hV : votesF y M = V at *
      have HV := Lib.hid hV; clear hV
      have hpow : (2 : Int) ^ (m.toNat - vars.length) = (V.length : Int) := by
        rw [HVL.out]; simp
      have hVl : V.length ≤ 64 := by
        rw [HVL.out]
        have h1 : 2 ^ (m.toNat - vars.length) ≤ 2 ^ m.toNat := Nat.pow_le_pow_right (by omega) (by omega)
        have h2 := HN.out
        omega
      go_wp2_with fail
      clear hpow
      go_loop [17] (fun i => ∃ p : Nat, p ≤ V.length ∧ i = .int .i64 p) (fun i => V.length - (intOf i).toNat)
      case atStart => exact ⟨0, Nat.zero_le _, rfl⟩
      case round =>
        obtain ⟨p, hp, rfl⟩ := hrel
        by_cases hpl : p < V.length
        · obtain ⟨bd, x, rfl, hcx, _, HX⟩ := HU.out.elt hpl
          have hxc : x = cc := by rw [← HX.out]; exact HVALL.out p hpl
          have hne : (x != cc) = false := by simp [hxc]
          clear hxc
          go_wp2_with fail
          go_round
          case rel => exact ⟨p + 1, by omega, by go_num⟩
          case measure => simp [intOf]; omega
        · go_wp2_with fail
          go_ret
          exact ⟨rfl, HB5.out⟩

theorem lawAgrees' (w : World) (m : Int) {vv vt : Value} (hv : ∃ xs, SI w vv xs) (ht : ∃ xss, SS w vt xss) :
    Calls Try.prog 5 #[.int .i64 m, vv, vt] w (RetB w true) := by
  obtain ⟨vars, hv⟩ := hv
  obtain ⟨terms, ht⟩ := ht
  exact lawAgrees w m vv vt vars terms hv ht
end Go.Proofs.Ytkamgnihpcafdaa
