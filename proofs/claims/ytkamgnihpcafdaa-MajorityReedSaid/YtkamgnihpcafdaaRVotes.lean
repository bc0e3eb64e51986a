/- ref43.Votes: the reference's votes. -/
import Derived.Test.YtkamgnihpcafdaaREval
import Derived.Test.YtkamgnihpcafdaaVotes
import Derived.Test.YtkamgnihpcafdaaEntries
namespace Go.Proofs.Ytkamgnihpcafdaa
open Go.RowKit
set_option linter.unusedVariables false
set_option maxRecDepth 100000

theorem listF_bits (n : Nat) (y : List Int) : listF 2 y (n : Int) = bitsF n y := by
  unfold listF bitsF entriesF
  have e : (∀ k, k < y.length → 0 ≤ y.getD k 0 ∧ y.getD k 0 < 2) ↔ Bits y := by
    constructor
    · intro h k hk; have := h k hk; omega
    · intro h k hk; have := h k hk; omega
  by_cases hl : y.length = n
  · rw [if_pos (by omega), if_pos hl]
    by_cases hb : Bits y
    · rw [if_pos (e.2 hb), if_pos hb]
    · rw [if_neg (fun h => hb (e.1 h)), if_neg hb]
  · rw [if_neg (by omega), if_neg hl]

set_option maxHeartbeats 4000000 in
theorem rVotes_ok (w : World) (m : Int) (vv vy : Value) (vars y : List Int) (hv : SI w vv vars) (hy : SI w vy y) (he : (evalSpec m vars).2 = 0) (hb : bitsF (2 ^ m.toNat) y = 0) :
    Calls Try.prog 18 #[.int .i64 m, vv, vy] w (RetLE w (votesSpec m vars y).1 (votesSpec m vars y).2) := by
  have HVS := Lib.hid hv
  have HYS := Lib.hid hy
  obtain ⟨hm0, hm6, hs⟩ := evalSpec_zero he
  obtain ⟨hl, hbits⟩ := bitsF_zero hb
  have HP : Hid (votesSpec m vars y = (votesF y (maskN vars), 0)) := by
    have : votesSpec m vars y = (votesF y (maskN vars), 0) := by unfold votesSpec; rw [if_pos he, if_pos hb]
    exact this
  have HLB := Lib.hid (listF_bits (2 ^ m.toNat) y)
  have HE := Lib.hid he; clear he
  have HB := Lib.hid hb; clear hb
  have HS := Lib.hid hs; clear hs
  have HM := Lib.hid (maskN_lt_pow HS.out)
  obtain ⟨A, c, rfl, hv⟩ := hv
  obtain ⟨B, d, rfl, hy⟩ := hy
  have hnv := hv.len
  have HV := Lib.hid hv; clear hv
  have HY := Lib.hid hy; clear hy
  have hmk := two_pow_le hm6
  generalize hN : 2 ^ m.toNat = N at *
  have hp2 : (2 : Int) ^ m.toNat = (N : Int) := by rw [← hN]; simp
  have HN := Lib.hid hN; clear hN
  have hny : y.length ≤ 64 := by omega
  have HL := Lib.hid hl; clear hl
  have HBI := Lib.hid hbits; clear hbits
  go_enter Try.func18, Try.ntmps18
  go_wp2_with fail
  refine (reval_any _ _ _ vars HVS.out).mono ?_
  rintro e w1 ⟨u, rfl, _, _, hb1⟩
  rw [HE.out]
  have HB1 := Lib.hid hb1; clear hb1
  go_wp2_with fail
  refine (rbits_any _ _ y _ (HYS.out.below HB1.out (Nat.le_refl _))).mono ?_
  rintro e w2 ⟨rfl, hb2⟩
  rw [HLB.out, HB.out]
  have HB2 := Lib.hid (bl_trans HB1.out hb2); clear hb2
  clear hp2
  go_wp2_with fail
  go_loop [10, 11] (fun mk i => ∃ k : Nat, k ≤ vars.length ∧ i = .int .i64 k ∧ mk = .int .i64 (maskN (vars.take k))) (fun _ i => vars.length - (intOf i).toNat)
  case atStart => exact ⟨0, Nat.zero_le _, rfl, rfl⟩
  case round =>
    obtain ⟨k, hk, rfl, rfl⟩ := hrel
    by_cases hlt : k < vars.length
    · obtain ⟨ad, x, rfl, hc, _, HX⟩ := (HV.out.below HB2.out (Nat.le_refl _)).elt hlt
      have hxs := (HS.out k hlt).1
      rw [HX.out] at hxs
      obtain ⟨hx0, hx1⟩ := hxs
      have hadd := maskN_add HS.out hlt
      rw [HX.out] at hadd
      have h64 : maskN (vars.take (k + 1)) < 64 := maskN_lt _ (all_take fun i hi hi' => by have := (HS.out i hi').1; omega)
      have hpz : (2 : Int) ^ x.toNat = ((2 ^ x.toNat : Nat) : Int) := by simp
      have hpp := pow_lt_64 (x := x) (by omega)
      generalize hq : 2 ^ x.toNat = q at *
      generalize hmk0 : maskN (vars.take k) = mk at *
      generalize hmk1 : maskN (vars.take (k + 1)) = mk1 at *
      have HA := Lib.hid hadd
      have hlt1 : mk + q < 64 := by omega
      clear hadd h64
      clear hq
      go_wp2_with fail
      go_round
      case rel => exact ⟨k + 1, by omega, by go_num, by rw [hmk1, HA.out]; go_num⟩
      case measure => simp [intOf]; omega
    · obtain rfl : k = vars.length := by omega
      rw [List.take_length]
      have hM64 : maskN vars < 64 := by have := HM.out; omega
      generalize hM : maskN vars = M at *
      have HMM := Lib.hid hM; clear hM
      go_wp2_with fail
      have HB3 := Lib.hid (bl_trans HB2.out (bl_alloc w2 (.cells #[] 3)))
      have HO3 := Lib.hid (OI.empty (B := w.heap.size) w2 HB2.out.size)
      go_loopw [12, 13] (fun out i wr => ∃ k : Nat, k ≤ y.length ∧ i = .int .i64 k ∧ Hid (OI w.heap.size wr out (votesTo y M k)) ∧ Hid (Below w.heap.size w wr)) (fun _ i _ => y.length - (intOf i).toNat)
      case atStart => exact ⟨0, Nat.zero_le _, rfl, HO3, HB3⟩
      case round =>
        clear HB3 HO3
        obtain ⟨p, hp, rfl, HO, HBp⟩ := hrel
        by_cases hpl : p < y.length
        · have hand : bits .and .i64 (p : Int) (M : Int) = ((p &&& M : Nat) : Int) := i64_and_nat p M (by omega) (by omega)
          by_cases hz : p &&& M = 0
          · rw [hz] at hand
            have HZ := Lib.hid hz; clear hz
            go_wp2_with fail
            clear hand
            obtain ⟨wo, rfl⟩ : ∃ wo : World, wo = wr := ⟨_, rfl⟩
            go_loop [14, 15] (fun sum i => ∃ (j : Nat) (z : Int), j ≤ y.length ∧ i = .int .i64 j ∧ sum = .int .i64 z ∧ 0 ≤ z ∧ z ≤ j ∧ Hid (z = sumIf j (fun s => s ^^^ (s &&& M) == p) y)) (fun _ i => y.length - (intOf i).toNat)
            case atStart => exact ⟨0, 0, Nat.zero_le _, rfl, rfl, by omega, by omega, rfl⟩
            case round =>
              obtain ⟨j, z, hj, rfl, rfl, hz0, hz1, HZZ⟩ := hrel
              by_cases hjl : j < y.length
              · obtain ⟨bd, x, rfl, hc, _, HX⟩ := (HY.out.below HBp.out (Nat.le_refl _)).elt hjl
                have hxb : x = 0 ∨ x = 1 := by rw [← HX.out]; exact HBI.out _ hjl
                have hx0 : 0 ≤ x := by omega
                have hx1 : x ≤ 1 := by omega
                clear hxb
                have handn : bits .andNot .i64 (j : Int) (M : Int) = ((j ^^^ (j &&& M) : Nat) : Int) := i64_andNot_nat j M (by omega) (by omega)
                by_cases ht : j ^^^ (j &&& M) = p
                · rw [ht] at handn
                  have HT := Lib.hid ht; clear ht
                  go_wp2_with fail
                  go_round
                  case rel => exact ⟨j + 1, z + x, by omega, by go_num, rfl, by omega, by omega, by
                    have h1 := HZZ.out
                    show z + x = _
                    rw [sumIf, HT.out, HX.out, h1]; simp⟩
                  case measure => simp [intOf]; omega
                · have hne : (((j ^^^ (j &&& M) : Nat) : Int) == (p : Int)) = false := by simp; omega
                  have HT := Lib.hid ht; clear ht
                  go_wp2_with fail
                  go_round
                  case rel => exact ⟨j + 1, z, by omega, by go_num, rfl, by omega, by omega, by
                    have h1 := HZZ.out
                    have h2 : (j ^^^ (j &&& M) == p) = false := beq_eq_false_iff_ne.2 HT.out
                    show z = _
                    rw [sumIf, h2, h1]; simp⟩
                  case measure => simp [intOf]; omega
              · obtain rfl : j = y.length := by omega
                have HOI := Lib.hid (HO.out.alloc (.cells #[.int .i64 (z % 2)] 3))
                have hsz := HBp.out.size
                go_wp2_with (first | (at_builtin; refine wpList_pushI rfl _ _ rfl w.heap.size _ _ rfl HOI.out wo.heap.size 1 (z % 2) rfl (by simp [go_sem]) (by have := votesTo_len y M p; omega) (by simp; omega) ?_; intro v1 w1 ho hg))
                have HO1 := Lib.hid ho; clear ho
                have HB1' := Lib.hid (HOI.out.bgrown (HBp.out.alloc hsz _) (by simp; omega) hg)
                clear hg
                go_roundw
                case rel => exact ⟨p + 1, by omega, by go_num, by
                  rw [votesTo_yes y M p HZ.out, ← HZZ.out]
                  exact HO1, HB1'⟩
                case measure => simp [intOf]; omega
          · have HZ := Lib.hid hz
            have hne : (((p &&& M : Nat) : Int) != 0) = true := by simp; omega
            clear hz
            go_wp2_with fail
            go_roundw
            case rel => exact ⟨p + 1, by omega, by go_num, by rw [votesTo_no y M p HZ.out]; exact HO, HBp⟩
            case measure => simp [intOf]; omega
        · obtain rfl : p = y.length := by omega
          have hsi := HO.out.si (by have := votesTo_len y M y.length; omega) (fun i => by rcases votesTo_bits y M y.length i with h | h <;> rw [h] <;> exact I64.of_small (by omega) (by omega))
          have HSI := Lib.hid hsi; clear hsi
          go_wp2_with fail
          go_ret2
          rw [HP.out]
          exact ⟨_, rfl, HSI.out, HO.out.new (Nat.le_refl _), HBp.out⟩

set_option maxHeartbeats 2000000 in
theorem rVotes_any (w : World) (m : Int) (vv vy : Value) (vars y : List Int) (hv : SI w vv vars) (hy : SI w vy y) :
    Calls Try.prog 18 #[.int .i64 m, vv, vy] w (RetLE w (votesSpec m vars y).1 (votesSpec m vars y).2) := by
  by_cases he : (evalSpec m vars).2 = 0
  · by_cases hb : bitsF (2 ^ m.toNat) y = 0
    · exact rVotes_ok w m vv vy vars y hv hy he hb
    · have HV := Lib.hid hv; clear hv
      have HY := Lib.hid hy; clear hy
      obtain ⟨hm0, hm6, hs⟩ := evalSpec_zero he
      clear hs
      have HP : Hid (votesSpec m vars y = ([], bitsF (2 ^ m.toNat) y)) := by
        have : votesSpec m vars y = ([], bitsF (2 ^ m.toNat) y) := by unfold votesSpec; rw [if_pos he, if_neg hb]
        exact this
      have HLB := Lib.hid (listF_bits (2 ^ m.toNat) y)
      generalize hbb : bitsF (2 ^ m.toNat) y = b at *
      have HBB := Lib.hid hbb; clear hbb
      have hmk := two_pow_le hm6
      generalize hN : 2 ^ m.toNat = N at *
      have hp2 : (2 : Int) ^ m.toNat = (N : Int) := by rw [← hN]; simp
      have HN := Lib.hid hN; clear hN
      have hne : (b != 0) = true := by simp [hb]
      have HE := Lib.hid he; clear he
      clear hb
      go_enter Try.func18, Try.ntmps18
      go_wp2_with fail
      refine (reval_any _ _ _ vars HV.out).mono ?_
      rintro e w1 ⟨u, rfl, _, _, hb1⟩
      rw [HE.out]
      have HB1 := Lib.hid hb1; clear hb1
      go_wp2_with fail
      refine (rbits_any _ _ y _ (HY.out.below HB1.out (Nat.le_refl _))).mono ?_
      rintro e w2 ⟨rfl, hb2⟩
      rw [HLB.out]
      have HB2 := Lib.hid (bl_trans HB1.out hb2); clear hb2
      go_wp2_with fail
      go_ret2
      rw [HP.out]
      exact RetLE.nil w b HB2.out
  · have HV := Lib.hid hv; clear hv
    have HP : Hid (votesSpec m vars y = ([], (evalSpec m vars).2)) := by
      have : votesSpec m vars y = ([], (evalSpec m vars).2) := by unfold votesSpec; rw [if_neg he]
      exact this
    generalize hbb : (evalSpec m vars).2 = b at *
    have HBB := Lib.hid hbb; clear hbb
    have hne : (b != 0) = true := by simp [he]
    have hne' : (b == 0) = false := by simp [he]
    clear he
    go_enter Try.func18, Try.ntmps18
    go_wp2_with fail
    refine (reval_any _ _ _ vars HV.out).mono ?_
    rintro e w1 ⟨u, rfl, _, _, hb1⟩
    rw [HBB.out]
    have HB1 := Lib.hid hb1; clear hb1
    go_wp2_with fail
    go_ret2
    rw [HP.out]
    exact RetLE.nil w b HB1.out

theorem votes_known : votesSpec 1 [] [1, 0] = ([1, 0], 0) := by decide
set_option maxHeartbeats 2000000 in
theorem alive43_any (w : World) : Calls Try.prog 19 #[] w (RetB w true) := by
  have hsi := SI.lit w [1, 0] (by simp) (fun k => by match k with
    | 0 => exact I64.of_small (by simp) (by simp)
    | 1 => exact I64.of_small (by simp) (by simp)
    | k + 2 => exact I64.of_small (by simp) (by simp))
  have HS : Hid (SI (w.alloc (.cells #[.int .i64 1, .int .i64 0] 3)) (.slice (some ⟨w.heap.size, 0, none⟩) 2 2) [1, 0]) := hsi
  clear hsi
  go_enter Try.func19, Try.ntmps19
  go_wp2_with fail
  refine (Votes_any _ _ _ _ [] [1, 0] (SI.none_ _) HS.out).mono ?_
  rintro e w1 ⟨u, rfl, hs, _, hb1⟩
  rw [votes_known] at hs
  obtain ⟨A, c, rfl, hs⟩ := hs
  obtain ⟨ad, x, rfl, hc0, _, HX⟩ := hs.elt0 (by simp)
  obtain ⟨ad', x', e', hc1, _, HX'⟩ := hs.eltL 0 (by simp)
  obtain rfl := Option.some.inj e'
  obtain rfl : 1 = x := HX.out
  obtain rfl : 0 = x' := HX'.out
  simp only [Nat.zero_add] at hc1
  have HB1 := Lib.hid hb1; clear hb1 e' hs
  rw [votes_known]
  go_wp2_with fail
  go_ret
  exact ⟨rfl, bl_trans (bl_alloc _ _) HB1.out⟩
end Go.Proofs.Ytkamgnihpcafdaa
