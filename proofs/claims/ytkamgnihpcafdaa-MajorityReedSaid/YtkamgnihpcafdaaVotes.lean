/- majority.bits, majority.votes, majority.Votes. -/
import Derived.Test.YtkamgnihpcafdaaEval
import Derived.Test.YtkamgnihpcafdaaVotesP
import Derived.StillTailTactics
namespace Go.Proofs.Ytkamgnihpcafdaa
open Go.RowKit
set_option linter.unusedVariables false
set_option maxRecDepth 100000

/-- all entries are bits -/
def Bits (y : List Int) : Prop := ∀ k, k < y.length → y.getD k 0 = 0 ∨ y.getD k 0 = 1
instance (y : List Int) : Decidable (Bits y) := by unfold Bits; infer_instance
/-- the error of a word of n bits -/
def bitsF (n : Nat) (y : List Int) : Int := if y.length = n then (if Bits y then 0 else 2) else 4

set_option maxHeartbeats 2000000 in
theorem bits_any (w : World) (m : Int) (v : Value) (y : List Int) (h : SI w v y) (hm0 : 0 ≤ m) (hm6 : m ≤ 6) :
    Calls Try.prog 40 #[.int .i64 m, v] w (RetI w (bitsF (2 ^ m.toNat) y)) := by
  obtain ⟨A, c, rfl, h⟩ := h
  have hn := h.len
  have H := Lib.hid h; clear h
  have hmk := two_pow_le hm6
  generalize hN : 2 ^ m.toNat = N at *
  have hp2 : (2 : Int) ^ m.toNat = (N : Int) := by rw [← hN]; simp
  have HN := Lib.hid hN; clear hN
  by_cases hl : y.length = N
  · have hl2 : ((y.length : Int) != (N : Int)) = false := by simp [hl]
    have HL := Lib.hid hl; clear hl
    go_enter Try.func40, Try.ntmps40
    go_wp2
    go_loop [14] (fun i => ∃ k : Nat, k ≤ y.length ∧ i = .int .i64 k ∧ Hid (∀ j, j < k → y.getD j 0 = 0 ∨ y.getD j 0 = 1)) (fun i => y.length - (intOf i).toNat)
    case atStart => exact ⟨0, Nat.zero_le _, rfl, hid' fun j hj => absurd hj (by omega)⟩
    case round =>
      obtain ⟨k, hk, rfl, HG⟩ := hrel
      clear hp2 hl2
      by_cases hlt : k < y.length
      · obtain ⟨ad, x, rfl, hc, _, HX⟩ := H.out.elt hlt
        by_cases h0 : x = 0
        · have t0 : (x != 0) = false := by simp [h0]
          have H0 := Lib.hid h0; clear h0
          go_wp2
          go_round
          case rel => exact ⟨k + 1, by omega, by go_num, hid' fun j hj => by
            by_cases e : j = k
            · subst e; rw [HX.out]; exact .inl H0.out
            · exact HG.out j (by omega)⟩
          case measure => simp [intOf]; omega
        · have t0 : (x != 0) = true := by simp [h0]
          have H0 := Lib.hid h0; clear h0
          by_cases h1 : x = 1
          · have t1 : (x != 1) = false := by simp [h1]
            have H1 := Lib.hid h1; clear h1
            go_wp2
            go_round
            case rel => exact ⟨k + 1, by omega, by go_num, hid' fun j hj => by
              by_cases e : j = k
              · subst e; rw [HX.out]; exact .inr H1.out
              · exact HG.out j (by omega)⟩
            case measure => simp [intOf]; omega
          · have t1 : (x != 1) = true := by simp [h1]
            have HE : Hid (bitsF N y = 2) := by
              have : bitsF N y = 2 := by
                unfold bitsF; rw [if_pos HL.out, if_neg]
                intro hb
                have := hb k hlt
                rw [HX.out] at this
                have h0' := H0.out
                omega
              exact this
            clear h1
            go_wp2
            go_ret
            exact ⟨by rw [HE.out]; rfl, bl_refl _⟩
      · obtain rfl : k = y.length := by omega
        have HE : Hid (bitsF N y = 0) := by
          have : bitsF N y = 0 := by unfold bitsF; rw [if_pos HL.out, if_pos (show Bits y from HG.out)]
          exact this
        go_wp2
        go_ret
        exact ⟨by rw [HE.out]; rfl, bl_refl _⟩
  · have hl2 : ((y.length : Int) != (N : Int)) = true := by simp; omega
    have HE : Hid (bitsF N y = 4) := by
      have : bitsF N y = 4 := by unfold bitsF; rw [if_neg hl]
      exact this
    clear hl
    go_enter Try.func40, Try.ntmps40
    go_wp2
    go_ret
    exact ⟨by rw [HE.out]; rfl, bl_refl _⟩

theorem xor_bits {a b : Int} (ha : a = 0 ∨ a = 1) (hb : b = 0 ∨ b = 1) : bits .xor .i64 a b = (a + b) % 2 := by
  rcases ha with rfl | rfl <;> rcases hb with rfl | rfl <;> decide
theorem or_lt_len {N p s k : Nat} (hN : N = 2 ^ k) (hp : p < N) (hs : s < N) : p ||| s < N := by subst hN; exact Nat.or_lt_two_pow hp hs

set_option maxHeartbeats 4000000 in
theorem votes_any (w : World) (v : Value) (y : List Int) (M : Nat) (e : Nat) (h : SI w v y) (hy : Bits y) (hlen : y.length = 2 ^ e) (he : e ≤ 6) (hM : M < 2 ^ e) :
    Calls Try.prog 41 #[v, .int .i64 M] w (RetL w (votesF y M)) := by
  obtain ⟨A, c, rfl, h⟩ := h
  have hn : y.length ≤ 64 := by
    rw [hlen]
    calc 2 ^ e ≤ 2 ^ 6 := Nat.pow_le_pow_right (by omega) he
      _ = 64 := rfl
  have hM64 : M < 64 := by omega
  have H := Lib.hid h; clear h
  have HM := Lib.hid hM; clear hM
  have HL := Lib.hid hlen; clear hlen
  have HY := Lib.hid hy; clear hy
  go_enter Try.func41, Try.ntmps41
  go_wp2
  go_loopw [5, 11] (fun out i wr => ∃ k : Nat, k ≤ y.length ∧ i = .int .i64 k ∧ Hid (OI w.heap.size wr out (votesTo y M k)) ∧ Hid (Below w.heap.size w wr)) (fun _ i _ => y.length - (intOf i).toNat)
  case atStart => exact ⟨0, Nat.zero_le _, rfl, OI.nil _ _, bl_refl _⟩
  case round =>
    obtain ⟨k, hk, rfl, HO, HB⟩ := hrel
    by_cases hlt : k < y.length
    · have hand : bits .and .i64 (k : Int) (M : Int) = ((k &&& M : Nat) : Int) := i64_and_nat k M (by omega) (by omega)
      by_cases hz : k &&& M = 0
      · rw [hz] at hand
        have HZ := Lib.hid hz; clear hz
        go_wp2
        clear hand
        obtain ⟨wo, rfl⟩ : ∃ wo : World, wo = wr := ⟨_, rfl⟩
        go_loop [7, 8] (fun sum sub => ∃ (sb : Nat) (z : Int), sub = .int .i64 sb ∧ sb ≤ M ∧ sum = .int .i64 z ∧ Hid (sb &&& M = sb) ∧ Hid (z = sumIf y.length (doneB M k sb) y % 2)) (fun _ sub => (intOf sub).toNat)
        case atStart => exact ⟨M, 0, rfl, Nat.le_refl _, rfl, Nat.and_self M, by rw [doneB_start]; rfl⟩
        case round =>
          obtain ⟨sb, z, rfl, hsb, rfl, HS, HZZ⟩ := hrel
          have hor : bits .or .i64 (k : Int) (sb : Int) = ((k ||| sb : Nat) : Int) := i64_or_nat k sb (by omega) (by omega)
          have hin : k ||| sb < y.length := or_lt_len HL.out hlt (by rw [HL.out]; exact Nat.lt_of_le_of_lt hsb HM.out)
          obtain ⟨ad, x, rfl, hc, _, HX⟩ := (H.out.below HB.out (Nat.le_refl _)).elt hin
          have hxb : x = 0 ∨ x = 1 := by rw [← HX.out]; exact HY.out _ hin
          have hzb : z = 0 ∨ z = 1 := by have := HZZ.out; omega
          have hxor : bits .xor .i64 z x = (z + x) % 2 := xor_bits hzb hxb
          have HXB := Lib.hid hxb; clear hxb
          have HZB := Lib.hid hzb; clear hzb
          by_cases hs0 : 0 < sb
          · have hsub : bits .and .i64 ((sb : Int) - 1) (M : Int) = (((sb - 1) &&& M : Nat) : Int) := by
              rw [show ((sb : Int) - 1) = ((sb - 1 : Nat) : Int) by omega]; exact i64_and_nat _ _ (by omega) (by omega)
            have hlt' : (sb - 1) &&& M < sb := Nat.lt_of_le_of_lt Nat.and_le_left (by omega)
            have hle' : (sb - 1) &&& M ≤ M := Nat.and_le_right
            have hne : ((sb : Int) == 0) = false := by simp; omega
            have HST := Lib.hid (doneB_step y hM64 HZ.out HS.out hs0 hin)
            go_wp2
            go_round
            case rel => exact ⟨(sb - 1) &&& M, (z + x) % 2, rfl, hle', rfl, and_and_self' _ _, by
              have h1 := HST.out
              have h2 := HZZ.out
              rw [HX.out] at h1
              show (z + x) % 2 = _
              rw [h1, h2]; omega⟩
            case measure => simp [intOf]; omega
          · have hs1 : sb = 0 := by omega
            have hne : ((sb : Int) == 0) = true := by simp [hs1]
            have HEND : Hid (sumIf y.length (fun s => s ^^^ (s &&& M) == k) y = sumIf y.length (doneB M k sb) y + y.getD (k ||| sb) 0) := by
              subst hs1; exact doneB_end y HZ.out hlt
            clear hs1
            have hoi := HO.out.alloc (.cells #[.int .i64 ((z + x) % 2)] 3)
            have HOI := Lib.hid hoi; clear hoi
            have hsz := HB.out.size
            go_wp2_with (first | (at_builtin; refine wpList_pushI rfl _ _ rfl w.heap.size _ _ rfl HOI.out wo.heap.size 1 ((z + x) % 2) rfl (by simp [go_sem]) (by have := votesTo_len y M k; omega) (by simp; omega) ?_; intro v1 w1 ho hg))
            have HO1 := Lib.hid ho; clear ho
            have HB1 := Lib.hid (HOI.out.bgrown (HB.out.alloc hsz _) (by simp; omega) hg)
            clear hg
            go_roundw
            case rel => exact ⟨k + 1, by omega, by go_num, by
              have h1 := HEND.out
              have h2 := HZZ.out
              rw [HX.out] at h1
              rw [votesTo_yes y M k HZ.out, h1, show (sumIf y.length (doneB M k sb) y + x) % 2 = (z + x) % 2 by omega]
              exact HO1, HB1⟩
            case measure => simp [intOf]; omega
      · have HZ := Lib.hid hz
        have hne : (((k &&& M : Nat) : Int) != 0) = true := by simp; omega
        clear hz
        go_wp2
        go_roundw
        case rel => exact ⟨k + 1, by omega, by go_num, by rw [votesTo_no y M k HZ.out]; exact HO, HB⟩
        case measure => simp [intOf]; omega
    · obtain rfl : k = y.length := by omega
      have hsi := HO.out.si (by have := votesTo_len y M y.length; omega) (fun i => by rcases votesTo_bits y M y.length i with h | h <;> rw [h] <;> exact I64.of_small (by omega) (by omega))
      have HSI := Lib.hid hsi; clear hsi
      go_wp2
      go_ret
      exact ⟨_, rfl, HSI.out, HO.out.new (Nat.le_refl _), HB.out⟩

def votesSpec (m : Int) (vars y : List Int) : List Int × Int :=
  if (evalSpec m vars).2 = 0 then (if bitsF (2 ^ m.toNat) y = 0 then (votesF y (maskN vars), 0) else ([], bitsF (2 ^ m.toNat) y)) else ([], (evalSpec m vars).2)
theorem evalSpec_zero {m : Int} {vars : List Int} (h : (evalSpec m vars).2 = 0) : 0 ≤ m ∧ m ≤ 6 ∧ SubsetP m vars := by
  by_cases h0 : m < 0
  · rw [evalSpec_lo vars h0] at h; simp at h
  · by_cases h6 : 6 < m
    · rw [evalSpec_hi vars h6] at h; simp at h
    · by_cases hs : SubsetP m vars
      · exact ⟨by omega, by omega, hs⟩
      · rw [evalSpec_bad (by omega) (by omega) hs] at h; simp at h
theorem bitsF_zero {n : Nat} {y : List Int} (h : bitsF n y = 0) : y.length = n ∧ Bits y := by
  unfold bitsF at h
  by_cases hl : y.length = n
  · rw [if_pos hl] at h
    by_cases hb : Bits y
    · exact ⟨hl, hb⟩
    · rw [if_neg hb] at h; simp at h
  · rw [if_neg hl] at h; simp at h
theorem maskN_lt_pow {m : Int} {vars : List Int} (hs : SubsetP m vars) : maskN vars < 2 ^ m.toNat := by
  have key : ∀ (l : List Int) (a : Nat), a < 2 ^ m.toNat → (∀ x ∈ l, 0 ≤ x ∧ x < m) → l.foldl (fun m v => m ||| 2 ^ v.toNat) a < 2 ^ m.toNat := by
    intro l
    induction l with
    | nil => intro a ha _; simpa using ha
    | cons b l ih =>
      intro a ha hl
      simp only [List.foldl_cons]
      have hb := hl b (by simp)
      refine ih _ (Nat.or_lt_two_pow ha (Nat.pow_lt_pow_right (by omega) (by omega))) (fun x hx => hl x (by simp [hx]))
  refine key vars 0 (Nat.two_pow_pos _) (fun x hx => ?_)
  obtain ⟨i, hi, he⟩ := List.mem_iff_getElem.1 hx
  have := (hs i hi).1
  simp [List.getD, hi] at this
  omega

set_option maxHeartbeats 2000000 in
theorem Votes_any (w : World) (m : Int) (vv vy : Value) (vars y : List Int) (hv : SI w vv vars) (hy : SI w vy y) :
    Calls Try.prog 17 #[.int .i64 m, vv, vy] w (RetLE w (votesSpec m vars y).1 (votesSpec m vars y).2) := by
  have HV := Lib.hid hv; clear hv
  have HY := Lib.hid hy; clear hy
  by_cases he : (evalSpec m vars).2 = 0
  · obtain ⟨hm0, hm6, hs⟩ := evalSpec_zero he
    have HE := Lib.hid he; clear he
    have HS := Lib.hid hs; clear hs
    by_cases hb : bitsF (2 ^ m.toNat) y = 0
    · obtain ⟨hl, hbits⟩ := bitsF_zero hb
      have HP : Hid (votesSpec m vars y = (votesF y (maskN vars), 0)) := by
        have : votesSpec m vars y = (votesF y (maskN vars), 0) := by unfold votesSpec; rw [if_pos HE.out, if_pos hb]
        exact this
      have HB := Lib.hid hb; clear hb
      have HL := Lib.hid hl; clear hl
      have HBI := Lib.hid hbits; clear hbits
      go_enter Try.func17, Try.ntmps17
      go_wp2_with fail
      refine (eval_any _ _ _ vars HV.out).mono ?_
      rintro e w1 ⟨u, rfl, _, _, hb1⟩
      rw [HE.out]
      have HB1 := Lib.hid hb1; clear hb1
      go_wp2_with fail
      refine (bits_any _ _ _ y (HY.out.below HB1.out (Nat.le_refl _)) hm0 hm6).mono ?_
      rintro e w2 ⟨rfl, hb2⟩
      rw [HB.out]
      have HB2 := Lib.hid (bl_trans HB1.out hb2); clear hb2
      go_wp2_with fail
      refine (mask_any _ _ vars (HV.out.below HB2.out (Nat.le_refl _)) (fun k hk => by have := (HS.out k hk).1; omega)).mono ?_
      rintro e w3 ⟨rfl, rfl⟩
      go_wp2_with fail
      refine (votes_any _ _ y _ m.toNat (HY.out.below HB2.out (Nat.le_refl _)) HBI.out HL.out (by omega) (maskN_lt_pow HS.out)).mono ?_
      rintro e w4 ⟨v, rfl, hsi, hnew, hb4⟩
      have HSI := Lib.hid hsi; clear hsi
      have HNW := Lib.hid (hnew.mono HB2.out); clear hnew
      have HB4 := Lib.hid (bl_trans HB2.out hb4); clear hb4
      go_wp2
      go_ret2
      rw [HP.out]
      exact ⟨_, rfl, HSI.out, HNW.out, HB4.out⟩
    · have HP : Hid (votesSpec m vars y = ([], bitsF (2 ^ m.toNat) y)) := by
        have : votesSpec m vars y = ([], bitsF (2 ^ m.toNat) y) := by unfold votesSpec; rw [if_pos HE.out, if_neg hb]
        exact this
      generalize hbb : bitsF (2 ^ m.toNat) y = b at *
      have HBB := Lib.hid hbb; clear hbb
      have hne : (b != 0) = true := by simp [hb]
      clear hb
      go_enter Try.func17, Try.ntmps17
      go_wp2_with fail
      refine (eval_any _ _ _ vars HV.out).mono ?_
      rintro e w1 ⟨u, rfl, _, _, hb1⟩
      rw [HE.out]
      have HB1 := Lib.hid hb1; clear hb1
      go_wp2_with fail
      refine (bits_any _ _ _ y (HY.out.below HB1.out (Nat.le_refl _)) hm0 hm6).mono ?_
      rintro e w2 ⟨rfl, hb2⟩
      rw [HBB.out]
      have HB2 := Lib.hid (bl_trans HB1.out hb2); clear hb2
      go_wp2
      go_ret2
      rw [HP.out]
      exact RetLE.nil w b HB2.out
  · have HP : Hid (votesSpec m vars y = ([], (evalSpec m vars).2)) := by
      have : votesSpec m vars y = ([], (evalSpec m vars).2) := by unfold votesSpec; rw [if_neg he]
      exact this
    generalize hbb : (evalSpec m vars).2 = b at *
    have HBB := Lib.hid hbb; clear hbb
    have hne : (b != 0) = true := by simp [he]
    clear he
    go_enter Try.func17, Try.ntmps17
    go_wp2_with fail
    refine (eval_any _ _ _ vars HV.out).mono ?_
    rintro e w1 ⟨u, rfl, _, _, hb1⟩
    rw [HBB.out]
    have HB1 := Lib.hid hb1; clear hb1
    go_wp2
    go_ret2
    rw [HP.out]
    exact RetLE.nil w b HB1.out
end Go.Proofs.Ytkamgnihpcafdaa
