/- Texts of a claim, merged: words, plain facts and walks that the last of its texts uses. -/
import Derived.Test.YtdbpbmehcifjpaaQ1
import Derived.Test.YtdbpbmehcifjpaaQ9
import Derived.Test.YtdbpbmehcifjpaaQ10
import Derived.Test.YtdbpbmehcifjpaaQ11
import Derived.Test.YtdbpbmehcifjpaaQ12
import Derived.Test.YtdbpbmehcifjpaaQ13
import Derived.StillTailTactics
set_option linter.unusedSimpArgs false
set_option linter.unusedVariables false

/- Plain model of Reed's decoder: degree by degree, the sums that win their votes. No program in sight. -/
namespace Go.Proofs.Ytdbpbmehcifjpaa

/-- the monomials of degree k in m variables -/
def segF (m k : Nat) : List (List Int) := addG k m m 0 []
def SubsetB (n : Int) (s : List Int) : Bool := (List.range s.length).all fun i => decide (0 ≤ s.getD i 0) && decide (s.getD i 0 < n) && (i == 0 || decide (s.getD (i - 1) 0 < s.getD i 0))
theorem subset_of {n : Int} {s : List Int} (h : SubsetB n s = true) : SubsetP n s := fun i hi => by
  have h1 := List.all_eq_true.1 h i (List.mem_range.2 hi)
  simp only [Bool.and_eq_true, Bool.or_eq_true, decide_eq_true_eq, beq_iff_eq] at h1
  exact ⟨h1.1, fun h0 => by rcases h1.2 with h2 | h2; omega; exact h2⟩
theorem seg_all : ∀ m : Fin 7, ∀ k : Fin 7, k.val ≤ m.val → (0 < (segF m.val k.val).length ∧ (segF m.val k.val).length ≤ 20) ∧ ((segF m.val k.val).all fun x => decide (x.length = k.val) && SubsetB (m.val : Int) x) = true := by decide +kernel
theorem seg_pos {m k : Nat} (hm : m ≤ 6) (hk : k ≤ m) : 0 < (segF m k).length ∧ (segF m k).length ≤ 20 := (seg_all ⟨m, by omega⟩ ⟨k, by omega⟩ hk).1
theorem seg_mem {m k : Nat} (hm : m ≤ 6) (hk : k ≤ m) {x : List Int} (hx : x ∈ segF m k) : x.length = k ∧ SubsetP (m : Int) x := by
  have h := List.all_eq_true.1 (seg_all ⟨m, by omega⟩ ⟨k, by omega⟩ hk).2 x hx
  simp only [Bool.and_eq_true, decide_eq_true_eq] at h
  exact ⟨h.1, subset_of h.2⟩
theorem getD_mem_nil {l : List (List Int)} {k : Nat} (h : k < l.length) : l.getD k [] ∈ l := by
  rw [List.getD_eq_getElem?_getD, List.getElem?_eq_getElem h]; simp
theorem seg_get {m k j : Nat} (hm : m ≤ 6) (hk : k ≤ m) (hj : j < (segF m k).length) : ((segF m k).getD j []).length = k ∧ SubsetP (m : Int) ((segF m k).getD j []) :=
  seg_mem hm hk (getD_mem_nil hj)
def mbase (m k : Nat) : Nat := (monoTo m k).length
theorem mbase_succ (m k : Nat) : mbase m (k + 1) = mbase m k + (segF m k).length := by unfold mbase; rw [monoTo_succ, List.length_append]; rfl
theorem mbase_zero (m : Nat) : mbase m 0 = 0 := rfl
theorem mono_get (m : Nat) {k t : Nat} (ht : t < (segF m k).length) : ∀ K, k < K → mbase m k + t < mbase m K ∧ (monoTo m K).getD (mbase m k + t) [] = (segF m k).getD t []
  | 0, h => absurd h (by omega)
  | K + 1, h => by
    rw [mbase_succ, monoTo_succ]
    by_cases e : k = K
    · subst e
      refine ⟨by omega, ?_⟩
      rw [List.getD_eq_getElem?_getD, List.getElem?_append_right (by unfold mbase; omega), List.getD_eq_getElem?_getD]
      unfold mbase segF
      rw [Nat.add_sub_cancel_left]
    · obtain ⟨h1, h2⟩ := mono_get m ht K (by omega)
      refine ⟨by omega, ?_⟩
      rw [List.getD_eq_getElem?_getD, List.getElem?_append_left (by unfold mbase at h1; exact h1), ← List.getD_eq_getElem?_getD]
      exact h2
/-- the last monomial ahead of degree k -/
theorem mono_last {m k K : Nat} (hm : m ≤ 6) (hk : 0 < k) (hkm : k ≤ m + 1) (hK : k ≤ K) : 0 < mbase m k ∧ mbase m k - 1 < mbase m K ∧ (monoTo m K).getD (mbase m k - 1) [] = (segF m (k - 1)).getD ((segF m (k - 1)).length - 1) [] ∧ ((monoTo m K).getD (mbase m k - 1) []).length = k - 1 := by
  obtain ⟨k', rfl⟩ : ∃ k', k = k' + 1 := ⟨k - 1, by omega⟩
  have hp := seg_pos hm (show k' ≤ m by omega)
  have hs := mbase_succ m k'
  obtain ⟨h1, h2⟩ := mono_get m (k := k') (t := (segF m k').length - 1) (by omega) K (by omega)
  have e : mbase m (k' + 1) - 1 = mbase m k' + ((segF m k').length - 1) := by omega
  rw [e]
  refine ⟨by omega, h1, h2, ?_⟩
  rw [h2]
  exact (seg_get hm (by omega) (by omega)).1

/-- the sum of the votes -/
def onesF (l : List Int) : Int := l.sum
theorem onesF_take {l : List Int} {k : Nat} (h : k < l.length) : onesF (l.take (k + 1)) = onesF (l.take k) + l.getD k 0 := by
  unfold onesF
  rw [take_snoc l k h, List.sum_append]; simp
theorem onesF_bd {l : List Int} (hb : Bit l) : ∀ k, 0 ≤ onesF (l.take k) ∧ onesF (l.take k) ≤ k
  | 0 => by simp [onesF]
  | k + 1 => by
    have ih := onesF_bd hb k
    by_cases h : k < l.length
    · rw [onesF_take h]
      have := hb k
      omega
    · rw [List.take_of_length_le (by omega)]
      rw [List.take_of_length_le (by omega)] at ih
      omega
/-- the votes for a monomial have a majority of ones -/
def majorB (left mono : List Int) : Bool := decide (((votesF left (maskN mono)).length : Int) < 2 * onesF (votesF left (maskN mono)))
def selF (m : Nat) (left mono acc : List Int) : List Int := if majorB left mono then addL (2 ^ m) acc (evalF m mono) else acc
/-- what the segment adds -/
def sumF (m : Nat) (left : List Int) (seg : List (List Int)) : List Int := seg.foldr (selF m left) (zeroL (2 ^ m))
def updF (m k : Nat) (y w : List Int) : List Int := addL (2 ^ m) w (sumF m (addL (2 ^ m) y w) (segF m k))
/-- the word behind the degrees from r down to r + 1 - d -/
def wordF (m r : Nat) (y : List Int) : Nat → List Int
  | 0 => zeroL (2 ^ m)
  | d + 1 => updF m (r - d) y (wordF m r y d)
theorem selF_len {m : Nat} {left mono acc : List Int} (h : acc.length = 2 ^ m) : (selF m left mono acc).length = 2 ^ m := by
  unfold selF; split
  · exact addL_len _ _ _
  · exact h
theorem selF_bit {m : Nat} {left mono acc : List Int} (h : Bit acc) : Bit (selF m left mono acc) := by
  unfold selF; split
  · exact addL_bit _ _ _
  · exact h
theorem sumF_len (m : Nat) (left : List Int) : ∀ seg, (sumF m left seg).length = 2 ^ m
  | [] => zeroL_len _
  | a :: l => selF_len (sumF_len m left l)
theorem sumF_bit (m : Nat) (left : List Int) : ∀ seg, Bit (sumF m left seg)
  | [] => zeroL_bit _
  | a :: l => selF_bit (sumF_bit m left l)
theorem wordF_len (m r : Nat) (y : List Int) : ∀ d, (wordF m r y d).length = 2 ^ m
  | 0 => zeroL_len _
  | d + 1 => addL_len _ _ _
theorem wordF_bit (m r : Nat) (y : List Int) : ∀ d, Bit (wordF m r y d)
  | 0 => zeroL_bit _
  | d + 1 => addL_bit _ _ _
theorem sumF_drop {m : Nat} {left : List Int} {seg : List (List Int)} {j : Nat} (h : j < seg.length) : sumF m left (seg.drop j) = selF m left (seg.getD j []) (sumF m left (seg.drop (j + 1))) := by
  unfold sumF
  rw [List.drop_eq_getElem_cons h, List.foldr_cons]
  congr 1
  simp [List.getD, h]
theorem sumF_end (m : Nat) (left : List Int) (seg : List (List Int)) : sumF m left (seg.drop seg.length) = zeroL (2 ^ m) := by simp [sumF]
/-- one after the other onto the word itself -/
theorem foldl_sel (m : Nat) (left : List Int) : ∀ (seg : List (List Int)) (w : List Int), w.length = 2 ^ m → Bit w → seg.foldl (fun acc mono => selF m left mono acc) w = addL (2 ^ m) w (sumF m left seg)
  | [], w, hl, hb => (addL_zero hl hb).symm
  | a :: l, w, hl, hb => by
    rw [List.foldl_cons, foldl_sel m left l _ (selF_len hl) (selF_bit hb)]
    show _ = addL (2 ^ m) w (selF m left a (sumF m left l))
    unfold selF
    split
    · rw [addL_assoc, addL_comm _ (evalF m a)]
    · rfl
/-- what is left of the received word -/
theorem rest_step (m k : Nat) (y w : List Int) : addL (2 ^ m) y (updF m k y w) = addL (2 ^ m) (addL (2 ^ m) y w) (sumF m (addL (2 ^ m) y w) (segF m k)) := by
  unfold updF; rw [addL_assoc]
theorem word_next {m r k : Nat} (y : List Int) (hk : k ≤ r) : wordF m r y (r + 1 - k) = addL (2 ^ m) (wordF m r y (r + 1 - (k + 1))) (sumF m (addL (2 ^ m) y (wordF m r y (r + 1 - (k + 1)))) (segF m k)) := by
  rw [show r + 1 - k = (r + 1 - (k + 1)) + 1 by omega, wordF, show r - (r + 1 - (k + 1)) = k by omega]; rfl
theorem rest_next {m r k : Nat} (y : List Int) (hk : k ≤ r) : addL (2 ^ m) y (wordF m r y (r + 1 - k)) = addL (2 ^ m) (addL (2 ^ m) y (wordF m r y (r + 1 - (k + 1)))) (sumF m (addL (2 ^ m) y (wordF m r y (r + 1 - (k + 1)))) (segF m k)) := by
  rw [word_next y hk, addL_assoc]
theorem mask_mem {m : Nat} (hm : m ≤ 6) {x : List Int} (h : SubsetP (m : Int) x) : ∀ k, k < x.length → 0 ≤ x.getD k 0 ∧ x.getD k 0 < 6 := fun k hk => by have := (h k hk).1; omega
theorem pow_sub_le {m : Nat} (r : Nat) (hm : m ≤ 6) : 2 ^ (m - r) ≤ 64 := Nat.le_trans (Nat.pow_le_pow_right (by omega) (show m - r ≤ 6 by omega)) (by decide)
def decF (r m : Int) (y : List Int) : List Int := wordF m.toNat r.toNat y (r.toNat + 1)
def radF (r m : Int) : Int := (2 ^ (m - r).toNat - 1) / 2
end Go.Proofs.Ytdbpbmehcifjpaa

/- ref15.ReedMuller. -/
namespace Go.Proofs.Ytdbpbmehcifjpaa
open Go.RowKit
set_option linter.unusedVariables false
set_option maxRecDepth 100000

def rmRows (r m : Int) : List (List Int) := (monoSpec r m).1.map fun v => (evalSpec m v).1
theorem mono_mem {m : Nat} (hm : m ≤ 6) : ∀ {K : Nat}, K ≤ m + 1 → ∀ {x : List Int}, x ∈ monoTo m K → x.length < K ∧ SubsetP (m : Int) x
  | 0, _, x, hx => by simp [monoTo] at hx
  | K + 1, hK, x, hx => by
    rw [monoTo_succ, List.mem_append] at hx
    rcases hx with hx | hx
    · have := mono_mem hm (K := K) (by omega) hx
      exact ⟨by omega, this.2⟩
    · have := seg_mem hm (show K ≤ m by omega) hx
      exact ⟨by omega, this.2⟩
theorem mono_len : ∀ m : Fin 7, (monoTo m.val (m.val + 1)).length ≤ 64 := by decide +kernel
theorem mono_len_le {m : Nat} (hm : m ≤ 6) {K : Nat} (hK : K ≤ m + 1) : (monoTo m K).length ≤ 64 := by
  have h1 : ∀ d, K + d ≤ m + 1 → (monoTo m K).length ≤ (monoTo m (K + d)).length := by
    intro d
    induction d with
    | zero => intro _; exact Nat.le_refl _
    | succ d ih =>
      intro h
      have := ih (by omega)
      rw [show K + (d + 1) = (K + d) + 1 by omega, monoTo_succ, List.length_append]
      omega
  have h2 := h1 (m + 1 - K) (by omega)
  rw [show K + (m + 1 - K) = m + 1 by omega] at h2
  have := mono_len ⟨m, by omega⟩
  have h3 : (monoTo m (m + 1)).length ≤ 64 := this
  omega
theorem evalF_bit (m : Int) (v : List Int) (i : Nat) : 0 ≤ (evalF m v).getD i 0 ∧ (evalF m v).getD i 0 < 2 := by
  by_cases hi : i < 2 ^ m.toNat
  · rw [evalF_getD m v i hi]; split <;> omega
  · rw [getD_len (by rw [length_evalF]; omega)]; omega
theorem rm_ok {r m : Int} (h0 : 0 ≤ m) (h6 : m ≤ 6) (hr0 : -1 ≤ r) (hr : r ≤ m) : (monoSpec r m) = (monoTo m.toNat (r + 1).toNat, 0) := by
  unfold monoSpec; rw [if_neg (by omega)]
theorem rmRows_rows {r m : Int} (h0 : 0 ≤ m) (h6 : m ≤ 6) (hr0 : -1 ≤ r) (hr : r ≤ m) : Rows 2 (2 ^ m.toNat) (rmRows r m) := fun k hk => by
  unfold rmRows at hk ⊢
  rw [rm_ok h0 h6 hr0 hr] at hk ⊢
  rw [List.length_map] at hk
  have e : ((monoTo m.toNat (r + 1).toNat).map fun v => (evalSpec m v).1).getD k [] = (evalSpec m ((monoTo m.toNat (r + 1).toNat)[k])).1 := by simp [List.getD, hk]
  have hs := (mono_mem (m := m.toNat) (by omega) (K := (r + 1).toNat) (by omega) (List.getElem_mem hk)).2
  rw [Int.toNat_of_nonneg h0] at hs
  rw [e, evalSpec_ok h0 h6 hs]
  exact ⟨length_evalF _ _, evalF_bit _ _⟩

set_option maxHeartbeats 8000000 in
theorem rRM_bad (w : World) (r m : Int) (hb : (monoSpec r m).2 ≠ 0) :
    Calls Try.prog 11 #[.int .i64 r, .int .i64 m] w (RetCE w 0 0 [] 0 [] (monoSpec r m).2) := by
  have hb1 : ((monoSpec r m).2 != 0) = true := by rw [bne_iff_ne]; exact hb
  clear hb
  have HB0 := Lib.hid (bl_alloc w (.cells #[.int .i64 0, .int .i64 0, .slice none 0 0, .int .i64 0, .slice none 0 0] 27))
  have HRB : Hid (Blk (w.alloc (.cells #[.int .i64 0, .int .i64 0, .slice none 0 0, .int .i64 0, .slice none 0 0] 27)) w.heap.size 27 [.int .i64 0, .int .i64 0, .slice none 0 0, .int .i64 0, .slice none 0 0]) := Blk.new w 27 [.int .i64 0, .int .i64 0, .slice none 0 0, .int .i64 0, .slice none 0 0]
  go_enter Try.func11, Try.ntmps11
  go_wp2_with fail
  refine (rmonos_any _ r m).mono ?_
  rintro e w1 ⟨u1, rfl, hs1, hn1, hb⟩
  have HB1 := Lib.hid (bl_trans HB0.out hb)
  have HRB1 := Lib.hid (HRB.out.belowS hb)
  clear hb
  have hs2 := HB1.out.size
  obtain ⟨d0, d1, d2, d3, d4, f0, f1, f2, f3, f4⟩ := HRB1.out.five
  go_wp2_with fail
  obtain ⟨w3, h3, HL⟩ := lay5 (x := .int .i64 0) (y := .int .i64 0) (z := .slice none 0 0) (u := .int .i64 0) (v := .slice none 0 0) HRB1.out
  rw [h3]
  have q0 := HL.c0; have q1 := HL.c1; have q2 := HL.c2; have q3 := HL.c3; have q4 := HL.c4
  refine bodyPost_ret (v := .tuple #[.agg #[.int .i64 0, .int .i64 0, .slice none 0 0, .int .i64 0, .slice none 0 0], .int .i64 (monoSpec r m).2]) (by simp [results, Try.results11, go_sem, q0, q1, q2, q3, q4]) rfl ?_
  exact ⟨_, _, rfl, (SI.nilSep _ _).and (SS.nilSep _ _), HL.below HB1.out hs2 (Nat.le_refl _)⟩

set_option maxHeartbeats 8000000 in
theorem rRM_ok (w : World) (r m : Int) (N : Nat) (hNN : 2 ^ m.toNat = N) (h0 : 0 ≤ m) (h6 : m ≤ 6) (hr0 : -1 ≤ r) (hr : r ≤ m) :
    Calls Try.prog 11 #[.int .i64 r, .int .i64 m] w (RetCE w 2 1 [] (N : Int) (canonL (refOps 2 1 []) (rmRows r m) N) 0) := by
  have HB0 := Lib.hid (bl_alloc w (.cells #[.int .i64 0, .int .i64 0, .slice none 0 0, .int .i64 0, .slice none 0 0] 27))
  have HRB : Hid (Blk (w.alloc (.cells #[.int .i64 0, .int .i64 0, .slice none 0 0, .int .i64 0, .slice none 0 0] 27)) w.heap.size 27 [.int .i64 0, .int .i64 0, .slice none 0 0, .int .i64 0, .slice none 0 0]) := Blk.new w 27 [.int .i64 0, .int .i64 0, .slice none 0 0, .int .i64 0, .slice none 0 0]
  have HMS : Hid ((monoSpec r m).2 = 0) := by show _ = _; rw [rm_ok h0 h6 hr0 hr]
  have HML : Hid ((monoSpec r m).1.length ≤ 64) := by show _ ≤ _; rw [rm_ok h0 h6 hr0 hr]; exact mono_len_le (by omega) (by omega)
  have HRR : Hid (Rows (orderF 2 1) N (rmRows r m)) := by show Rows _ _ _; rw [order21, ← hNN]; exact rmRows_rows h0 h6 hr0 hr
  have HPW : Hid (N ≤ 64) := by show _ ≤ _; rw [← hNN]; exact two_pow_le h6
  have HWR : Hid (wrap64 ((2 : Int) ^ m.toNat) = (N : Int)) := by
    have h1 := HPW.out
    show _ = _
    rw [show (2 : Int) ^ m.toNat = (N : Int) by rw [← hNN]; simp]
    unfold wrap64; omega
  clear hNN
  have hrl : (rmRows r m).length = (monoSpec r m).1.length := by simp [rmRows]
  have HRL := Lib.hid hrl; clear hrl
  obtain ⟨l, hle⟩ : ∃ l, l = (monoSpec r m).1 := ⟨_, rfl⟩
  have HRE : Hid (rmRows r m = l.map fun v => (evalSpec m v).1) := by rw [hle]; exact hid' rfl
  have HLE := Lib.hid hle; clear hle
  have hl64 : l.length ≤ 64 := by rw [HLE.out]; exact HML.out
  obtain ⟨n, hn⟩ : ∃ n, n = l.length := ⟨_, rfl⟩
  have hn64 : n ≤ 64 := by omega
  have HN := Lib.hid hn; clear hn hl64
  go_enter Try.func11, Try.ntmps11
  go_wp2_with fail
  refine (rmonos_any _ r m).mono ?_
  rintro e w1 ⟨u1, rfl, hs1, hn1, hb⟩
  rw [HMS.out]
  rw [← HLE.out] at hs1
  obtain ⟨LA, lc, rfl, hs1⟩ := hs1
  have HS1 := Lib.hid (show SS w1 (.slice LA l.length lc) l from ⟨LA, lc, rfl, hs1⟩); clear hs1 hn1
  rw [← HN.out] at HS1 ⊢
  have HB1 := Lib.hid (bl_trans HB0.out hb)
  have HRB1 := Lib.hid (HRB.out.belowS hb)
  clear hb
  have HOS0 := Lib.hid (OS.empty (B := w1.heap.size) (X := fun g => g < w1.heap.size) w1 (Nat.le_refl _))
  have HB00 := Lib.hid (bl_alloc w1 (.cells #[] 22))
  go_wp2_with fail
  go_loopw [8, 9] (fun out i wr => ∃ k : Nat, k ≤ n ∧ i = .int .i64 (k : Int) ∧ Hid (OS w1.heap.size (fun g => g < w1.heap.size) wr out ((l.take k).map fun v => (evalSpec m v).1)) ∧ Hid (Below w1.heap.size w1 wr)) (fun _ i _ => (n - intOf i).toNat)
  case atStart => exact ⟨0, Nat.zero_le _, rfl, HOS0, HB00⟩
  case round =>
    obtain ⟨k, hk, rfl, HO, HB⟩ := hrel
    by_cases hlt : k < n
    · obtain ⟨ad, Ak, ck, xs, rfl, hc, HX, HXE⟩ := (HS1.out.below HB.out (Nat.le_refl _)).eltA (k := k) (by rw [← HN.out]; exact hlt)
      have HTK : Hid (((l.take (k + 1)).map fun v => (evalSpec m v).1) = ((l.take k).map fun v => (evalSpec m v).1) ++ [(evalSpec m xs).1]) := by
        show _ = _
        have hk2 : k < l.length := by rw [← HN.out]; exact hlt
        rw [List.take_succ_eq_append_getElem hk2, List.map_append]
        have := HXE.out
        simp [List.getD, hk2] at this
        rw [this]; rfl
      have hlen : ((l.take k).map fun v => (evalSpec m v).1).length ≤ k := by rw [List.length_map]; exact List.length_take_le _ _
      have HLEN := Lib.hid hlen; clear hlen
      have hsz := HB.out.size
      go_wp2_with fail
      refine (reval_any _ m _ xs HX.out.si).mono ?_
      rintro e w2 ⟨u2, rfl, hs2, hn2, hb2⟩
      obtain ⟨A1, cc1, rfl, hs2⟩ := hs2
      have HSI := Lib.hid hs2.si; clear hs2
      have HNEW := Lib.hid hn2; clear hn2
      have HB2 := Lib.hid hb2
      have hsz2 := hb2.size
      clear hb2 hc
      obtain ⟨zs, hzs⟩ : ∃ zs, zs = (evalSpec m xs).1 := ⟨_, rfl⟩
      rw [← hzs] at HTK HSI HNEW ⊢
      have HZ := Lib.hid hzs; clear hzs
      have HOS2 := Lib.hid ((HO.out.below HB2.out).alloc (.cells #[.slice A1 zs.length cc1] 22))
      have HSI2 := Lib.hid (HSI.out.below (bl_alloc w2 (.cells #[.slice A1 zs.length cc1] 22)) (Nat.le_refl _))
      have HBX := Lib.hid (box1 (w := w2) (u := .slice A1 zs.length cc1) (t := 22))
      have HUP := Lib.hid (up_alloc (w := w2) (B := w1.heap.size) (by omega) (.cells #[.slice A1 zs.length cc1] 22))
      go_wp2_with (at_builtin; refine wpList_pushS rfl _ _ rfl w1.heap.size (fun g => g < w1.heap.size) _ ((l.take k).map fun v => (evalSpec m v).1) rfl HOS2.out w2.heap.size 1 _ zs rfl HBX.out HSI2.out (fun _ g hg => ⟨fun e => by have h1 := HNEW.out g hg; have h2 := (HO.out.lt e).2; omega, by have h1 := HNEW.out g hg; show ¬ g < w1.heap.size; omega⟩) (by have := HLEN.out; omega) HUP.out ?_; intro v3 w3 ho hg hv3; have HO3 := Lib.hid ho; have HB3 := Lib.hid (HOS2.out.bgrown ((bl_trans HB.out HB2.out).alloc (by omega) (.cells #[.slice A1 zs.length cc1] 22)) HUP.out hg); clear ho hg hv3)
      exact ⟨⟨k + 1, by omega, rfl, by rw [HTK.out]; exact HO3, HB3⟩, by simp only [intOf]; omega⟩
    · obtain rfl : n = k := by omega
      have HO1 : Hid (OS w1.heap.size (fun g => g < w1.heap.size) wr u8 (rmRows r m)) := by
        have := HO.out
        rw [List.take_of_length_le (by rw [← HN.out]; exact Nat.le_refl _), ← HRE.out] at this
        exact this
      have HBW := Lib.hid (bl_trans HB1.out HB.out)
      go_wp2_with fail
      refine (two_any _).mono ?_
      rintro e w4 ⟨rfl, hb4⟩
      have HB4 := Lib.hid (bl_trans HB.out hb4)
      have HO4 := Lib.hid (HO1.out.below hb4)
      have HRB4 := Lib.hid (HRB1.out.belowS HB4.out)
      clear hb4
      have hwr := HWR.out
      go_wp2_with fail
      clear hwr
      refine (rMake_any _ 2 1 N _ _ [] (rmRows r m) (SI.none_ _) (HO4.out.ss (by rw [HRL.out]; have := HML.out; omega)) (by rw [order21]; decide) ⟨fun _ => rfl, fun h => absurd rfl h⟩ HRR.out (by have := HPW.out; omega) (by rw [HRL.out]; have := HML.out; omega)).mono ?_
      rintro e w5 ⟨u5, g5, rfl, hs5, hb5⟩
      obtain ⟨⟨MA, mc, rfl, _⟩, ⟨GA, gc, rfl, _⟩⟩ := hs5.out
      have HS5 := Lib.hid hs5
      have HB5 := Lib.hid (bl_trans HB1.out (bl_trans HB4.out hb5))
      have HRB5 := Lib.hid (HRB4.out.belowS hb5)
      have hlt := HRB4.out.lt
      have hs2 := HB5.out.size
      clear hb5 hs5
      obtain ⟨k, hk⟩ : ∃ k, k = (canonL (refOps 2 1 []) (rmRows r m) N).length := ⟨_, rfl⟩
      rw [← hk] at HS5 ⊢
      have HK := Lib.hid hk; clear hk
      obtain ⟨d0, d1, d2, d3, d4, f0, f1, f2, f3, f4⟩ := HRB5.out.five
      go_wp2_with fail
      obtain ⟨w6, h6', HL⟩ := lay5 (x := .int .i64 2) (y := .int .i64 1) (z := .slice MA 0 mc) (u := .int .i64 (N : Int)) (v := .slice GA k gc) HRB5.out
      rw [h6']
      have q0 := HL.c0; have q1 := HL.c1; have q2 := HL.c2; have q3 := HL.c3; have q4 := HL.c4
      refine bodyPost_ret (v := .tuple #[.agg #[.int .i64 2, .int .i64 1, .slice MA 0 mc, .int .i64 (N : Int), .slice GA k gc], .int .i64 0]) (by simp [results, Try.results11, go_sem, q0, q1, q2, q3, q4]) rfl ?_
      exact ⟨_, _, rfl, (HS5.out.grown HL.gr (by rintro g e; cases e; omega)).mono (by omega), HL.below HB5.out hs2 (Nat.le_refl _)⟩
end Go.Proofs.Ytdbpbmehcifjpaa

/- classic.ReedMuller. -/
namespace Go.Proofs.Ytdbpbmehcifjpaa
open Go.RowKit
set_option linter.unusedVariables false
set_option maxRecDepth 100000

theorem binary_any (w : World) : Calls Try.prog 35 #[] w fun e w' => e = .returned (.agg #[.int .i64 2, .int .i64 1, .slice none 0 0]) ∧ Below w.heap.size w w' := by
  go_enter Try.func35, Try.ntmps35
  go_wp2
  refine bodyPost_ret (v := .agg #[.int .i64 2, .int .i64 1, .slice none 0 0]) (by simp [results, Try.results35, go_sem]) rfl ⟨rfl, ?_⟩
  exact ((Below.refl _ _).alloc (Nat.le_refl _) _)
theorem field21 : FieldP 2 1 [] := ⟨by rw [order21]; decide, ⟨by decide, fun d h1 h2 => by omega⟩, ⟨fun _ => rfl, fun h => absurd rfl h⟩, fun h => absurd rfl h⟩

/-- rows filled one by one -/
def fillS (N : Nat) (f : Nat → List Int) (k : Nat) : List (List Int) := (List.range N).map fun p => if p < k then f p else []
theorem fillS_zero (N : Nat) (f : Nat → List Int) : fillS N f 0 = List.replicate N [] := by simp [fillS, List.map_const']
theorem fillS_full (N : Nat) (f : Nat → List Int) : fillS N f N = (List.range N).map f := List.map_congr_left fun p hp => by rw [if_pos (by simpa using hp)]
theorem fillS_len (N : Nat) (f : Nat → List Int) (k : Nat) : (fillS N f k).length = N := by simp [fillS]
theorem fillS_set {N : Nat} {f : Nat → List Int} {k : Nat} (h : k < N) : (fillS N f k).set k (f k) = fillS N f (k + 1) := by
  apply List.ext_getElem?
  intro i
  by_cases hi : i < N
  · by_cases e : k = i
    · subst e; simp [fillS, hi]
    · have h2 : (i < k + 1) = (i < k) := by simp; omega
      simp [fillS, List.getElem?_set, e, hi, h2]
  · simp [fillS, List.getElem?_set, hi]
theorem OS.madeR {B : Nat} {X : Nat → Prop} (w : World) (n : Nat) (hB : B ≤ w.heap.size) (h : n ≤ 1000000) : OS B X (w.alloc (.cells (madeCells #[.slice none 0 0] n) 22)) (.slice (some ⟨w.heap.size, 0, none⟩) n n) (List.replicate n []) := by
  have := World.ownsRow_lit (base := B) (e := 22) (size := 1) w (madeCells #[.slice none 0 0] n) n hB (by unfold maxLen; omega) (by simp [size_madeCells])
  rw [toList_madeCells_one] at this
  refine ⟨List.replicate n (.slice none 0 0), by rw [List.length_replicate]; exact this, fun i hi => ?_⟩
  rw [List.length_replicate] at hi
  have e : (List.replicate n ([] : List Int)).getD i [] = [] := by simp [List.getD, List.getElem?_replicate, hi]
  rw [e]
  exact ⟨.slice none 0 0, by simp [List.getElem?_replicate, hi], SI.none_ _, fun h0 => absurd h0 (by simp)⟩
theorem rm_rows_range (r m : Int) (l : List (List Int)) (h : l = (monoSpec r m).1) : (List.range l.length).map (fun i => (evalSpec m (l.getD i [])).1) = rmRows r m := by
  unfold rmRows
  rw [← h]
  apply List.ext_getElem?
  intro i
  by_cases hi : i < l.length
  · simp [hi, List.getD]
  · simp [hi, Nat.le_of_not_lt hi]

theorem wrap_pow {x : Int} {N : Nat} (hN : N ≤ 64) (hx : x = (N : Int)) : IntKind.i64.wrap x = (N : Int) := by
  subst hx
  simp only [IntKind.wrap, IntKind.bits, IntKind.signed]
  simp
  omega
set_option maxHeartbeats 8000000 in
theorem cRM_bad (w : World) (r m : Int) (hr : I64 r) (hm : I64 m) (hb : (monoSpec r m).2 ≠ 0) :
    Calls Try.prog 10 #[.int .i64 r, .int .i64 m] w (RetCE w 0 0 [] 0 [] (monoSpec r m).2) := by
  have hb1 : ((monoSpec r m).2 != 0) = true := by rw [bne_iff_ne]; exact hb
  have HR := Lib.hid hr; have HM := Lib.hid hm
  clear hb hr hm
  have HB0 := Lib.hid (bl_alloc w (.cells #[.int .i64 0, .int .i64 0, .slice none 0 0, .int .i64 0, .slice none 0 0] 27))
  have HRB : Hid (Blk (w.alloc (.cells #[.int .i64 0, .int .i64 0, .slice none 0 0, .int .i64 0, .slice none 0 0] 27)) w.heap.size 27 [.int .i64 0, .int .i64 0, .slice none 0 0, .int .i64 0, .slice none 0 0]) := Blk.new w 27 [.int .i64 0, .int .i64 0, .slice none 0 0, .int .i64 0, .slice none 0 0]
  go_enter Try.func10, Try.ntmps10
  go_wp2_with fail
  refine (monos_any _ r m HR.out HM.out).mono ?_
  rintro e w1 ⟨u1, rfl, hs1, hn1, hb⟩
  have HB1 := Lib.hid (bl_trans HB0.out hb)
  have HRB1 := Lib.hid (HRB.out.belowS hb)
  clear hb
  have hs2 := HB1.out.size
  obtain ⟨d0, d1, d2, d3, d4, f0, f1, f2, f3, f4⟩ := HRB1.out.five
  go_wp2_with fail
  obtain ⟨w3, h3, HL⟩ := lay5 (x := .int .i64 0) (y := .int .i64 0) (z := .slice none 0 0) (u := .int .i64 0) (v := .slice none 0 0) HRB1.out
  rw [h3]
  have q0 := HL.c0; have q1 := HL.c1; have q2 := HL.c2; have q3 := HL.c3; have q4 := HL.c4
  refine bodyPost_ret (v := .tuple #[.agg #[.int .i64 0, .int .i64 0, .slice none 0 0, .int .i64 0, .slice none 0 0], .int .i64 (monoSpec r m).2]) (by simp [results, Try.results10, go_sem, q0, q1, q2, q3, q4]) rfl ?_
  exact ⟨_, _, rfl, (SI.nilSep _ _).and (SS.nilSep _ _), HL.below HB1.out hs2 (Nat.le_refl _)⟩

set_option maxHeartbeats 16000000 in
theorem cRM_ok (w : World) (r m : Int) (N : Nat) (hNN : 2 ^ m.toNat = N) (h0 : 0 ≤ m) (h6 : m ≤ 6) (hr0 : -1 ≤ r) (hr : r ≤ m) :
    Calls Try.prog 10 #[.int .i64 r, .int .i64 m] w (RetCE w 2 1 [] (N : Int) (canonL (refOps 2 1 []) (rmRows r m) N) 0) := by
  have HRI : Hid (I64 r) := hid' (I64.of_small (by omega) (by omega))
  have HMI : Hid (I64 m) := hid' (I64.of_small (by omega) (by omega))
  have HB0 := Lib.hid (bl_alloc w (.cells #[.int .i64 0, .int .i64 0, .slice none 0 0, .int .i64 0, .slice none 0 0] 27))
  have HRB : Hid (Blk (w.alloc (.cells #[.int .i64 0, .int .i64 0, .slice none 0 0, .int .i64 0, .slice none 0 0] 27)) w.heap.size 27 [.int .i64 0, .int .i64 0, .slice none 0 0, .int .i64 0, .slice none 0 0]) := Blk.new w 27 [.int .i64 0, .int .i64 0, .slice none 0 0, .int .i64 0, .slice none 0 0]
  have HMS : Hid ((monoSpec r m).2 = 0) := by show _ = _; rw [rm_ok h0 h6 hr0 hr]
  have HML : Hid ((monoSpec r m).1.length ≤ 64) := by show _ ≤ _; rw [rm_ok h0 h6 hr0 hr]; exact mono_len_le (by omega) (by omega)
  have HPW : Hid (N ≤ 64) := by show _ ≤ _; rw [← hNN]; exact two_pow_le h6
  have hN1 : 1 ≤ N := by rw [← hNN]; exact Nat.one_le_two_pow
  have HRR : Hid (Rows (orderF 2 1) N (rmRows r m)) := by show Rows _ _ _; rw [order21, ← hNN]; exact rmRows_rows h0 h6 hr0 hr
  have hrl : (rmRows r m).length = (monoSpec r m).1.length := by simp [rmRows]
  have HNEW := Lib.hid (fun (w' : World) (rv : Value) (hs : SS w' rv (rmRows r m)) => cNew_ok w' 2 1 N (.slice none 0 0) rv [] (rmRows r m) (SI.none_ w') hs (matE_mk field21 (by have := HPW.out; omega) (by rw [hrl]; have := HML.out; omega) HRR.out) hN1 HPW.out)
  have HWR : Hid (wrap64 ((2 : Int) ^ m.toNat) = (N : Int)) := by
    have h1 := HPW.out
    show _ = _
    rw [show (2 : Int) ^ m.toNat = (N : Int) by rw [← hNN]; simp]
    unfold wrap64; omega
  have HP2 : Hid ((2 : Int) ^ m.toNat = (N : Int)) := by show _ = _; rw [← hNN]; simp
  clear hNN hN1
  have HRL := Lib.hid hrl; clear hrl
  obtain ⟨l, hle⟩ : ∃ l, l = (monoSpec r m).1 := ⟨_, rfl⟩
  have HRE := Lib.hid (rm_rows_range r m l hle)
  have HLE := Lib.hid hle; clear hle
  have hl64 : l.length ≤ 64 := by rw [HLE.out]; exact HML.out
  obtain ⟨n, hn⟩ : ∃ n, n = l.length := ⟨_, rfl⟩
  rw [← hn] at HRE
  have hn64 : n ≤ 64 := by omega
  have HN := Lib.hid hn; clear hn hl64
  have hmk := fun (w : World) => run_mkR n (by omega) w
  go_enter Try.func10, Try.ntmps10
  go_wp2_with fail
  refine (monos_any _ r m HRI.out HMI.out).mono ?_
  rintro e w1 ⟨u1, rfl, hs1, hn1, hb⟩
  rw [HMS.out]
  rw [← HLE.out] at hs1
  obtain ⟨LA, lc, rfl, hs1⟩ := hs1
  have HS1 := Lib.hid (show SS w1 (.slice LA l.length lc) l from ⟨LA, lc, rfl, hs1⟩); clear hs1 hn1
  rw [← HN.out] at HS1 ⊢
  have HB1 := Lib.hid (bl_trans HB0.out hb)
  have HRB1 := Lib.hid (HRB.out.belowS hb)
  clear hb
  have HOS0 : Hid (OS w1.heap.size (fun g => g < w1.heap.size) (w1.alloc (.cells (madeCells #[.slice none 0 0] n) 22)) (.slice (some ⟨w1.heap.size, 0, none⟩) n n) (fillS n (fun i => (evalSpec m (l.getD i [])).1) 0)) := hid' (by rw [fillS_zero]; exact OS.madeR w1 n (Nat.le_refl _) (by omega))
  have HB00 := Lib.hid (bl_alloc w1 (.cells (madeCells #[.slice none 0 0] n) 22))
  go_wp2_with fail
  clear hmk
  go_loopw [26] (fun i wr => ∃ k : Nat, k ≤ n ∧ i = .int .i64 (k : Int) ∧ Hid (OS w1.heap.size (fun g => g < w1.heap.size) wr (.slice (some ⟨w1.heap.size, 0, none⟩) n n) (fillS n (fun i => (evalSpec m (l.getD i [])).1) k)) ∧ Hid (Below w1.heap.size w1 wr)) (fun i _ => (n - intOf i).toNat)
  case atStart => exact ⟨0, Nat.zero_le _, rfl, HOS0, HB00⟩
  case round =>
    clear HOS0 HB00
    obtain ⟨k, hk, rfl, HO, HB⟩ := hrel
    by_cases hlt : k < n
    · obtain ⟨ad, Ak, ck, xs, rfl, hc, HX, HXE⟩ := (HS1.out.below HB.out (Nat.le_refl _)).eltA (k := k) (by rw [← HN.out]; exact hlt)
      go_wp2_with fail
      refine (eval_any _ m _ xs HX.out.si).mono ?_
      rintro e w2 ⟨u2, rfl, hs2, hn2, hb2⟩
      obtain ⟨A1, cc1, rfl, hs2⟩ := hs2
      have HSI := Lib.hid hs2.si; clear hs2
      have HNW := Lib.hid hn2; clear hn2
      have HB2 := Lib.hid (bl_trans HB.out hb2)
      have HO2 := Lib.hid (HO.out.below hb2)
      have hsz := HB.out.size
      clear hb2 hc
      obtain ⟨zs, hzs⟩ : ∃ zs, zs = (evalSpec m xs).1 := ⟨_, rfl⟩
      rw [← hzs] at HSI HNW ⊢
      have HZ : Hid ((evalSpec m (l.getD k [])).1 = zs) := hid' (by rw [HXE.out, hzs]); clear hzs
      have hgl := HO.out.lt (g := w1.heap.size) rfl
      have HO3 := Lib.hid (HO2.out.setRow k HSI.out (fun _ g' hg' => ⟨fun e => by have := HNW.out g' hg'; omega, by have := HNW.out g' hg'; show ¬ g' < w1.heap.size; omega⟩))
      have HFS : Hid ((fillS n (fun i => (evalSpec m (l.getD i [])).1) k).set k zs = fillS n (fun i => (evalSpec m (l.getD i [])).1) (k + 1)) := hid' (by rw [← fillS_set hlt, HZ.out])
      rw [HFS.out] at HO3
      have HB3 := Lib.hid (HB2.out.setCell (p := ⟨w1.heap.size, k, none⟩) (Nat.le_refl _) (.slice A1 zs.length cc1))
      obtain ⟨u0, h0', _, _⟩ := HO2.out.row (k := k) (by rw [fillS_len]; exact hlt)
      have f0 := HO2.out.frozen k
      go_wp2_with fail
      exact ⟨⟨k + 1, by omega, by push_cast; rfl, HO3, HB3⟩, by simp only [intOf]; omega⟩
    · obtain rfl : n = k := by omega
      rw [fillS_full, HRE.out] at HO
      have HSS := Lib.hid (HO.out.ss (by rw [HRL.out]; have := HML.out; omega))
      have HRB2 := Lib.hid (HRB1.out.belowS HB.out)
      have HBW := Lib.hid (bl_trans HB1.out HB.out)
      have hm0 : ¬ m < 0 := by omega
      have hwr := HWR.out
      have HW2 : Hid (IntKind.i64.wrap ((2 : Int) ^ m.toNat) = (N : Int)) := hid' (wrap_pow HPW.out HP2.out)
      go_wp2_with fail
      refine Kept.start (S := fun _ => True) (by kernel_rfl) (trivial) (fun hHeld => ?_)
      change Kept _ _ _ _ 10 _ _ _
      refine Kept.take (i := 1) (v := ?_) rfl (by kernel_rfl) (by kernel_rfl) (by kernel_rfl) (fun _ _ _ h => h) (Or.inl ⟨by kernel_rfl, ?_⟩) hHeld ?_
      rotate_left
      · intro w' hSw; (try dsimp only at hSw); first | (go_simp; done) | (go_simp; with_reducible rfl)
      try simp only [List.getElem_toArray, List.getElem_cons_zero, List.getElem_cons_succ, Act.put, List.setIfInBounds_toArray, List.set_cons_zero, List.set_cons_succ]
      refine Kept.take (i := 2) (v := ?_) rfl (by kernel_rfl) (by kernel_rfl) (by kernel_rfl) (fun _ _ _ h => h) (Or.inl ⟨by kernel_rfl, ?_⟩) hHeld ?_
      rotate_left
      · intro w' hSw; (try dsimp only at hSw); first | (go_simp; done) | (go_simp; with_reducible rfl)
      try simp only [List.getElem_toArray, List.getElem_cons_zero, List.getElem_cons_succ, Act.put, List.setIfInBounds_toArray, List.set_cons_zero, List.set_cons_succ]
      refine Kept.take (i := 3) (v := ?_) rfl (by kernel_rfl) (by kernel_rfl) (by kernel_rfl) (fun _ _ _ h => h) (Or.inl ⟨by kernel_rfl, ?_⟩) hHeld ?_
      rotate_left
      · intro w' hSw; (try dsimp only at hSw); first | (go_simp; done) | (go_simp; with_reducible rfl)
      try simp only [List.getElem_toArray, List.getElem_cons_zero, List.getElem_cons_succ, Act.put, List.setIfInBounds_toArray, List.set_cons_zero, List.set_cons_succ]
      refine Kept.take (i := 4) (v := ?_) rfl (by kernel_rfl) (by kernel_rfl) (by kernel_rfl) (fun _ _ _ h => h) (Or.inl ⟨by kernel_rfl, ?_⟩) hHeld ?_
      rotate_left
      · intro w' hSw; (try dsimp only at hSw); first | (go_simp; done) | (go_simp; with_reducible rfl)
      try simp only [List.getElem_toArray, List.getElem_cons_zero, List.getElem_cons_succ, Act.put, List.setIfInBounds_toArray, List.set_cons_zero, List.set_cons_succ]
      refine Kept.only (i := 0) (by kernel_rfl) rfl (fun K hK => ?_)
      go_simp
      refine (binary_any _).mono ?_; rintro e w4 ⟨rfl, hb4⟩; have HB4 := Lib.hid (bl_trans (bl_drew wr) hb4); clear hb4
      refine hK.out _ _ (trivial) (fun hHeld2 => ?_)
      clear hK K
      replace hHeld := hHeld2
      clear hHeld2
      try simp only [List.getElem_toArray, List.getElem_cons_zero, List.getElem_cons_succ, Act.put, List.setIfInBounds_toArray, List.set_cons_zero, List.set_cons_succ]
      refine Kept.only (i := 5) (by kernel_rfl) rfl (fun K hK => ?_)
      go_simp
      rw [HW2.out]; refine (HNEW.out w4 _ (HSS.out.below HB4.out (Nat.le_refl _))).mono ?_; rintro e w5 ⟨u5, g5, rfl, hs5, hb5⟩; obtain ⟨⟨MA, mc, rfl, _⟩, ⟨GA, gc, rfl, _⟩⟩ := hs5.out; have HS5 := Lib.hid hs5; have HB5 := Lib.hid (bl_trans HB4.out hb5); have HRB5 := Lib.hid (HRB2.out.belowS HB5.out); clear hb5 hs5; obtain ⟨kk, hkk⟩ : ∃ kk, kk = (canonL (refOps 2 1 []) (rmRows r m) N).length := ⟨_, rfl⟩; rw [← hkk] at HS5 ⊢; have HKK := Lib.hid hkk; clear hkk
      refine hK.out _ _ (trivial) (fun hHeld2 => ?_)
      clear hK K
      replace hHeld := hHeld2
      clear hHeld2
      try simp only [List.getElem_toArray, List.getElem_cons_zero, List.getElem_cons_succ, Act.put, List.setIfInBounds_toArray, List.set_cons_zero, List.set_cons_succ]
      refine Kept.take (i := 6) (v := ?_) rfl (by kernel_rfl) (by kernel_rfl) (by kernel_rfl) (fun _ _ _ h => h) (Or.inl ⟨by kernel_rfl, ?_⟩) hHeld ?_
      rotate_left
      · intro w' hSw; (try dsimp only at hSw); first | (go_simp; done) | (go_simp; with_reducible rfl)
      try simp only [List.getElem_toArray, List.getElem_cons_zero, List.getElem_cons_succ, Act.put, List.setIfInBounds_toArray, List.set_cons_zero, List.set_cons_succ]
      refine Kept.take (i := 7) (v := ?_) rfl (by kernel_rfl) (by kernel_rfl) (by kernel_rfl) (fun _ _ _ h => h) (Or.inl ⟨by kernel_rfl, ?_⟩) hHeld ?_
      rotate_left
      · intro w' hSw; (try dsimp only at hSw); first | (go_simp; done) | (go_simp; with_reducible rfl)
      try simp only [List.getElem_toArray, List.getElem_cons_zero, List.getElem_cons_succ, Act.put, List.setIfInBounds_toArray, List.set_cons_zero, List.set_cons_succ]
      refine Kept.only (i := 8) (o := ?op1) (by kernel_rfl) ?ho1 (fun K hK => ?_)
      case ho1 => (conv => lhs; simp only [List.getElem?_toArray, List.getElem?_cons_succ, List.getElem?_cons_zero])
      obtain ⟨d0, d1, d2, d3, d4, f0, f1, f2, f3, f4⟩ := HRB5.out.five; go_simp; obtain ⟨w6, h6', HL⟩ := lay5 (x := .int .i64 2) (y := .int .i64 1) (z := .slice MA 0 mc) (u := .int .i64 (N : Int)) (v := .slice GA kk gc) HRB5.out; rw [h6']; have q0 := HL.c0; have q1 := HL.c1; have q2 := HL.c2; have q3 := HL.c3; have q4 := HL.c4; have hlt2 := HRB2.out.lt; have hs4 := HB4.out.size; have HS6 := Lib.hid (HS5.out.grown HL.gr (by rintro g e; cases e; omega)); have HB6 := Lib.hid (HL.below (bl_trans HBW.out HB5.out) (bl_trans HBW.out HB5.out).size (Nat.le_refl _)); clear h6' HL d0 d1 d2 d3 d4 f0 f1 f2 f3 f4
      refine hK.out _ _ (trivial) (fun hHeld2 => ?_)
      clear hK K
      replace hHeld := hHeld2
      clear hHeld2
      try simp only [List.getElem_toArray, List.getElem_cons_zero, List.getElem_cons_succ, Act.put, List.setIfInBounds_toArray, List.set_cons_zero, List.set_cons_succ]
      refine Kept.only (i := 9) (by kernel_rfl) rfl (fun K hK => ?_)
      go_simp
      refine hK.out _ _ hHeld (fun hHeld2 => ?_)
      clear hK K
      clear hHeld2
      refine Kept.done (by kernel_rfl) ?_
      try simp only [List.getElem_toArray, List.getElem_cons_zero, List.getElem_cons_succ, Act.put, List.setIfInBounds_toArray, List.set_cons_zero, List.set_cons_succ]
      clear hHeld
      clear hwr
      go_wp2_with fail
      refine bodyPost_ret (v := .tuple #[.agg #[.int .i64 2, .int .i64 1, .slice MA 0 mc, .int .i64 (N : Int), .slice GA kk gc], .int .i64 0]) (by simp [results, Try.results10, go_sem, q0, q1, q2, q3, q4]) rfl ?_
      have hwz := HBW.out.size
      exact ⟨_, _, rfl, HS6.out.mono (by omega), HB6.out⟩
end Go.Proofs.Ytdbpbmehcifjpaa

/- Plain: the values of the monomials below a degree are independent; they are orthogonal to those of low degree, and the two spaces are each other's duals. -/
namespace Go.Proofs.Ytdbpbmehcifjpaa
set_option linter.unusedVariables false

section
variable {O : FOps} {q : Int} (hO : O.Fld q)
include hO
theorem indep_tri {ws : Nat → Nat → Int} {m : Nat} (pt : Nat → Nat) (h1 : ∀ k, k < m → ws k (pt k) = 1) (h0 : ∀ k i, k < i → i < m → ws i (pt k) = 0) : Indep O q ws m := by
  intro c hc hz
  have key : ∀ k, k ≤ m → ∀ i, i < k → c i = 0 := by
    intro k
    induction k with
    | zero => intro _ i hi; omega
    | succ k ih =>
      intro hk i hi
      by_cases e : i < k
      · exact ih (by omega) i e
      · obtain rfl : i = k := by omega
        have h := hz (pt i)
        have hci := hc i
        have e1 : O.mul (c i) (ws i (pt i)) = c i := by rw [h1 i (by omega)]; exact hO.mul_one _ hci.1 hci.2
        rw [sumTo_single hO (f := fun t => O.mul (c t) (ws t (pt i))) (k := i) (by show 0 ≤ O.mul (c i) (ws i (pt i)) ∧ O.mul (c i) (ws i (pt i)) < q; rw [e1]; exact hci) (n := m) (by omega) (fun t ht hne => by
          show O.mul (c t) (ws t (pt i)) = 0
          by_cases hti : t < i
          · rw [ih (by omega) t hti, hO.zero_mul]
          · rw [h0 i t (by omega) ht, hO.mul_zero])] at h
        rw [← e1]
        exact h
  exact fun i hi => key m (Nat.le_refl _) i hi
/-- a space inside another of its dimension is this one -/
theorem inside_eq {n : Nat} {A B : List (List Int)} {p p' : List Int} (hA : Rref O q n A p) (hB : Rref O q n B p') (hI : Inside O A B) (hl : A.length = B.length) : A = B := by
  refine rref_unique hO hA hB ⟨hI, fun i hi => ?_⟩
  refine Classical.byContradiction fun hn => ?_
  have hrA := hA.r hO
  have hrB := hB.r hO
  have hindA := rref_indep hO hA
  have hind : Indep O q (fun k j => if k < A.length then ent A k j else ent B i j) (A.length + 1) := by
    intro c hc hz
    have hz' : ∀ j, O.add (sumTo O (fun k => O.mul (c k) (ent A k j)) A.length) (O.mul (c A.length) (ent B i j)) = 0 := fun j => by
      have h := hz j
      rw [sumTo] at h
      dsimp only at h
      rw [if_neg (by omega)] at h
      rw [← h]
      congr 1
      exact sumTo_congr fun k hk => by rw [if_pos hk]
    by_cases hcm : c A.length = 0
    · have hA0 : ∀ j, sumTo O (fun k => O.mul (c k) (ent A k j)) A.length = 0 := fun j => by
        have h := hz' j
        rw [hcm, hO.zero_mul] at h
        have hb := sumTo_lt hO (fun k => O.mul (c k) (ent A k j)) A.length
        rwa [hO.add_zero _ hb.1 hb.2] at h
      intro k hk
      by_cases e : k < A.length
      · exact hindA c hc hA0 k e
      · rw [show k = A.length by omega]; exact hcm
    · exfalso
      apply hn
      have hcl := hc A.length
      have hS : Span O A fun j => O.mul (O.inv (c A.length)) (O.mul (O.neg 1) (sumTo O (fun k => O.mul (c k) (ent A k j)) A.length)) :=
        Span.smul hO _ (Span.smul hO _ ⟨c, fun j => rfl⟩)
      refine Span.congr hS fun j => ?_
      have h := hz' j
      have hb := hrB i j
      have e1 : O.mul (c A.length) (ent B i j) = O.neg (sumTo O (fun k => O.mul (c k) (ent A k j)) A.length) := hO.neg_unique (hO.lt.mul _ _) h
      have hsl := sumTo_lt hO (fun k => O.mul (c k) (ent A k j)) A.length
      rw [hO.neg_mul, hO.one_mul hsl.1 hsl.2, ← e1, ← hO.mul_assoc, hO.mul_comm (O.inv _), hO.mul_inv _ (by omega) hcl.2, hO.one_mul hb.1 hb.2]
  have h := indep_span hO hind (B := B) (fun k hk => by
    by_cases e : k < A.length
    · exact Span.congr (hI k e) fun j => if_pos e
    · exact Span.congr (Span.row hO hi (hrB i)) fun j => if_neg e)
  omega
end

/-- the values of the monomials of a degree below K -/
def evR (m K : Nat) : List (List Int) := (monoTo m K).map fun v => evalF (m : Int) v
theorem rm_ev {r m : Int} (h0 : 0 ≤ m) (h6 : m ≤ 6) (hr0 : -1 ≤ r) (hr : r ≤ m) : rmRows r m = evR m.toNat (r + 1).toNat := by
  unfold rmRows evR
  rw [rm_ok h0 h6 hr0 hr]
  refine List.map_congr_left fun v hv => ?_
  have hs := (mono_mem (m := m.toNat) (by omega) (K := (r + 1).toNat) (by omega) hv).2
  rw [Int.toNat_of_nonneg h0] at hs ⊢
  rw [evalSpec_ok h0 h6 hs]
theorem evR_len (m K : Nat) : (evR m K).length = (monoTo m K).length := by simp [evR]
theorem evR_getD {m K i : Nat} (hi : i < (monoTo m K).length) : (evR m K).getD i [] = evalF (m : Int) ((monoTo m K).getD i []) := by simp [evR, List.getD, hi]
theorem evR_rows (m K : Nat) : Rows 2 (2 ^ m) (evR m K) := fun k hk => by
  rw [evR_len] at hk
  rw [evR_getD hk]
  exact ⟨by rw [length_evalF, Int.toNat_natCast], evalF_bit _ _⟩
theorem evR_ent {m K i j : Nat} (hi : i < (monoTo m K).length) (hj : j < 2 ^ m) : ent (evR m K) i j = if j &&& maskN ((monoTo m K).getD i []) = maskN ((monoTo m K).getD i []) then 1 else 0 := by
  unfold ent
  rw [evR_getD hi, evalF_getD _ _ _ (by rw [Int.toNat_natCast]; exact hj)]

/-- no mask is within one that stands ahead of it -/
def triB : List Nat → Bool
  | [] => true
  | a :: l => l.all (fun b => (a &&& b) != b) && triB l
theorem triB_get : ∀ {l : List Nat}, triB l = true → ∀ k i, k < i → i < l.length → (l.getD k 0) &&& (l.getD i 0) ≠ l.getD i 0
  | a :: l, h, 0, i + 1, _, hi => by
    simp only [triB, Bool.and_eq_true] at h
    have h1 := List.all_eq_true.1 h.1 (l[i]'(by simpa using hi)) (List.getElem_mem _)
    rw [bne_iff_ne] at h1
    have e : (a :: l).getD (i + 1) 0 = l[i]'(by simpa using hi) := by simp [List.getD, show i < l.length by simpa using hi]
    rw [e]
    exact h1
  | a :: l, h, k + 1, i + 1, hk, hi => by
    simp only [triB, Bool.and_eq_true] at h
    have := triB_get h.2 k i (by omega) (by simpa using hi)
    simpa [List.getD] using this
theorem mono_tri : ∀ m : Fin 7, triB ((monoTo m.val (m.val + 1)).map maskN) = true := by decide +kernel
theorem mono_mask : ∀ m : Fin 7, ((monoTo m.val (m.val + 1)).all fun s => decide (maskN s < 2 ^ m.val)) = true := by decide +kernel
theorem mono_pre (m : Nat) {K : Nat} : ∀ d, ∃ B, monoTo m (K + d) = monoTo m K ++ B
  | 0 => ⟨[], by simp⟩
  | d + 1 => by
    obtain ⟨B, h⟩ := mono_pre m (K := K) d
    exact ⟨B ++ segF m (K + d), by rw [show K + (d + 1) = (K + d) + 1 by omega, monoTo_succ, h, List.append_assoc]; rfl⟩
theorem mono_all {m K : Nat} (hK : K ≤ m + 1) : ∃ B, monoTo m (m + 1) = monoTo m K ++ B := by
  obtain ⟨B, h⟩ := mono_pre m (K := K) (m + 1 - K)
  exact ⟨B, by rw [← h, show K + (m + 1 - K) = m + 1 by omega]⟩
theorem mono_in {m K i : Nat} (hK : K ≤ m + 1) (hi : i < (monoTo m K).length) : (monoTo m K).getD i [] ∈ monoTo m (m + 1) := by
  obtain ⟨B, h⟩ := mono_all hK
  rw [h, List.mem_append]
  exact .inl (getD_mem_nil hi)
theorem mono_lt {m K i : Nat} (hm : m ≤ 6) (hK : K ≤ m + 1) (hi : i < (monoTo m K).length) : maskN ((monoTo m K).getD i []) < 2 ^ m := by
  have h := List.all_eq_true.1 (mono_mask ⟨m, by omega⟩) _ (mono_in hK hi)
  exact of_decide_eq_true h
theorem ev_indep {m K : Nat} (hm : m ≤ 6) (hK : K ≤ m + 1) : Indep (refOps 2 1 []) 2 (ent (evR m K)) (evR m K).length := by
  obtain ⟨B, hB⟩ := mono_all hK
  have ht := mono_tri ⟨m, by omega⟩
  rw [evR_len]
  refine indep_tri two_fld (fun k => maskN ((monoTo m K).getD k [])) (fun k hk => ?_) (fun k i hki hi => ?_)
  · rw [evR_ent hk (mono_lt hm hK hk), Nat.and_self, if_pos rfl]
  · rw [evR_ent hi (mono_lt hm hK (by omega)), if_neg]
    have h := triB_get ht k i hki (by rw [List.length_map]; show i < (monoTo m (m + 1)).length; rw [hB, List.length_append]; omega)
    have e : ∀ t, t < (monoTo m K).length → ((monoTo m (m + 1)).map maskN).getD t 0 = maskN ((monoTo m K).getD t []) := fun t htl => by
      rw [hB, List.map_append]
      simp [List.getD, List.getElem?_append_left, htl]
    have h' : ((monoTo m (m + 1)).map maskN).getD k 0 &&& ((monoTo m (m + 1)).map maskN).getD i 0 ≠ ((monoTo m (m + 1)).map maskN).getD i 0 := h
    rw [e k (by omega), e i hi] at h'
    exact h'
theorem ev_dim {m K : Nat} (hm : m ≤ 6) (hK : K ≤ m + 1) : (canonL (refOps 2 1 []) (evR m K) (2 ^ m)).length = (monoTo m K).length := by
  have hR := evR_rows m K
  have hc := canon_rref two_fld hR
  have h1 := indep_span two_fld (ev_indep hm hK) (B := canonL (refOps 2 1 []) (evR m K) (2 ^ m)) (fun i hi => hc.2.2 i hi)
  have h2 := (elimTo_piv (refOps 2 1 []) (evR m K) (2 ^ m)).1
  have h3 : (pivL (refOps 2 1 []) (evR m K) (2 ^ m)).length = (canonL (refOps 2 1 []) (evR m K) (2 ^ m)).length := hc.1.len
  have h4 : (pivL (refOps 2 1 []) (evR m K) (2 ^ m)).length ≤ (evR m K).length := h2
  rw [evR_len] at h1 h4
  omega

/-- sums of bits -/
def parTo (f : Nat → Int) : Nat → Int
  | 0 => 0
  | n + 1 => (parTo f n + f n) % 2
theorem parTo_bit (f : Nat → Int) : ∀ n, parTo f n = 0 ∨ parTo f n = 1
  | 0 => .inl rfl
  | n + 1 => by rw [parTo]; omega
theorem sumTo_par {f : Nat → Int} (hf : ∀ i, f i = 0 ∨ f i = 1) : ∀ n, sumTo (refOps 2 1 []) f n = parTo f n
  | 0 => rfl
  | n + 1 => by
    rw [sumTo, sumTo_par hf n, parTo]
    show addF 2 1 _ _ = _
    rw [add21]
    have e : ∀ x : Int, x = 0 ∨ x = 1 → inQ 2 x = x := fun x h => by rcases h with rfl | rfl <;> decide
    rw [e _ (parTo_bit f n), e _ (hf n)]
theorem mul21_bit {x y : Int} (hx : x = 0 ∨ x = 1) (hy : y = 0 ∨ y = 1) : (refOps 2 1 []).mul x y = x * y := by
  show mulR 2 1 [] x y = _
  rw [mul21]
  rcases hx with rfl | rfl <;> rcases hy with rfl | rfl <;> decide
theorem mask_even : ∀ m : Fin 7, ∀ u : Fin 64, u.val + 1 < 2 ^ m.val → parTo (fun p => if p &&& u.val = u.val then 1 else 0) (2 ^ m.val) = 0 := by decide +kernel
theorem mono_or : ∀ m : Fin 7, ((monoTo m.val (m.val + 1)).all fun s => (monoTo m.val (m.val + 1)).all fun t => !(decide (s.length + t.length < m.val)) || decide ((maskN s ||| maskN t) + 1 < 2 ^ m.val)) = true := by decide +kernel
theorem and_or_iff (p a b : Nat) : (p &&& (a ||| b) = a ||| b) ↔ (p &&& a = a ∧ p &&& b = b) := by
  constructor
  · intro h
    have hk : ∀ i, (p.testBit i && (a.testBit i || b.testBit i)) = (a.testBit i || b.testBit i) := fun i => by
      have := congrArg (fun x => x.testBit i) h
      simpa [Nat.testBit_and, Nat.testBit_or] using this
    refine ⟨Nat.eq_of_testBit_eq fun i => ?_, Nat.eq_of_testBit_eq fun i => ?_⟩
    · rw [Nat.testBit_and]
      have := hk i
      cases h1 : p.testBit i <;> cases h2 : a.testBit i <;> cases h3 : b.testBit i <;> simp_all
    · rw [Nat.testBit_and]
      have := hk i
      cases h1 : p.testBit i <;> cases h2 : a.testBit i <;> cases h3 : b.testBit i <;> simp_all
  · rintro ⟨h1, h2⟩
    have h1' : ∀ i, (p.testBit i && a.testBit i) = a.testBit i := fun i => by
      have := congrArg (fun x => x.testBit i) h1
      simpa [Nat.testBit_and] using this
    have h2' : ∀ i, (p.testBit i && b.testBit i) = b.testBit i := fun i => by
      have := congrArg (fun x => x.testBit i) h2
      simpa [Nat.testBit_and] using this
    refine Nat.eq_of_testBit_eq fun i => ?_
    rw [Nat.testBit_and, Nat.testBit_or]
    have k1 := h1' i
    have k2 := h2' i
    cases h1 : p.testBit i <;> cases h2 : a.testBit i <;> cases h3 : b.testBit i <;> simp_all
theorem ev_orth {m K K' : Nat} (hm : m ≤ 6) (hK : K ≤ m + 1) (hK' : K' ≤ m + 1) (h : K + K' ≤ m + 1) {i : Nat} (hi : i < (evR m K').length) : Orth (refOps 2 1 []) 2 (evR m K) (2 ^ m) (ent (evR m K') i) := by
  rw [evR_len] at hi
  have hR := evR_rows m K'
  refine ⟨fun k hk => ?_, fun j hj => ent_wide hR hj, hR.r (by omega) i⟩
  rw [evR_len] at hk
  have hs := mono_mem (m := m) hm hK (getD_mem_nil hk)
  have ht := mono_mem (m := m) hm hK' (getD_mem_nil hi)
  have hor := mono_or ⟨m, by omega⟩
  have hor1 := List.all_eq_true.1 (List.all_eq_true.1 hor _ (mono_in hK hk)) _ (mono_in hK' hi)
  have hu : (maskN ((monoTo m K).getD k []) ||| maskN ((monoTo m K').getD i [])) + 1 < 2 ^ m := by
    simp only [Bool.or_eq_true, Bool.not_eq_true', decide_eq_false_iff_not, decide_eq_true_eq] at hor1
    rcases hor1 with h1 | h1
    · exfalso; apply h1; have := hs.1; have := ht.1; omega
    · exact h1
  have hmu : 2 ^ m ≤ 64 := Nat.le_trans (Nat.pow_le_pow_right (by omega) hm) (by decide)
  have hev := mask_even ⟨m, by omega⟩ ⟨maskN ((monoTo m K).getD k []) ||| maskN ((monoTo m K').getD i []), by omega⟩ hu
  have hev' : parTo (fun p => if p &&& (maskN ((monoTo m K).getD k []) ||| maskN ((monoTo m K').getD i [])) = (maskN ((monoTo m K).getD k []) ||| maskN ((monoTo m K').getD i [])) then 1 else 0) (2 ^ m) = 0 := hev
  rw [← sumTo_par (fun p => by split; exact .inr rfl; exact .inl rfl)] at hev'
  rw [← hev']
  refine sumTo_congr fun p hp => ?_
  rw [evR_ent hk hp, evR_ent hi hp]
  have key := and_or_iff p (maskN ((monoTo m K).getD k [])) (maskN ((monoTo m K').getD i []))
  by_cases h1 : p &&& maskN ((monoTo m K).getD k []) = maskN ((monoTo m K).getD k [])
  · by_cases h2 : p &&& maskN ((monoTo m K').getD i []) = maskN ((monoTo m K').getD i [])
    · rw [if_pos h1, if_pos h2, if_pos (key.2 ⟨h1, h2⟩)]; exact mul21_bit (.inr rfl) (.inr rfl)
    · rw [if_pos h1, if_neg h2, if_neg (fun h => h2 (key.1 h).2)]; exact mul21_bit (.inr rfl) (.inl rfl)
  · rw [if_neg h1, if_neg (fun h => h1 (key.1 h).1), two_fld.zero_mul]
theorem mono_sum : ∀ m : Fin 7, ∀ K : Fin 8, K.val ≤ m.val + 1 → (monoTo m.val K.val).length + (monoTo m.val (m.val + 1 - K.val)).length = 2 ^ m.val := by decide +kernel
/-- the dual of a Reed-Muller code is one -/
theorem ev_dual {m K : Nat} (hm : m ≤ 6) (hK : K ≤ m + 1) : nullL (refOps 2 1 []) (evR m K) (2 ^ m) = canonL (refOps 2 1 []) (evR m (m + 1 - K)) (2 ^ m) := by
  have hR := evR_rows m K
  have hR' := evR_rows m (m + 1 - K)
  have hc := canon_rref two_fld hR'
  have hn := null_rref two_fld hR
  refine (inside_eq two_fld hc.1 hn (fun i hi => ?_) ?_).symm
  · refine (null_span two_fld hR _).2 ?_
    refine Orth.span two_fld (B := evR m (m + 1 - K)) (fun k hk => ev_orth hm hK (by omega) (by omega) hk) (hc.2.1 i hi)
  · have h1 := null_dim two_fld hR
    rw [ev_dim hm hK] at h1
    rw [ev_dim hm (by omega)]
    have h2 : (monoTo m K).length + (monoTo m (m + 1 - K)).length = 2 ^ m := mono_sum ⟨m, by omega⟩ ⟨K, by omega⟩ hK
    omega
end Go.Proofs.Ytdbpbmehcifjpaa

/- ref11.SameLists; law15's alive. -/
namespace Go.Proofs.Ytdbpbmehcifjpaa
open Go.RowKit
set_option linter.unusedVariables false
set_option maxRecDepth 100000

theorem eval_known : evalSpec 2 [0, 1] = ([0, 0, 0, 1], 0) := by decide
set_option maxHeartbeats 4000000 in
theorem alive15_any (w : World) : Calls Try.prog 14 #[] w (RetB w true) := by
  have hsi := SI.lit w [0, 1] (by simp) (fun k => by match k with
    | 0 => exact I64.zero
    | 1 => exact I64.one
    | k + 2 => exact I64.zero)
  have HS : Hid (SI (w.alloc (.cells #[.int .i64 0, .int .i64 1] 3)) (.slice (some ⟨w.heap.size, 0, none⟩) 2 2) [0, 1]) := hsi
  clear hsi
  go_enter Try.func14, Try.ntmps14
  go_wp2_with fail
  refine (eval_any _ _ _ [0, 1] HS.out).mono ?_
  rintro e w1 ⟨u, rfl, hs, _, hb1⟩
  rw [eval_known] at hs
  obtain ⟨A, c, rfl, hs⟩ := hs
  obtain ⟨ad, x0, rfl, hc0, _, HX0⟩ := hs.elt0 (by simp)
  obtain ⟨ad', x1, e1, hc1, _, HX1⟩ := hs.eltL 0 (by simp)
  obtain rfl := Option.some.inj e1
  obtain ⟨ad', x2, e2, hc2, _, HX2⟩ := hs.eltL 1 (by simp)
  obtain rfl := Option.some.inj e2
  obtain ⟨ad', x3, e3, hc3, _, HX3⟩ := hs.eltL 2 (by simp)
  obtain rfl := Option.some.inj e3
  obtain rfl : 0 = x0 := HX0.out
  obtain rfl : 0 = x1 := HX1.out
  obtain rfl : 0 = x2 := HX2.out
  obtain rfl : 1 = x3 := HX3.out
  simp only [Nat.zero_add, Nat.reduceAdd] at hc1 hc2 hc3
  have HB1 := Lib.hid hb1; clear hb1 e1 e2 e3 hs
  rw [eval_known]
  go_wp2_with fail
  go_ret
  exact ⟨rfl, bl_trans (bl_alloc _ _) HB1.out⟩
end Go.Proofs.Ytdbpbmehcifjpaa

/- ReedMuller: the program's answer and the document's are the same, and the dimension. -/
namespace Go.Proofs.Ytdbpbmehcifjpaa
open Go.RowKit
set_option linter.unusedVariables false
set_option maxRecDepth 100000

theorem rm_both (r m : Int) (hr : I64 r) (hm : I64 m) : ∃ (P M : Int) (Mod : List Int) (n : Int) (gen : List (List Int)) (er : Int),
    Hid (∀ w, Calls Try.prog 10 #[.int .i64 r, .int .i64 m] w (RetCE w P M Mod n gen er)) ∧ Hid (∀ w, Calls Try.prog 11 #[.int .i64 r, .int .i64 m] w (RetCE w P M Mod n gen er)) ∧
    (er = 0 → gen.length = (monoSpec r m).1.length ∧ gen.length ≤ 64) := by
  by_cases h : m < 0 ∨ 6 < m ∨ r < -1 ∨ m < r
  · have e : monoSpec r m = ([], 6) := by unfold monoSpec; rw [if_pos h]
    have hb : (monoSpec r m).2 ≠ 0 := by rw [e]; decide
    exact ⟨0, 0, [], 0, [], (monoSpec r m).2, hid' fun w => cRM_bad w r m hr hm hb, hid' fun w => rRM_bad w r m hb, fun h => absurd h hb⟩
  · refine ⟨2, 1, [], ((2 ^ m.toNat : Nat) : Int), canonL (refOps 2 1 []) (rmRows r m) (2 ^ m.toNat), 0, hid' fun w => cRM_ok w r m _ rfl (by omega) (by omega) (by omega) (by omega), hid' fun w => rRM_ok w r m _ rfl (by omega) (by omega) (by omega) (by omega), fun _ => ?_⟩
    have e1 : (canonL (refOps 2 1 []) (rmRows r m) (2 ^ m.toNat)).length = (monoTo m.toNat (r + 1).toNat).length := by
      rw [rm_ev (by omega) (by omega) (by omega) (by omega)]
      exact ev_dim (by omega) (by omega)
    have e2 : (monoSpec r m).1 = monoTo m.toNat (r + 1).toNat := by rw [rm_ok (by omega) (by omega) (by omega) (by omega)]
    rw [e1, e2]
    exact ⟨rfl, mono_len_le (by omega) (by omega)⟩
end Go.Proofs.Ytdbpbmehcifjpaa
