/- Texts of a claim, merged: words, plain facts and walks that the last of its texts uses. -/
import Derived.Test.YtdbpbmehcifjpaaQ1
import Derived.Test.YtdbpbmehcifjpaaQ3
import Derived.Test.YtdbpbmehcifjpaaQ4
import Derived.Test.YtdbpbmehcifjpaaQ14
import Derived.Test.YtdbpbmehcifjpaaQ15
import Derived.Test.YtdbpbmehcifjpaaQ19
import Derived.Laws.IdiomArrays
import Derived.Lib.AppendZeros
import Derived.Deep.CutRange
import Derived.WalkMore
set_option linter.unusedSimpArgs false
set_option linter.unusedVariables false

/- From the reading of a '[2]int' argument to the words of the walks. -/
namespace Go.Proofs.Ytdbpbmehcifjpaa
set_option maxRecDepth 100000
open Go.ChangeShapes Go.WideShapes Go.ChangeAt Go.RowKit

section
variable {H : Type} {enc : TypeId × Value → H} {W : World} {base : Nat} {held : Bool}
theorem open_cell_intT {fuel : Nat} {v : Value} {x : DataW H × List MemPlace} (h : DataW.trod enc Try.prog W base (fun _ => true) held fuel 3 [v] = some x) : ∃ n, v = .int .i64 n ∧ I64 n := by
  obtain ⟨n, h1, _, h2⟩ := DataW.trod_int Try.underlying3 h
  exact ⟨n, (List.cons.inj h1).1, I64.of_wf h2⟩
/-- two cells of an array -/
theorem trod_two {fuel : Nat} {c0 c1 : Value} {x : DataW H × List MemPlace} (h : DataW.trod enc Try.prog W base (fun _ => true) held fuel 50 [c0, c1] = some x) :
    ∃ y0 y1 n, DataW.trod enc Try.prog W base (fun _ => true) held n 3 [c0] = some y0 ∧ DataW.trod enc Try.prog W base (fun _ => true) held n 3 [c1] = some y1 := by
  cases fuel with
  | zero => simp [DataW.trod] at h
  | succ n =>
    unfold DataW.trod at h
    rw [Try.underlying50] at h
    have hce : Try.prog.cellsOf 3 = 1 := by kernel_rfl
    have r2 : List.range 2 = [0, 1] := rfl
    simp [r2, hce] at h
    obtain ⟨_, h⟩ := h
    cases h0 : DataW.trod enc Try.prog W base (fun _ => true) held n 3 [c0] with
    | none => simp [h0] at h
    | some y0 =>
      cases h1 : DataW.trod enc Try.prog W base (fun _ => true) held n 3 [c1] with
      | none => simp [h0, h1] at h
      | some y1 => exact ⟨y0, y1, n, h0, h1⟩
theorem open_I2 {v : Value} {d : DataW H} {p : List MemPlace} {bs : Nat} (h : DataW.Trod enc Try.prog W base (fun _ => true) held 50 v d p) (hok : Value.okWide Try.prog W .any bs 50 v)
    (hw : ∀ n ∈ d.weights Try.prog 50, n ≤ reachBytes) : ∃ b0 b1 : Int, v = .agg #[.int .i64 b0, .int .i64 b1] := by
  have hcs : ∃ cs, v = .agg cs ∧ cs.size = 2 := by
    simp only [Value.okWide, Try.underlying50] at hok
    obtain ⟨cs, h1, h2, _⟩ := hok
    exact ⟨cs, h1, h2⟩
  obtain ⟨cs, rfl, hsz⟩ := hcs
  obtain ⟨c0, c1, rfl⟩ : ∃ c0 c1, cs = #[c0, c1] := by
    rcases cs with ⟨l⟩
    match l, hsz with
    | [c0, c1], _ => exact ⟨c0, c1, rfl⟩
  obtain ⟨fuel, hf⟩ := h
  obtain ⟨y0, y1, n, h0, h1⟩ := trod_two hf
  obtain ⟨b0, rfl, _⟩ := open_cell_intT h0
  obtain ⟨b1, rfl, _⟩ := open_cell_intT h1
  exact ⟨b0, b1, rfl⟩
end
end Go.Proofs.Ytdbpbmehcifjpaa

/- slices.Grow of nil, slices.Concat. -/
namespace Go.Proofs.Ytdbpbmehcifjpaa
open Go.RowKit
set_option linter.unusedVariables false
set_option maxRecDepth 100000

set_option maxHeartbeats 8000000 in
theorem grow_nil (w : World) (n : Nat) (h1 : 1 ≤ n) (h64 : n ≤ 1000) : Calls Try.prog 122 #[.slice none 0 0, .int .i64 (n : Int)] w (RetO w []) := by
  obtain ⟨i0, hi, hz0, hz1, hz2⟩ := info_parts Try.infoInt
  have happ := Lib.run_append_nil_zeros (P := Try.prog) w 22 3 22 3 i0 (.int .i64 0) .i64 .i64 Try.underlying22 Try.underlying3 hi hz0 n (by omega) (by rw [hz1]; decide) (by omega) (by rw [hz2]; omega)
  generalize hcap : grownCap w n 0 3 = cap2 at happ
  have hcapge : n ≤ cap2 := by rw [← hcap]; exact grownCap_ge w _ 0 _
  have hcaple : cap2 ≤ maxLen := by rw [← hcap]; exact grownCap_le_maxLen w _ 0 _ (by unfold maxLen; omega)
  generalize hZ : (Builtin.zeroCells (Value.int .i64 0).cells n ++ Builtin.zeroCells (Value.int .i64 0).cells (cap2 - n)) = Z at happ
  have hZs : Z.size = cap2 := by rw [← hZ]; simp [size_zeroCells, Value.cells]; omega
  have HB : Hid (Below w.heap.size w (w.drew.alloc (.cells Z 3))) := hid' (bl_trans (bl_drew w) (bl_alloc w.drew _))
  have HO : Hid (OI w.heap.size (w.drew.alloc (.cells Z 3)) (.slice (some ⟨w.heap.size, 0, none⟩) 0 cap2) []) := hid' (World.ownsRow_made w.drew Z cap2 (Nat.le_refl _) hcaple (by omega))
  have hn0 : ¬ (n : Int) < 0 := by omega
  have hn1 : (0 : Int) < (n : Int) := by omega
  have hn2 : decide ((0 : Int) < (n : Int)) = true := decide_eq_true hn1
  clear hcap hZ hZs hcaple hi hz0 hz1 hz2
  go_enter Try.func122, Try.ntmps122
  go_wp2_with (at_builtin; refine Lib.wpList_append_run _ rfl _ _ _ _ rfl _ _ rfl rfl _ _ happ ?_)
  go_ret
  exact ⟨_, rfl, HO.out, HB.out⟩

/-- the first k rows, one behind the other -/
def flatK (l : List (List Int)) (k : Nat) : List Int := (l.take k).flatten
theorem flatK_zero (l : List (List Int)) : flatK l 0 = [] := rfl
theorem flatK_full (l : List (List Int)) : flatK l l.length = l.flatten := by unfold flatK; rw [List.take_length]
theorem flatK_succ {l : List (List Int)} {k : Nat} (h : k < l.length) : flatK l (k + 1) = flatK l k ++ l.getD k [] := by
  unfold flatK
  rw [List.take_succ_eq_append_getElem h, List.flatten_append]
  simp [List.getD, h]
theorem flatK_le {l : List (List Int)} {k : Nat} : (flatK l k).length ≤ l.flatten.length := by
  unfold flatK
  conv => rhs; rw [← List.take_append_drop k l, List.flatten_append, List.length_append]
  omega
set_option maxHeartbeats 16000000 in
theorem concat_any (w : World) (v : Value) (l : List (List Int)) (hv : SS w v l) (h1 : 1 ≤ l.flatten.length) (h64 : l.flatten.length ≤ 1000) : Calls Try.prog 95 #[v] w (RetO w l.flatten) := by
  have HV := Lib.hid hv
  obtain ⟨VA, vc, rfl, _⟩ := hv
  have hl0 : 0 < l.length := by
    rcases Nat.eq_zero_or_pos l.length with h | h
    · rw [List.eq_nil_of_length_eq_zero h] at h1; simp at h1
    · exact h
  have HFS : Hid (∀ k, k < l.length → flatK l (k + 1) = flatK l k ++ l.getD k []) := hid' fun k h => flatK_succ h
  have HFF : Hid (flatK l l.length = l.flatten) := hid' (flatK_full l)
  have HFL : Hid (∀ k, (flatK l k).length ≤ l.flatten.length) := hid' fun k => flatK_le
  have HF0 : Hid (flatK l 0 = []) := hid' rfl
  obtain ⟨N, hN⟩ : ∃ N, N = l.flatten.length := ⟨_, rfl⟩
  rw [← hN] at h1 h64 HFL
  have HNN := Lib.hid hN; clear hN
  obtain ⟨r, hr⟩ : ∃ r, r = l.length := ⟨_, rfl⟩
  rw [← hr] at HV HFS HFF hl0 ⊢
  have HR := Lib.hid hr; clear hr
  have hlm : r ≤ 17592186044416 := by rw [HR.out]; exact HV.out.len'
  go_enter Try.func95, Try.ntmps95
  go_wp2_with fail
  go_loop [3, 11] (fun sz i => ∃ (k s : Nat), k ≤ r ∧ i = .int .i64 (k : Int) ∧ sz = .int .i64 (s : Int) ∧ Hid ((flatK l k).length = s)) (fun _ i => r - (intOf i).toNat)
  case atStart => exact ⟨0, 0, Nat.zero_le _, rfl, rfl, by rw [HF0.out]; rfl⟩
  case round =>
    obtain ⟨k, s, hk, rfl, rfl, HS⟩ := hrel
    by_cases hkr : k < r
    · obtain ⟨ad, Ak, ck, row, rfl, hc, HRo, HRE⟩ := HV.out.eltA (k := k) (by rw [← HR.out]; exact hkr)
      have HS1 : Hid ((flatK l (k + 1)).length = s + row.length) := hid' (by rw [HFS.out k hkr, List.length_append, HS.out, HRE.out])
      have hle : s + row.length ≤ 1000 := by have := HFL.out (k + 1); rw [HS1.out] at this; omega
      obtain ⟨m, hm⟩ : ∃ m, m = row.length := ⟨_, rfl⟩
      rw [← hm] at HS1 hle hc
      clear hm
      have hw1 : IntKind.i64.wrap ((s : Int) + (m : Int)) = ((s + m : Nat) : Int) := by rw [← Int.natCast_add]; exact IntWalk.i64_in _ (by omega)
      have hw2 : wrap64 ((s : Int) + (m : Int)) = ((s + m : Nat) : Int) := by unfold wrap64; omega
      have hn0 : ¬ (((s + m : Nat) : Int)) < 0 := by omega
      go_wp2_with fail
      go_round
      case rel => exact ⟨k + 1, s + m, by omega, by go_num, by first | rfl | (push_cast; rfl), HS1⟩
      case measure => simp [intOf]; omega
    · obtain rfl : r = k := by omega
      obtain rfl : N = s := by rw [HNN.out, ← HS.out, HFF.out]
      go_wp2_with fail
      refine (grow_nil _ N h1 h64).mono ?_
      rintro e w2 ⟨u2, rfl, ho2, hb2⟩
      have HO2 : Hid (OI w.heap.size w2 u2 (flatK l 0)) := hid' (by rw [HF0.out]; exact ho2)
      have HB2 := Lib.hid hb2
      clear ho2 hb2
      go_wp2_with fail
      go_loopw [6, 27] (fun u i wr => ∃ (k : Nat) (UA : Option Addr) (s uc : Nat), k ≤ r ∧ i = .int .i64 (k : Int) ∧ u = .slice UA s uc ∧ Hid (OI w.heap.size wr (.slice UA s uc) (flatK l k)) ∧ Hid (Below w.heap.size w wr)) (fun _ i _ => r - (intOf i).toNat)
      case atStart =>
        obtain ⟨UA, uc, e⟩ := HO2.out.form'
        exact ⟨0, UA, _, uc, Nat.zero_le _, rfl, e, by rw [← e]; exact HO2, HB2⟩
      case round =>
        clear HO2 HB2
        obtain ⟨k, UA, s, uc, hk, rfl, rfl, HO, HB⟩ := hrel
        by_cases hkr : k < r
        · obtain ⟨ad, Ak, ck, row, rfl, hc, HRo, HRE⟩ := (HV.out.below HB.out (Nat.le_refl _)).eltA (k := k) (by rw [← HR.out]; exact hkr)
          have HFK := Lib.hid (HFS.out k hkr)
          rw [HRE.out] at HFK
          have hle1 := HFL.out (k + 1)
          rw [HFK.out, List.length_append] at hle1
          go_wp2_with (at_builtin; refine wpList_catI rfl _ _ rfl w.heap.size _ (flatK l k) rfl HO.out _ row rfl HRo.out.si (by omega) HB.out.size ?_; (intro v1 w5 ho hg hv1); (rw [← HFK.out] at ho); (have HB5 := Lib.hid (HO.out.bgrown HB.out HB.out.size hg)); (obtain ⟨A5, c5, rfl⟩ := ho.form'); (have HO5 := Lib.hid ho); clear ho hg hv1)
          exact ⟨⟨k + 1, A5, _, c5, by omega, by push_cast; rfl, rfl, HO5, HB5⟩, by simp only [intOf]; omega⟩
        · obtain rfl : r = k := by omega
          rw [HFF.out] at HO
          go_wp2_with fail
          go_ret
          exact ⟨_, rfl, HO.out, HB.out⟩
end Go.Proofs.Ytdbpbmehcifjpaa

/- Plain: rows filled one by one. -/
namespace Go.Proofs.Ytdbpbmehcifjpaa
set_option linter.unusedVariables false
/-- rows of which the first k are filled -/
def stS (N : Nat) (f : Nat → List Int) (k : Nat) : List (List Int) := (List.range N).map fun p => if p < k then f p else []
theorem stS_zero (N : Nat) (f : Nat → List Int) : stS N f 0 = List.replicate N [] := by simp [stS, List.map_const']
theorem stS_full (N : Nat) (f : Nat → List Int) : stS N f N = (List.range N).map f := List.map_congr_left fun p hp => by rw [if_pos (by simpa using hp)]
theorem stS_len (N : Nat) (f : Nat → List Int) (k : Nat) : (stS N f k).length = N := by simp [stS]
theorem stS_set {N : Nat} {f : Nat → List Int} {k : Nat} (h : k < N) : (stS N f k).set k (f k) = stS N f (k + 1) := by
  apply List.ext_getElem?
  intro i
  by_cases hi : i < N
  · by_cases e : k = i
    · subst e; simp [stS, hi]
    · have h2 : (i < k + 1) = (i < k) := by simp; omega
      simp [stS, List.getElem?_set, e, hi, h2]
  · simp [stS, List.getElem?_set, hi]
theorem stS_nil {N : Nat} {f : Nat → List Int} {k : Nat} (h : k < N) : (stS N f k).set k [] = stS N f k := by
  apply List.ext_getElem?
  intro i
  by_cases hi : i < N
  · by_cases e : k = i
    · subst e; simp [stS, hi]
    · simp [stS, List.getElem?_set, e, hi]
  · simp [stS, List.getElem?_set, hi]
end Go.Proofs.Ytdbpbmehcifjpaa

/- classic.shifts. -/
namespace Go.Proofs.Ytdbpbmehcifjpaa
open Go.RowKit
set_option linter.unusedVariables false
set_option maxRecDepth 100000

/-- the box of a field, and behind it the place for a code -/
structure FCR (w w1 : World) (P M : Int) (mv : Value) : Prop where
  fb : FBox w w1 P M mv
  q : Blk w1 (w.heap.size + 1) 27 [.int .i64 0, .int .i64 0, .slice none 0 0, .int .i64 0, .slice none 0 0]
theorem FCR.on {w w1 w2 : World} {P M : Int} {mv : Value} (h : FCR w w1 P M mv) (hb : Below w1.heap.size w1 w2) : FCR w w2 P M mv := ⟨h.fb.on hb, h.q.belowS hb⟩
theorem FCR.mk' (w : World) (P M : Int) (mv : Value) : ∃ w1, (w.alloc (.cells #[.int .i64 P, .int .i64 M, mv] 24)).alloc (.cells #[.int .i64 0, .int .i64 0, .slice none 0 0, .int .i64 0, .slice none 0 0] 27) = w1 ∧ FCR w w1 P M mv := by
  refine ⟨_, rfl, (FBox.mk' w P M mv).on (bl_alloc _ _), ?_⟩
  have := Blk.new (w.alloc (.cells #[.int .i64 P, .int .i64 M, mv] 24)) 27 [.int .i64 0, .int .i64 0, .slice none 0 0, .int .i64 0, .slice none 0 0]
  rw [World.size_alloc] at this
  exact this
/-- the i-th cyclic shift -/
def shR (ws : List Int) (i : Nat) : List Int := ws.drop (ws.length - i) ++ ws.take (ws.length - i)
def shL (ws : List Int) : List (List Int) := (List.range ws.length).map (shR ws)
theorem shR_len (ws : List Int) (i : Nat) : (shR ws i).length = ws.length := by unfold shR; rw [List.length_append, List.length_drop, List.length_take]; omega
theorem shL_len (ws : List Int) : (shL ws).length = ws.length := by simp [shL]
theorem addr_addI (a : Addr) (i k : Nat) : (a.add i).add k = a.add (i + k) := by
  unfold Addr.add
  by_cases h1 : i = 0 <;> by_cases h2 : k = 0 <;> simp [h1, h2, Nat.add_assoc]
theorem SI.dropv {w : World} {A : Option Addr} {n c : Nat} {xs : List Int} (h : SI w (.slice A n c) xs) {i : Nat} (hi : i ≤ n) :
    SI w (.slice (if c = i then A else Option.map (fun x => x.add i) A) (n - i) (c - i)) (xs.drop i) := by
  obtain ⟨A', c', e, h⟩ := h
  cases e
  have hl : (xs.drop i).length = xs.length - i := List.length_drop
  refine ⟨_, c - i, by rw [hl], by have := h.len; omega, by have := h.cap; omega, fun k hk => ?_, fun k => ?_⟩
  · rw [hl] at hk
    obtain ⟨ad, rfl, hc⟩ := h.cell (i + k) (by omega)
    have hci : ¬ c = i := by have := h.cap; omega
    refine ⟨ad.add i, by rw [if_neg hci]; rfl, ?_⟩
    rw [show (xs.drop i).getD k 0 = xs.getD (i + k) 0 by simp [List.getD], addr_addI]
    exact hc
  · rw [show (xs.drop i).getD k 0 = xs.getD (i + k) 0 by simp [List.getD]]
    exact h.wf (i + k)
theorem SI.takev {w : World} {A : Option Addr} {n c : Nat} {xs : List Int} (h : SI w (.slice A n c) xs) {i : Nat} (hi : i ≤ n) : SI w (.slice A i c) (xs.take i) := by
  obtain ⟨A', c', e, h⟩ := h
  cases e
  have hl : (xs.take i).length = i := by rw [List.length_take]; omega
  refine ⟨_, c, by rw [hl], by have := h.len; omega, by have := h.cap; omega, fun k hk => ?_, fun k => ?_⟩
  · rw [hl] at hk
    obtain ⟨ad, rfl, hc⟩ := h.cell k (by omega)
    exact ⟨ad, rfl, by rw [show (xs.take i).getD k 0 = xs.getD k 0 by simp [List.getD, List.getElem?_take, hk]]; exact hc⟩
  · by_cases hk : k < i
    · rw [show (xs.take i).getD k 0 = xs.getD k 0 by simp [List.getD, List.getElem?_take, hk]]; exact h.wf k
    · rw [getD_len (by rw [hl]; omega)]; exact I64.zero
theorem SS.twoI {w : World} {g : Nat} {u0 u1 : Value} {x0 x1 : List Int} (h : Blk w g 22 [u0, u1]) (h0 : SI w u0 x0) (h1 : SI w u1 x1) : SS w (.slice (some ⟨g, 0, none⟩) 2 2) [x0, x1] := by
  refine ⟨some ⟨g, 0, none⟩, 2, rfl, by simp, by simp, fun k hk => ?_⟩
  match k, hk with
  | 0, _ => exact ⟨⟨g, 0, none⟩, u0, rfl, by have := h.cell 0; simpa [Addr.add] using this, h0⟩
  | 1, _ => exact ⟨⟨g, 0, none⟩, u1, rfl, by have := h.cell 1; simpa [Addr.add] using this, h1⟩
theorem shR_all {ws : List Int} {Q : Int → Prop} (h0 : Q 0) (h : ∀ i, Q (ws.getD i 0)) (k i : Nat) : Q ((shR ws k).getD i 0) := by
  unfold shR
  by_cases hi : i < (ws.drop (ws.length - k)).length
  · have e2 : (ws.drop (ws.length - k) ++ ws.take (ws.length - k)).getD i 0 = ws.getD (ws.length - k + i) 0 := by
      simp only [List.getD]; rw [List.getElem?_append_left hi, List.getElem?_drop]
    rw [e2]; exact h _
  · have e2 : (ws.drop (ws.length - k) ++ ws.take (ws.length - k)).getD i 0 = (ws.take (ws.length - k)).getD (i - (ws.drop (ws.length - k)).length) 0 := by
      simp only [List.getD]; rw [List.getElem?_append_right (by omega)]
    rw [e2]
    by_cases h3 : i - (ws.drop (ws.length - k)).length < ws.length - k
    · rw [show (ws.take (ws.length - k)).getD (i - (ws.drop (ws.length - k)).length) 0 = ws.getD (i - (ws.drop (ws.length - k)).length) 0 by simp only [List.getD]; rw [List.getElem?_take, if_pos h3]]
      exact h _
    · rw [getD_len (by rw [List.length_take]; omega)]; exact h0
theorem shL_rows {q : Int} (hq : 0 < q) {ws : List Int} (h : ∀ i, 0 ≤ ws.getD i 0 ∧ ws.getD i 0 < q) : Rows q ws.length (shL ws) := fun k hk => by
  rw [shL_len] at hk
  have e : (shL ws).getD k [] = shR ws k := by simp [shL, List.getD, hk]
  rw [e]
  refine ⟨shR_len _ _, fun i => ?_⟩
  unfold shR
  by_cases hi : i < (ws.drop (ws.length - k)).length
  · have e2 : (ws.drop (ws.length - k) ++ ws.take (ws.length - k)).getD i 0 = ws.getD (ws.length - k + i) 0 := by
      simp only [List.getD]; rw [List.getElem?_append_left hi, List.getElem?_drop]
    rw [e2]; exact h _
  · have e2 : (ws.drop (ws.length - k) ++ ws.take (ws.length - k)).getD i 0 = (ws.take (ws.length - k)).getD (i - (ws.drop (ws.length - k)).length) 0 := by
      simp only [List.getD]; rw [List.getElem?_append_right (by omega)]
    rw [e2]
    by_cases h3 : i - (ws.drop (ws.length - k)).length < ws.length - k
    · rw [show (ws.take (ws.length - k)).getD (i - (ws.drop (ws.length - k)).length) 0 = ws.getD (i - (ws.drop (ws.length - k)).length) 0 by simp only [List.getD]; rw [List.getElem?_take, if_pos h3]]
      exact h _
    · rw [getD_len (by rw [List.length_take]; omega)]; omega

set_option maxHeartbeats 32000000 in
theorem shifts_ok (w : World) (P M : Int) (n : Nat) (mv v : Value) (Mod ws : List Int) (hm : SI w mv Mod) (hv : SI w v ws) (hlen : ws.length = n) (h1 : 1 ≤ n) (h64 : n ≤ 64) (hf : FieldP P M Mod) (hr : ∀ i, 0 ≤ ws.getD i 0 ∧ ws.getD i 0 < orderF P M) :
    Calls Try.prog 59 #[.agg #[.int .i64 P, .int .i64 M, mv], v] w (RetCE w P M Mod n (canonL (refOps P M Mod) (shL ws) n) 0) := by
  have hR : Rows (orderF P M) n (shL ws) := by have h := shL_rows (show 0 < orderF P M by have := one_lt_order hf.1; omega) hr; rwa [hlen] at h
  have HNEW := Lib.hid (fun (w' : World) (rv : Value) (hb : Below w.heap.size w w') (hs : SS w' rv (shL ws)) => cNew_ok w' P M n mv rv Mod _ (hm.below hb (Nat.le_refl _)) hs (matE_mk hf (by omega) (by rw [shL_len]; omega) hR) h1 h64)
  have HV := Lib.hid hv
  obtain ⟨VA, vc, rfl, _⟩ := hv
  rw [hlen] at HV ⊢
  have HFL : Hid (stS n (shR ws) n = shL ws) := hid' (by rw [stS_full, shL, hlen])
  have HFD : Hid (∀ i, i < n → (([ws.drop (n - i), ws.take (n - i)] : List (List Int)).flatten = shR ws i) ∧ ([ws.drop (n - i), ws.take (n - i)] : List (List Int)).flatten.length = n) := hid' fun i hi => by
    have e : ([ws.drop (n - i), ws.take (n - i)] : List (List Int)).flatten = shR ws i := by unfold shR; rw [hlen]; simp
    exact ⟨e, by rw [e, shR_len, hlen]⟩
  have HSL := Lib.hid hlen
  unfold RetCE at HNEW
  generalize canonL (refOps P M Mod) (shL ws) n = C at *
  clear hf hr hR hm hlen
  have hmk := fun (w : World) => run_mkR n (by omega) w
  obtain ⟨w1, e1, hq⟩ := FCR.mk' w P M mv
  have HQ := Lib.hid hq; have HE1 := Lib.hid e1; clear hq e1
  go_enter Try.func59, Try.ntmps59
  go_upto_region 1 with fail
  rw [HE1.out]
  clear HE1
  have HO0 : Hid (OS w1.heap.size (fun g => g < w1.heap.size) (w1.alloc (.cells (madeCells #[.slice none 0 0] n) 22)) (.slice (some ⟨w1.heap.size, 0, none⟩) n n) (stS n (shR ws) 0)) := hid' (by rw [stS_zero]; exact OS.madeR w1 n (Nat.le_refl _) (by omega))
  have HB0 := Lib.hid (bl_alloc w1 (.cells (madeCells #[.slice none 0 0] n) 22))
  obtain ⟨gv, hgv⟩ : ∃ gv, gv = w1.heap.size := ⟨_, rfl⟩
  have HGV := Lib.hid hgv
  go_wp2_with fail
  rw [← hgv] at HO0 ⊢
  clear hmk hgv
  go_loopw [13] (fun i wr => ∃ k : Nat, k ≤ n ∧ i = .int .i64 (k : Int) ∧ Hid (OS gv (fun g => g < gv) wr (.slice (some ⟨gv, 0, none⟩) n n) (stS n (shR ws) k)) ∧ Hid (Below w1.heap.size w1 wr) ∧ gv < wr.heap.size) (fun i _ => n - (intOf i).toNat)
  case atStart => exact ⟨0, Nat.zero_le _, rfl, HO0, HB0, (HO0.out.lt (g := gv) rfl).2⟩
  case round =>
    clear HO0 HB0
    obtain ⟨k, hk, rfl, HO, HB, hgl⟩ := hrel
    by_cases hkn : k < n
    · obtain ⟨m, hm⟩ : ∃ m, n - k = m := ⟨_, rfl⟩
      have HFK := Lib.hid (HFD.out k hkn)
      rw [hm] at HFK
      have hnm : (n : Int) - (k : Int) = (m : Int) := by omega
      have hmn : m ≤ n := by omega
      have hwm : IntKind.i64.wrap (m : Int) = (m : Int) := IntWalk.i64_in _ (by omega)
      have hmi : (m : Int) ≤ (n : Int) := by omega
      have hvc : n ≤ vc := by
        obtain ⟨A', c', e, h⟩ := HV.out
        cases e
        have := h.cap
        rw [HSL.out] at this; exact this
      have hmc : (m : Int) ≤ (vc : Int) := by omega
      have HWR := Lib.hid (HV.out.below (bl_trans HQ.out.fb.bel HB.out) (Nat.le_refl _))
      have HLS : Hid ((stS n (shR ws) k).length = n) := hid' (stS_len _ _ _)
      go_wp2_with fail
      refine Kept.start (S := fun _ => True) (by kernel_rfl) (trivial) (fun hHeld => ?_)
      change Kept _ _ _ _ 18 _ _ _
      refine Kept.take (i := 0) (v := ?_) rfl (by kernel_rfl) (by kernel_rfl) (by kernel_rfl) (fun _ _ _ h => h) (Or.inl ⟨by kernel_rfl, ?_⟩) hHeld ?_
      rotate_left
      · intro w' hSw; (try dsimp only at hSw); first | (go_simp; done) | (go_simp; with_reducible rfl)
      try simp only [List.getElem_toArray, List.getElem_cons_zero, List.getElem_cons_succ, Act.put, List.setIfInBounds_toArray, List.set_cons_zero, List.set_cons_succ]
      refine Kept.take (i := 1) (v := ?_) rfl (by kernel_rfl) (by kernel_rfl) (by kernel_rfl) (fun _ _ _ h => h) (Or.inl ⟨by kernel_rfl, ?_⟩) hHeld ?_
      rotate_left
      · intro w' hSw; (try dsimp only at hSw); first | (go_simp; done) | (go_simp; with_reducible rfl)
      try simp only [List.getElem_toArray, List.getElem_cons_zero, List.getElem_cons_succ, Act.put, List.setIfInBounds_toArray, List.set_cons_zero, List.set_cons_succ]
      refine Kept.take (i := 2) (v := ?_) rfl (by kernel_rfl) (by kernel_rfl) (by kernel_rfl) (fun _ _ _ h => h) (Or.inl ⟨by kernel_rfl, ?_⟩) hHeld ?_
      rotate_left
      · intro w' hSw; (try dsimp only at hSw); first | (go_simp; done) | (go_simp; with_reducible rfl)
      try simp only [List.getElem_toArray, List.getElem_cons_zero, List.getElem_cons_succ, Act.put, List.setIfInBounds_toArray, List.set_cons_zero, List.set_cons_succ]
      refine Kept.take (i := 3) (v := ?_) rfl (by kernel_rfl) (by kernel_rfl) (by kernel_rfl) (fun _ _ _ h => h) (Or.inl ⟨by kernel_rfl, ?_⟩) hHeld ?_
      rotate_left
      · intro w' hSw; (try dsimp only at hSw); first | (go_simp; done) | (go_simp; with_reducible rfl)
      try simp only [List.getElem_toArray, List.getElem_cons_zero, List.getElem_cons_succ, Act.put, List.setIfInBounds_toArray, List.set_cons_zero, List.set_cons_succ]
      refine Kept.take (i := 4) (v := ?_) rfl (by kernel_rfl) (by kernel_rfl) (by kernel_rfl) (fun _ _ _ h => h) (Or.inl ⟨by kernel_rfl, ?_⟩) hHeld ?_
      rotate_left
      · intro w' hSw; (try dsimp only at hSw); first | (go_simp; done) | (go_simp; with_reducible rfl)
      try simp only [List.getElem_toArray, List.getElem_cons_zero, List.getElem_cons_succ, Act.put, List.setIfInBounds_toArray, List.set_cons_zero, List.set_cons_succ]
      refine Kept.take (i := 5) (v := ?_) rfl (by kernel_rfl) (by kernel_rfl) (by kernel_rfl) (fun _ _ _ h => h) (Or.inl ⟨by kernel_rfl, ?_⟩) hHeld ?_
      rotate_left
      · intro w' hSw; (try dsimp only at hSw); first | (go_simp; done) | (go_simp; with_reducible rfl)
      try simp only [List.getElem_toArray, List.getElem_cons_zero, List.getElem_cons_succ, Act.put, List.setIfInBounds_toArray, List.set_cons_zero, List.set_cons_succ]
      refine Kept.take (i := 6) (v := ?_) rfl (by kernel_rfl) (by kernel_rfl) (by kernel_rfl) (fun _ _ _ h => h) (Or.inl ⟨by kernel_rfl, ?_⟩) hHeld ?_
      rotate_left
      · intro w' hSw; (try dsimp only at hSw); first | (go_simp; done) | (go_simp; with_reducible rfl)
      try simp only [List.getElem_toArray, List.getElem_cons_zero, List.getElem_cons_succ, Act.put, List.setIfInBounds_toArray, List.set_cons_zero, List.set_cons_succ]
      refine Kept.take (i := 7) (v := ?_) rfl (by kernel_rfl) (by kernel_rfl) (by kernel_rfl) (fun _ _ _ h => h) (Or.inl ⟨by kernel_rfl, ?_⟩) hHeld ?_
      rotate_left
      · intro w' hSw; (try dsimp only at hSw); first | (go_simp; done) | (go_simp; with_reducible rfl)
      try simp only [List.getElem_toArray, List.getElem_cons_zero, List.getElem_cons_succ, Act.put, List.setIfInBounds_toArray, List.set_cons_zero, List.set_cons_succ]
      refine Kept.take (i := 8) (v := ?_) rfl (by kernel_rfl) (by kernel_rfl) (by kernel_rfl) (fun _ _ _ h => h) (Or.inl ⟨by kernel_rfl, ?_⟩) hHeld ?_
      rotate_left
      · intro w' hSw; (try dsimp only at hSw); first | (go_simp; done) | (go_simp; with_reducible rfl)
      try simp only [List.getElem_toArray, List.getElem_cons_zero, List.getElem_cons_succ, Act.put, List.setIfInBounds_toArray, List.set_cons_zero, List.set_cons_succ]
      refine Kept.take (i := 9) (v := ?_) rfl (by kernel_rfl) (by kernel_rfl) (by kernel_rfl) (fun _ _ _ h => h) (Or.inl ⟨by kernel_rfl, ?_⟩) hHeld ?_
      rotate_left
      · intro w' hSw; (try dsimp only at hSw); first | (go_simp; done) | (go_simp; with_reducible rfl)
      try simp only [List.getElem_toArray, List.getElem_cons_zero, List.getElem_cons_succ, Act.put, List.setIfInBounds_toArray, List.set_cons_zero, List.set_cons_succ]
      refine Kept.take (i := 10) (v := ?_) rfl (by kernel_rfl) (by kernel_rfl) (by kernel_rfl) (fun _ _ _ h => h) (Or.inl ⟨by kernel_rfl, ?_⟩) hHeld ?_
      rotate_left
      · intro w' hSw; (try dsimp only at hSw); first | (go_simp; done) | (go_simp; with_reducible rfl)
      try simp only [List.getElem_toArray, List.getElem_cons_zero, List.getElem_cons_succ, Act.put, List.setIfInBounds_toArray, List.set_cons_zero, List.set_cons_succ]
      refine Kept.take (i := 11) (v := ?_) rfl (by kernel_rfl) (by kernel_rfl) (by kernel_rfl) (fun _ _ _ h => h) (Or.inl ⟨by kernel_rfl, ?_⟩) hHeld ?_
      rotate_left
      · intro w' hSw; (try dsimp only at hSw); first | (go_simp; done) | (go_simp; with_reducible rfl)
      try simp only [List.getElem_toArray, List.getElem_cons_zero, List.getElem_cons_succ, Act.put, List.setIfInBounds_toArray, List.set_cons_zero, List.set_cons_succ]
      refine Kept.take (i := 12) (v := ?_) rfl (by kernel_rfl) (by kernel_rfl) (by kernel_rfl) (fun _ _ _ h => h) (Or.inl ⟨by kernel_rfl, ?_⟩) hHeld ?_
      rotate_left
      · intro w' hSw; (try dsimp only at hSw); first | (go_simp; done) | (go_simp; with_reducible rfl)
      try simp only [List.getElem_toArray, List.getElem_cons_zero, List.getElem_cons_succ, Act.put, List.setIfInBounds_toArray, List.set_cons_zero, List.set_cons_succ]
      refine Kept.take (i := 13) (v := ?_) rfl (by kernel_rfl) (by kernel_rfl) (by kernel_rfl) (fun _ _ _ h => h) (Or.inl ⟨by kernel_rfl, ?_⟩) hHeld ?_
      rotate_left
      · intro w' hSw; (try dsimp only at hSw); first | (go_simp; done) | (go_simp; with_reducible rfl)
      try simp only [List.getElem_toArray, List.getElem_cons_zero, List.getElem_cons_succ, Act.put, List.setIfInBounds_toArray, List.set_cons_zero, List.set_cons_succ]
      refine Kept.only (i := 14) (o := ?op1) (by kernel_rfl) ?ho1 (fun K hK => ?_)
      case ho1 => (conv => lhs; simp only [List.getElem?_toArray, List.getElem?_cons_succ, List.getElem?_cons_zero])
      go_simp; obtain ⟨w5, gE, e1, e2, hX, hb5⟩ := mk_boxD wr 22 [.slice (if vc = m then VA else Option.map (fun x => x.add m) VA) (n - m) (vc - m), .slice VA m vc]; rw [e1, e2]; have HS5 := Lib.hid (SS.twoI hX ((HWR.out.dropv hmn).below hb5 (Nat.le_refl _)) ((HWR.out.takev hmn).below hb5 (Nat.le_refl _))); have HB5 := Lib.hid hb5; clear e1 e2 hX hb5
      refine hK.out _ _ (trivial) (fun hHeld2 => ?_)
      clear hK K
      replace hHeld := hHeld2
      clear hHeld2
      try simp only [List.getElem_toArray, List.getElem_cons_zero, List.getElem_cons_succ, Act.put, List.setIfInBounds_toArray, List.set_cons_zero, List.set_cons_succ]
      refine Kept.only (i := 15) (by kernel_rfl) rfl (fun K hK => ?_)
      go_simp
      refine (concat_any _ _ _ HS5.out (by rw [HFK.out.2]; exact h1) (by rw [HFK.out.2]; omega)).mono ?_; rintro e w6 ⟨u6, rfl, ho6, hb6⟩; rw [HFK.out.1] at ho6; obtain ⟨UA, uc, rfl⟩ := ho6.form'; have HO6 := Lib.hid ho6; have HB6 := Lib.hid (bl_trans HB5.out hb6); have hs5 := HB5.out.size; clear ho6 hb6; have HOR := Lib.hid (HO.out.below HB6.out); obtain ⟨u0, h0, _, _⟩ := HOR.out.row (k := k) (by rw [HLS.out]; exact hkn); have f0 := HOR.out.frozen k
      refine hK.out _ _ (trivial) (fun hHeld2 => ?_)
      clear hK K
      replace hHeld := hHeld2
      clear hHeld2
      try simp only [List.getElem_toArray, List.getElem_cons_zero, List.getElem_cons_succ, Act.put, List.setIfInBounds_toArray, List.set_cons_zero, List.set_cons_succ]
      refine Kept.take (i := 16) (v := ?_) rfl (by kernel_rfl) (by kernel_rfl) (by kernel_rfl) (fun _ _ _ h => h) (Or.inl ⟨by kernel_rfl, ?_⟩) hHeld ?_
      rotate_left
      · intro w' hSw; (try dsimp only at hSw); first | (go_simp; done) | (go_simp; with_reducible rfl)
      try simp only [List.getElem_toArray, List.getElem_cons_zero, List.getElem_cons_succ, Act.put, List.setIfInBounds_toArray, List.set_cons_zero, List.set_cons_succ]
      refine Kept.only (i := 17) (o := ?op2) (by kernel_rfl) ?ho2 (fun K hK => ?_)
      case ho2 => (conv => lhs; simp only [List.getElem?_toArray, List.getElem?_cons_succ, List.getElem?_cons_zero])
      go_simp
      refine hK.out _ _ (trivial) (fun hHeld2 => ?_)
      clear hK K
      clear hHeld2
      refine Kept.done (by kernel_rfl) ?_
      try simp only [List.getElem_toArray, List.getElem_cons_zero, List.getElem_cons_succ, Act.put, List.setIfInBounds_toArray, List.set_cons_zero, List.set_cons_succ]
      clear hHeld
      have hws : ∀ i, I64 ((shR ws k).getD i 0) := shR_all (Q := I64) I64.zero HV.out.wfs k
      have hsl6 : (shR ws k).length ≤ 17592186044416 := by rw [shR_len, HSL.out]; omega
      have HSI6 := Lib.hid (HO6.out.si hsl6 hws)
      have HOA := Lib.hid (HOR.out.setRow k HSI6.out (fun _ g' hg' => by
        have h3 := (HO6.out.lt hg').1
        exact ⟨by omega, by show ¬ g' < gv; omega⟩))
      have HST := Lib.hid (stS_set (f := shR ws) hkn)
      rw [HST.out] at HOA
      have HBA := Lib.hid ((bl_trans HB.out HB6.out).setCell (p := ⟨gv, k, none⟩) (by rw [HGV.out]; exact Nat.le_refl _) (.slice UA (shR ws k).length uc))
      have hgl2 : gv < (w6.setCell ⟨gv, k, none⟩ (.slice UA (shR ws k).length uc)).heap.size := by have h1 := HB6.out.size; have h2 := (gr_set1 w6 gv k (.slice UA (shR ws k).length uc)).size; omega
      clear hws hsl6
      go_wp2_with fail
      exact ⟨⟨k + 1, by omega, by push_cast; rfl, HOA, HBA, hgl2⟩, by simp only [intOf]; omega⟩
    · obtain rfl : n = k := by omega
      rw [HFL.out] at HO
      have HSS := Lib.hid (HO.out.ss (by rw [shL_len, HSL.out]; omega))
      have HQ5 := Lib.hid (HQ.out.on HB.out)
      have c0 := HQ5.out.fb.c0; have c1 := HQ5.out.fb.c1; have c2 := HQ5.out.fb.c2
      go_wp2_with fail
      refine (HNEW.out wr _ HQ5.out.fb.bel HSS.out).mono ?_
      rintro e w5 ⟨u5, g5, rfl, hx5, hb5⟩
      obtain ⟨⟨MA, mc, rfl, _⟩, ⟨DA, dc, rfl, _⟩⟩ := hx5.out
      have HX5 : Hid (Sep wr.heap.size w5 fun w9 => SI w9 (.slice MA Mod.length mc) Mod ∧ SS w9 (.slice DA C.length dc) C) := hid' hx5
      have HQ6 := Lib.hid (HQ5.out.on hb5)
      clear hx5 hb5 c0 c1 c2
      generalize C.length = dl at *
      generalize Mod.length = ml at *
      obtain ⟨d0, d1, d2, d3, d4, f0, f1, f2, f3, f4⟩ := HQ6.out.q.five
      go_wp2_with fail
      obtain ⟨w9, h9, HL⟩ := lay5 (x := .int .i64 P) (y := .int .i64 M) (z := .slice MA ml mc) (u := .int .i64 (n : Int)) (v := .slice DA dl dc) HQ6.out.q
      rw [h9]
      have q0 := HL.c0; have q1 := HL.c1; have q2 := HL.c2; have q3 := HL.c3; have q4 := HL.c4
      have hql := HQ5.out.q.lt
      refine bodyPost_ret (v := .tuple #[.agg #[.int .i64 P, .int .i64 M, .slice MA ml mc, .int .i64 (n : Int), .slice DA dl dc], .int .i64 0]) (by simp [results, Try.results59, go_sem, q0, q1, q2, q3, q4]) rfl ?_
      exact ⟨_, _, rfl, (HX5.out.grown HL.gr (by rintro b e; cases e; omega)).mono HQ5.out.fb.bel.size, HL.below HQ6.out.fb.bel HQ6.out.fb.bel.size (by omega)⟩
end Go.Proofs.Ytdbpbmehcifjpaa

/- number.wheel, least (of small numbers), in, Prime. -/
namespace Go.Proofs.Ytdbpbmehcifjpaa
open Go.RowKit
set_option linter.unusedVariables false
set_option maxRecDepth 100000

theorem lay8 {w : World} {g : Nat} {t : TypeId} {a b c d e f p q x0 x1 x2 x3 x4 x5 x6 x7 : Value} (h : Blk w g t [a, b, c, d, e, f, p, q]) :
    ∃ w', (((((((w.setCell ⟨g, 0, none⟩ x0).setCell ⟨g, 1, none⟩ x1).setCell ⟨g, 2, none⟩ x2).setCell ⟨g, 3, none⟩ x3).setCell ⟨g, 4, none⟩ x4).setCell ⟨g, 5, none⟩ x5).setCell ⟨g, 6, none⟩ x6).setCell ⟨g, 7, none⟩ x7 = w' ∧ Laid w w' g t [x0, x1, x2, x3, x4, x5, x6, x7] :=
  ⟨_, rfl, (((((((h.set_ 0 x0).set_ 1 x1).set_ 2 x2).set_ 3 x3).set_ 4 x4).set_ 5 x5).set_ 6 x6).set_ 7 x7,
    gr_setCell (p := ⟨g, 7, none⟩) (gr_setCell (p := ⟨g, 6, none⟩) (gr_setCell (p := ⟨g, 5, none⟩) (gr_setCell (p := ⟨g, 4, none⟩) (gr_setCell (p := ⟨g, 3, none⟩) (gr_setCell (p := ⟨g, 2, none⟩) (gr_set2 w g 0 1 x0 x1) (.inl rfl) _) (.inl rfl) _) (.inl rfl) _) (.inl rfl) _) (.inl rfl) _) (.inl rfl) _⟩
set_option maxHeartbeats 4000000 in
theorem wheel_any (w : World) : Calls Try.prog 121 #[] w fun e w' => e = .returned (.agg #[.int .i64 1, .int .i64 7, .int .i64 11, .int .i64 13, .int .i64 17, .int .i64 19, .int .i64 23, .int .i64 29]) ∧ Below w.heap.size w w' := by
  go_enter Try.func121, Try.ntmps121
  go_upto_region 1 with fail
  obtain ⟨w1, hw⟩ : ∃ w1, w1 = w.alloc (.cells #[.int .i64 0, .int .i64 0, .int .i64 0, .int .i64 0, .int .i64 0, .int .i64 0, .int .i64 0, .int .i64 0] 134) := ⟨_, rfl⟩
  have HQ : Hid (Blk w1 w.heap.size 134 [.int .i64 0, .int .i64 0, .int .i64 0, .int .i64 0, .int .i64 0, .int .i64 0, .int .i64 0, .int .i64 0]) := hid' (by rw [hw]; exact Blk.new w _ [.int .i64 0, .int .i64 0, .int .i64 0, .int .i64 0, .int .i64 0, .int .i64 0, .int .i64 0, .int .i64 0])
  have HB : Hid (Below w.heap.size w w1) := hid' (by rw [hw]; exact bl_alloc w _)
  rw [← hw]
  clear hw
  have d0 := HQ.out.cell 0; have d1 := HQ.out.cell 1; have d2 := HQ.out.cell 2; have d3 := HQ.out.cell 3; have d4 := HQ.out.cell 4; have d5 := HQ.out.cell 5; have d6 := HQ.out.cell 6; have d7 := HQ.out.cell 7
  have f0 := HQ.out.frozen 0; have f1 := HQ.out.frozen 1; have f2 := HQ.out.frozen 2; have f3 := HQ.out.frozen 3; have f4 := HQ.out.frozen 4; have f5 := HQ.out.frozen 5; have f6 := HQ.out.frozen 6; have f7 := HQ.out.frozen 7
  simp only [List.getElem?_cons_zero, List.getElem?_cons_succ] at d0 d1 d2 d3 d4 d5 d6 d7
  go_wp2_with fail
  obtain ⟨w9, h9, HL⟩ := lay8 (x0 := .int .i64 1) (x1 := .int .i64 7) (x2 := .int .i64 11) (x3 := .int .i64 13) (x4 := .int .i64 17) (x5 := .int .i64 19) (x6 := .int .i64 23) (x7 := .int .i64 29) HQ.out
  rw [h9]
  have q0 := HL.blk.cell 0; have q1 := HL.blk.cell 1; have q2 := HL.blk.cell 2; have q3 := HL.blk.cell 3; have q4 := HL.blk.cell 4; have q5 := HL.blk.cell 5; have q6 := HL.blk.cell 6; have q7 := HL.blk.cell 7
  simp only [List.getElem?_cons_zero, List.getElem?_cons_succ] at q0 q1 q2 q3 q4 q5 q6 q7
  refine bodyPost_ret (v := .agg #[.int .i64 1, .int .i64 7, .int .i64 11, .int .i64 13, .int .i64 17, .int .i64 19, .int .i64 23, .int .i64 29]) (by simp [results, Try.results121, go_sem, q0, q1, q2, q3, q4, q5, q6, q7]) rfl ?_
  exact ⟨rfl, HL.below HB.out HB.out.size (Nat.le_refl _)⟩

theorem wheel_at (w : World) : (Instr.index 134 (.agg #[.int .i64 1, .int .i64 7, .int .i64 11, .int .i64 13, .int .i64 17, .int .i64 19, .int .i64 23, .int .i64 29]) (.int .i64 0)).run Try.prog w = .ok (.int .i64 1) w ∧
    (Instr.index 134 (.agg #[.int .i64 1, .int .i64 7, .int .i64 11, .int .i64 13, .int .i64 17, .int .i64 19, .int .i64 23, .int .i64 29]) (.int .i64 1)).run Try.prog w = .ok (.int .i64 7) w ∧
    (Instr.index 134 (.agg #[.int .i64 1, .int .i64 7, .int .i64 11, .int .i64 13, .int .i64 17, .int .i64 19, .int .i64 23, .int .i64 29]) (.int .i64 2)).run Try.prog w = .ok (.int .i64 11) w :=
  ⟨by kernel_rfl, by kernel_rfl, by kernel_rfl⟩
/-- the least divisor, of small numbers -/
def leastN (n : Nat) : Nat := if n % 2 = 0 then 2 else if n % 3 = 0 then 3 else if n % 5 = 0 then 5 else if n < 49 then n else if n % 7 = 0 then 7 else n
theorem least_fin : ∀ n : Nat, n < 65 → 2 ≤ n → (∀ k : Nat, k < 3 → (∀ j : Nat, j < k → (n : Int) % ([2, 3, 5].getD j 0) ≠ 0) → (n : Int) % ([2, 3, 5].getD k 0) = 0 → (leastN n : Int) = [2, 3, 5].getD k 0) := by decide
theorem least_fin2 : ∀ n : Nat, n < 65 → 2 ≤ n → n < 49 → (∀ j : Nat, j < 3 → (n : Int) % ([2, 3, 5].getD j 0) ≠ 0) → leastN n = n := by decide
theorem least_fin3 : ∀ n : Nat, n < 65 → 49 ≤ n → (n : Int) % 7 = 0 → (∀ j : Nat, j < 3 → (n : Int) % ([2, 3, 5].getD j 0) ≠ 0) → leastN n = 7 := by decide
theorem least_fin4 : ∀ n : Nat, n < 65 → 49 ≤ n → (n : Int) % 7 ≠ 0 → (∀ j : Nat, j < 3 → (n : Int) % ([2, 3, 5].getD j 0) ≠ 0) → leastN n = n := by decide

set_option maxHeartbeats 8000000 in
theorem least_small (w : World) (n : Nat) (h2 : 2 ≤ n) (h64 : n < 65) : Calls Try.prog 94 #[.int .i64 (n : Int)] w (RetI w (leastN n : Nat)) := by
  have HF := Lib.hid (least_fin n h64 h2)
  have HS := Lib.hid (SI.lit w [2, 3, 5] (by simp) (fun k => by
    match k with
    | 0 => exact I64.of_small (by decide) (by decide)
    | 1 => exact I64.of_small (by decide) (by decide)
    | 2 => exact I64.of_small (by decide) (by decide)
    | k + 3 => exact I64.zero))
  obtain ⟨w1, hw⟩ : ∃ w1, w1 = w.alloc (.cells #[.int .i64 2, .int .i64 3, .int .i64 5] 3) := ⟨_, rfl⟩
  have HS1 : Hid (SI w1 (.slice (some ⟨w.heap.size, 0, none⟩) 3 3) [2, 3, 5]) := hid' (by rw [hw]; exact HS.out)
  have HB : Hid (Below w.heap.size w w1) := hid' (by rw [hw]; exact bl_alloc w _)
  have HW := Lib.hid hw.symm
  clear hw HS
  go_enter Try.func94, Try.ntmps94
  go_wp2_with fail
  go_step3
  go_wp2_with fail
  rw [HW.out]
  clear HW
  go_loop [12] (fun i => ∃ k : Nat, k ≤ 3 ∧ i = .int .i64 (k : Int) ∧ Hid (∀ j : Nat, j < k → (n : Int) % ([2, 3, 5].getD j 0) ≠ 0)) (fun i => 3 - (intOf i).toNat)
  case atStart => exact ⟨0, Nat.zero_le _, rfl, hid' fun j hj => absurd hj (Nat.not_lt_zero _)⟩
  case round =>
    obtain ⟨k, hk, rfl, HN⟩ := hrel
    by_cases hk3 : k < 3
    · obtain ⟨ad, x, e, hc, _, HX⟩ := HS1.out.elt (k := k) (by simpa using hk3)
      have e1 := Option.some.inj e
      subst e1
      have hc2 : w1.cell? ⟨w.heap.size, k, none⟩ = some (.int .i64 x) := by
        have e2 : (⟨w.heap.size, 0, none⟩ : Addr).add k = ⟨w.heap.size, k, none⟩ := by
          unfold Addr.add
          by_cases h0 : k = 0 <;> simp [h0]
        rw [← e2]; exact hc
      clear hc
      have hx0 : ¬ x = 0 := by
        have := HX.out
        match k, hk3 with
        | 0, _ => simp at this; omega
        | 1, _ => simp at this; omega
        | 2, _ => simp at this; omega
      cases hz : ((n : Int) % x == 0)
      case true =>
        have HL : Hid ((leastN n : Int) = x) := hid' (by
          have h := HF.out k hk3 HN.out (by rw [HX.out]; exact (beq_iff_eq.1 hz))
          rw [h, HX.out])
        go_wp2_with fail
        go_ret
        exact ⟨by rw [HL.out]; rfl, HB.out⟩
      case false =>
        have HN1 : Hid (∀ j : Nat, j < k + 1 → (n : Int) % ([2, 3, 5].getD j 0) ≠ 0) := hid' (fun j hj => by
          by_cases e : j = k
          · subst e; rw [HX.out]; exact beq_eq_false_iff_ne.1 hz
          · exact HN.out j (by omega))
        go_wp2_with fail
        go_round
        case rel => exact ⟨k + 1, by omega, by go_num, HN1⟩
        case measure => simp [intOf]; omega
    · obtain rfl : k = 3 := by omega
      have HW2 := Lib.hid (bl_refl w1)
      go_wp2_with fail
      go_step3
      go_wp2_with fail
      go_loopw [5, 6] (fun f b wr => f = .int .i64 (n : Int) ∧ b = .int .i64 0 ∧ Hid (Below w1.heap.size w1 wr)) (fun _ _ _ => 0)
      case atStart => exact ⟨rfl, rfl, HW2⟩
      case round =>
        clear HW2
        obtain ⟨rfl, rfl, HBR⟩ := hrel
        generalize wr = wo at *
        go_wp2_with fail
        refine (wheel_any _).mono ?_
        rintro e w3 ⟨rfl, hb3⟩
        have HB3 := Lib.hid (bl_trans HB.out (bl_trans HBR.out hb3))
        clear hb3
        go_wp2_with fail
        go_loop [5, 26] (fun f i => ∃ k : Nat, k ≤ 2 ∧ f = .int .i64 (n : Int) ∧ i = .int .i64 (k : Int) ∧ Hid (k = 2 → 49 ≤ n ∧ (n : Int) % 7 ≠ 0)) (fun _ i => 8 - (intOf i).toNat)
        case atStart => exact ⟨0, by omega, rfl, rfl, hid' fun h => absurd h (by omega)⟩
        case round =>
          obtain ⟨k, hk, rfl, rfl, HK⟩ := hrel
          match k, hk with
          | 0, _ =>
            have hx := (wheel_at w3).1
            go_wp2_with fail
            go_round
            case rel => exact ⟨1, by omega, rfl, by go_num, hid' fun h => absurd h (by omega)⟩
            case measure => simp [intOf]
          | 1, _ =>
            have hx := (wheel_at w3).2.1
            have h49 : IntKind.i64.wrap (7 * 7) = 49 := by decide
            by_cases hn : n < 49
            · have hni : (n : Int) < 49 := by omega
              have HL : Hid (leastN n = n) := hid' (least_fin2 n h64 h2 hn HN.out)
              go_wp2_with fail
              go_ret
              exact ⟨by rw [HL.out]; rfl, HB3.out⟩
            · have hni : ¬ (n : Int) < 49 := by omega
              cases hz : ((n : Int) % 7 == 0)
              · have HK1 : Hid (2 = 2 → 49 ≤ n ∧ (n : Int) % 7 ≠ 0) := hid' fun _ => ⟨by omega, beq_eq_false_iff_ne.1 hz⟩
                go_wp2_with fail
                go_round
                case rel => exact ⟨2, by omega, rfl, by go_num, HK1⟩
                case measure => simp [intOf]
              · have HL : Hid (leastN n = 7) := hid' (least_fin3 n h64 (by omega) (beq_iff_eq.1 hz) HN.out)
                go_wp2_with fail
                go_ret
                exact ⟨by rw [HL.out]; rfl, HB3.out⟩
          | 2, _ =>
            have hx := (wheel_at w3).2.2
            have HL : Hid (leastN n = n) := hid' (least_fin4 n h64 (HK.out rfl).1 (HK.out rfl).2 HN.out)
            have hni : (n : Int) < 121 := by omega
            go_wp2_with fail
            go_ret
            exact ⟨by rw [HL.out]; rfl, HB3.out⟩

set_option maxHeartbeats 4000000 in
theorem nin_small (w : World) (n : Nat) (h2 : 2 ≤ n) (h64 : n < 65) : Calls Try.prog 93 #[.int .i64 (n : Int), .int .i64 2] w fun e w' => e = .returned (.bool true) ∧ w = w' := by
  have h1 : decide ((2 : Int) ≤ (n : Int)) = true := by simp; omega
  have h3 : (n : Int) ≤ 2147483647 := by omega
  have h4 : (2 : Int) ≤ (n : Int) := by omega
  go_enter Try.func93, Try.ntmps93
  go_wp2_with fail
  go_ret
  exact ⟨rfl, rfl⟩
set_option maxHeartbeats 4000000 in
theorem prime_small (w : World) (n : Nat) (h2 : 2 ≤ n) (h64 : n < 65) : Calls Try.prog 58 #[.int .i64 (n : Int)] w (RetB w (decide (leastN n = n))) := by
  go_enter Try.func58, Try.ntmps58
  go_wp2_with fail
  refine (nin_small _ n h2 h64).mono ?_
  rintro e w1 ⟨rfl, rfl⟩
  go_wp2_with fail
  refine (least_small _ n h2 h64).mono ?_
  rintro e w2 ⟨rfl, hb⟩
  have HB := Lib.hid hb; clear hb
  cases h : decide (leastN n = n)
  · have h1 : ((leastN n : Int) == (n : Int)) = false := by rw [beq_eq_false_iff_ne]; have := of_decide_eq_false h; omega
    have HH := Lib.hid h
    clear h
    go_wp2_with fail
    go_ret
    first | exact ⟨rfl, HB.out⟩ | exact ⟨by rw [HH.out]; rfl, HB.out⟩
  · have h1 : ((leastN n : Int) == (n : Int)) = true := by rw [beq_iff_eq]; have := of_decide_eq_true h; omega
    have HH := Lib.hid h
    clear h
    go_wp2_with fail
    go_ret
    first | exact ⟨rfl, HB.out⟩ | exact ⟨by rw [HH.out]; rfl, HB.out⟩
end Go.Proofs.Ytdbpbmehcifjpaa

/- ref15.IsLength. -/
namespace Go.Proofs.Ytdbpbmehcifjpaa
open Go.RowKit
set_option linter.unusedVariables false
set_option maxRecDepth 100000

/-- the lengths of the quadratic residue codes -/
def LenOk (n : Int) : Prop := 3 ≤ n ∧ n ≤ 64 ∧ (n % 8 = 1 ∨ n % 8 = 7) ∧ leastN n.toNat = n.toNat
instance (n : Int) : Decidable (LenOk n) := by unfold LenOk; infer_instance
theorem len_fin : ∀ n : Nat, n < 65 → 2 ≤ n → (∀ d : Nat, d < n → 2 ≤ d → (n : Int) % (d : Int) ≠ 0) → leastN n = n := by decide
theorem len_fin2 : ∀ n : Nat, n < 65 → 2 ≤ n → ∀ d : Nat, d < n → 2 ≤ d → (n : Int) % (d : Int) = 0 → leastN n ≠ n := by decide

set_option maxHeartbeats 8000000 in
theorem rLen_no (w : World) (n : Int) (h : n < 3 ∨ 64 < n ∨ (n % 8 ≠ 1 ∧ n % 8 ≠ 7)) : Calls Try.prog 32 #[.int .i64 n] w (fun e w' => e = .returned (.bool false) ∧ w = w') := by
  have hcase : n < 3 ∨ (¬ n < 3 ∧ 64 < n) ∨ (¬ n < 3 ∧ ¬ 64 < n ∧ n % 8 ≠ 1 ∧ n % 8 ≠ 7) := by omega
  clear h
  rcases hcase with h | ⟨h1, h⟩ | ⟨h1, h2, h3, h4⟩
  · go_enter Try.func32, Try.ntmps32
    go_wp2_with fail
    go_ret
    exact ⟨rfl, rfl⟩
  · go_enter Try.func32, Try.ntmps32
    go_wp2_with fail
    go_ret
    exact ⟨rfl, rfl⟩
  · obtain ⟨k, rfl⟩ : ∃ k : Nat, n = (k : Int) := ⟨n.toNat, by omega⟩
    have e1 : ((k : Int) % 8 != 1) = true := by rw [bne_iff_ne]; exact h3
    have e2 : ((k : Int) % 8 != 7) = true := by rw [bne_iff_ne]; exact h4
    clear h3 h4
    go_enter Try.func32, Try.ntmps32
    go_wp2_with fail
    go_ret
    exact ⟨rfl, rfl⟩

set_option maxHeartbeats 8000000 in
theorem rLen_in (w : World) (n : Nat) (h3 : 3 ≤ n) (h64 : n < 65) (h8 : (n : Int) % 8 = 1 ∨ (n : Int) % 8 = 7) : Calls Try.prog 32 #[.int .i64 (n : Int)] w (fun e w' => e = .returned (.bool (decide (leastN n = n))) ∧ w = w') := by
  have HF := Lib.hid (len_fin n h64 (by omega)); have HG := Lib.hid (len_fin2 n h64 (by omega))
  have k1 : ¬ (n : Int) < 3 := by omega
  have k2 : ¬ (64 : Int) < (n : Int) := by omega
  have k3 : (((n : Int) % 8 != 1) && ((n : Int) % 8 != 7)) = false := by rcases h8 with h | h <;> rw [h] <;> rfl
  have hn64 : n ≤ 64 := by omega
  cases e1 : ((n : Int) % 8 != 1)
  case' true =>
    have e2 : ((n : Int) % 8 != 7) = false := by rw [e1] at k3; simpa using k3
  all_goals
    clear k3 h8
    go_enter Try.func32, Try.ntmps32
    go_wp2_with fail
    go_loop [3] (fun i => ∃ d : Nat, 2 ≤ d ∧ d ≤ n ∧ i = .int .i64 (d : Int) ∧ Hid (∀ j : Nat, j < d → 2 ≤ j → (n : Int) % (j : Int) ≠ 0)) (fun i => n - (intOf i).toNat)
    case atStart => exact ⟨2, by omega, by omega, rfl, hid' fun j h1 h2 => absurd h1 (by omega)⟩
    case round =>
      obtain ⟨d, hd2, hd, rfl, HN⟩ := hrel
      by_cases hdn : d < n
      · have hd0 : ¬ (d : Int) = 0 := by omega
        cases hz : ((n : Int) % (d : Int) == 0)
        · have HN1 : Hid (∀ j : Nat, j < d + 1 → 2 ≤ j → (n : Int) % (j : Int) ≠ 0) := hid' fun j h1 h2 => by
            by_cases e : j = d
            · subst e; exact beq_eq_false_iff_ne.1 hz
            · exact HN.out j (by omega) h2
          go_wp2_with fail
          go_round
          case rel => exact ⟨d + 1, by omega, by omega, by go_num, HN1⟩
          case measure => simp [intOf]; omega
        · have HD : Hid (decide (leastN n = n) = false) := hid' (decide_eq_false (HG.out d hdn hd2 (beq_iff_eq.1 hz)))
          go_wp2_with fail
          go_ret
          exact ⟨by rw [HD.out]; rfl, rfl⟩
      · obtain rfl : n = d := by omega
        have HD : Hid (decide (leastN n = n) = true) := hid' (decide_eq_true (HF.out fun j h1 h2 => HN.out j h1 h2))
        go_wp2_with fail
        go_ret
        exact ⟨by rw [HD.out]; rfl, rfl⟩
theorem rLen_any (w : World) (n : Int) : Calls Try.prog 32 #[.int .i64 n] w (fun e w' => e = .returned (.bool (decide (LenOk n))) ∧ w = w') := by
  by_cases h : n < 3 ∨ 64 < n ∨ (n % 8 ≠ 1 ∧ n % 8 ≠ 7)
  · have e : decide (LenOk n) = false := decide_eq_false fun h1 => by obtain ⟨h1, h2, h3, _⟩ := h1; omega
    rw [e]
    exact rLen_no w n h
  · obtain ⟨k, rfl⟩ : ∃ k : Nat, n = (k : Int) := ⟨n.toNat, by omega⟩
    have e : decide (LenOk (k : Int)) = decide (leastN k = k) := by
      apply decide_eq_decide.2
      unfold LenOk
      rw [Int.toNat_natCast]
      exact ⟨fun h => h.2.2.2, fun h => ⟨by omega, by omega, by omega, h⟩⟩
    rw [e]
    exact rLen_in w k (by omega) (by omega) (by omega)
end Go.Proofs.Ytdbpbmehcifjpaa

/- classic.Residue. -/
namespace Go.Proofs.Ytdbpbmehcifjpaa
open Go.RowKit
set_option linter.unusedVariables false
set_option maxRecDepth 100000

/-- the indicator of the squares, behind k steps -/
def sqT (n : Nat) : Nat → List Int
  | 0 => List.replicate n 0
  | k + 1 => (sqT n k).set ((k + 1) * (k + 1) % n) 1
theorem sqT_len (n : Nat) : ∀ k, (sqT n k).length = n
  | 0 => by simp [sqT]
  | k + 1 => by rw [sqT, List.length_set, sqT_len n k]
/-- the idempotent's indicator -/
def resW (n : Nat) : List Int := if (n : Int) % 8 = 1 then (sqT n (n - 1)).set 0 1 else sqT n (n - 1)
theorem resW_len (n : Nat) : (resW n).length = n := by unfold resW; split <;> simp [sqT_len]
theorem bit_set {l : List Int} (h : ∀ i, 0 ≤ l.getD i 0 ∧ l.getD i 0 < 2) (p : Nat) : ∀ i, 0 ≤ (l.set p 1).getD i 0 ∧ (l.set p 1).getD i 0 < 2 := fun i => by
  by_cases e : p = i
  · by_cases h2 : p < l.length
    · subst e; simp [List.getD, List.getElem?_set, h2]
    · rw [List.set_eq_of_length_le (by omega)]; exact h i
  · have := h i
    simp only [List.getD] at this ⊢
    rw [List.getElem?_set_ne e]; exact this
theorem sqT_bit (n : Nat) : ∀ k i, 0 ≤ (sqT n k).getD i 0 ∧ (sqT n k).getD i 0 < 2
  | 0, i => by
    by_cases hi : i < n
    · simp [sqT, List.getD, List.getElem?_replicate, hi]
    · simp [sqT, List.getD, List.getElem?_replicate, hi]
  | k + 1, i => by rw [sqT]; exact bit_set (fun i => sqT_bit n k i) _ i
theorem resW_bit (n : Nat) (i : Nat) : 0 ≤ (resW n).getD i 0 ∧ (resW n).getD i 0 < 2 := by
  unfold resW
  split
  · exact bit_set (fun i => sqT_bit n _ i) 0 i
  · exact sqT_bit n _ i

set_option maxHeartbeats 8000000 in
theorem cRes_no (w : World) (n : Int) (hn : ¬ LenOk n) : Calls Try.prog 31 #[.int .i64 n] w (RetCE w 0 0 [] 0 [] 6) := by
  have HB0 := Lib.hid (bl_alloc w (.cells #[.int .i64 0, .int .i64 0, .slice none 0 0, .int .i64 0, .slice none 0 0] 27))
  have HRB : Hid (Blk (w.alloc (.cells #[.int .i64 0, .int .i64 0, .slice none 0 0, .int .i64 0, .slice none 0 0] 27)) w.heap.size 27 [.int .i64 0, .int .i64 0, .slice none 0 0, .int .i64 0, .slice none 0 0]) := Blk.new w 27 [.int .i64 0, .int .i64 0, .slice none 0 0, .int .i64 0, .slice none 0 0]
  have fin : ∀ w1, Below (w.heap.size + 1) (w.alloc (.cells #[.int .i64 0, .int .i64 0, .slice none 0 0, .int .i64 0, .slice none 0 0] 27)) w1 → Blk w1 w.heap.size 27 [.int .i64 0, .int .i64 0, .slice none 0 0, .int .i64 0, .slice none 0 0] ∧ Below w.heap.size w w1 := fun w1 hb => by
    have hs : (w.alloc (.cells #[.int .i64 0, .int .i64 0, .slice none 0 0, .int .i64 0, .slice none 0 0] 27)).heap.size = w.heap.size + 1 := World.size_alloc _ _
    rw [← hs] at hb
    exact ⟨HRB.out.belowS hb, bl_trans HB0.out hb⟩
  have hcase : (n < 3) ∨ (¬ n < 3 ∧ 64 < n) ∨ ∃ k : Nat, n = (k : Int) ∧ 3 ≤ k ∧ k < 65 ∧ (leastN k ≠ k ∨ (leastN k = k ∧ (k : Int) % 8 ≠ 1 ∧ (k : Int) % 8 ≠ 7)) := by
    by_cases h1 : n < 3
    · exact .inl h1
    · by_cases h2 : 64 < n
      · exact .inr (.inl ⟨h1, h2⟩)
      · refine .inr (.inr ⟨n.toNat, by omega, by omega, by omega, ?_⟩)
        by_cases h3 : leastN n.toNat = n.toNat
        · refine .inr ⟨h3, ?_⟩
          rw [show ((n.toNat : Nat) : Int) = n by omega]
          by_cases h4 : n % 8 = 1
          · exact absurd ⟨by omega, by omega, .inl h4, h3⟩ hn
          · by_cases h5 : n % 8 = 7
            · exact absurd ⟨by omega, by omega, .inr h5, h3⟩ hn
            · exact ⟨h4, h5⟩
        · exact .inl h3
  clear hn
  obtain ⟨w0, hw0⟩ : ∃ w0, w0 = w.alloc (.cells #[.int .i64 0, .int .i64 0, .slice none 0 0, .int .i64 0, .slice none 0 0] 27) := ⟨_, rfl⟩
  have hs0 : w0.heap.size = w.heap.size + 1 := by rw [hw0]; exact World.size_alloc _ _
  rw [← hw0] at HB0 HRB fin
  have HW0 := Lib.hid hw0.symm
  clear hw0
  have main : ∀ w1, Below w0.heap.size w0 w1 → Hid (Blk w1 w.heap.size 27 [.int .i64 0, .int .i64 0, .slice none 0 0, .int .i64 0, .slice none 0 0] ∧ Below w.heap.size w w1) := fun w1 hb => fin w1 (by rw [← hs0]; exact hb)
  clear fin
  rcases hcase with h | ⟨h1, h⟩ | ⟨k, rfl, h3, h65, hc⟩
  case inl =>
    have HX := main w0 (bl_refl w0)
    obtain ⟨d0, d1, d2, d3, d4, f0, f1, f2, f3, f4⟩ := HX.out.1.five
    go_enter Try.func31, Try.ntmps31
    go_upto_region 1 with fail
    rw [HW0.out]
    go_wp2_with fail
    obtain ⟨w9, h9, HL⟩ := lay5 (x := .int .i64 0) (y := .int .i64 0) (z := .slice none 0 0) (u := .int .i64 0) (v := .slice none 0 0) HX.out.1
    rw [h9]
    have q0 := HL.c0; have q1 := HL.c1; have q2 := HL.c2; have q3 := HL.c3; have q4 := HL.c4
    refine bodyPost_ret (v := .tuple #[.agg #[.int .i64 0, .int .i64 0, .slice none 0 0, .int .i64 0, .slice none 0 0], .int .i64 6]) (by simp [results, Try.results31, go_sem, q0, q1, q2, q3, q4]) rfl ?_
    exact ⟨_, _, rfl, (SI.nilSep _ _).and (SS.nilSep _ _), HL.below HX.out.2 HX.out.2.size (Nat.le_refl _)⟩
  case inr.inl =>
    have HX := main w0 (bl_refl w0)
    obtain ⟨d0, d1, d2, d3, d4, f0, f1, f2, f3, f4⟩ := HX.out.1.five
    go_enter Try.func31, Try.ntmps31
    go_upto_region 1 with fail
    rw [HW0.out]
    go_wp2_with fail
    obtain ⟨w9, h9, HL⟩ := lay5 (x := .int .i64 0) (y := .int .i64 0) (z := .slice none 0 0) (u := .int .i64 0) (v := .slice none 0 0) HX.out.1
    rw [h9]
    have q0 := HL.c0; have q1 := HL.c1; have q2 := HL.c2; have q3 := HL.c3; have q4 := HL.c4
    refine bodyPost_ret (v := .tuple #[.agg #[.int .i64 0, .int .i64 0, .slice none 0 0, .int .i64 0, .slice none 0 0], .int .i64 6]) (by simp [results, Try.results31, go_sem, q0, q1, q2, q3, q4]) rfl ?_
    exact ⟨_, _, rfl, (SI.nilSep _ _).and (SS.nilSep _ _), HL.below HX.out.2 HX.out.2.size (Nat.le_refl _)⟩
  case inr.inr =>
    have k1 : ¬ (k : Int) < 3 := by omega
    have k2 : ¬ (64 : Int) < (k : Int) := by omega
    have HC := Lib.hid hc
    clear hc
    go_enter Try.func31, Try.ntmps31
    go_upto_region 1 with fail
    rw [HW0.out]
    go_wp2_with fail
    refine (prime_small _ k (by omega) h65).mono ?_
    rintro e w1 ⟨rfl, hb1⟩
    have HX := main w1 hb1
    clear hb1
    obtain ⟨d0, d1, d2, d3, d4, f0, f1, f2, f3, f4⟩ := HX.out.1.five
    rcases HC.out with hc | ⟨hc, h8, h9⟩
    · rw [show decide (leastN k = k) = false from decide_eq_false hc]
      clear hc
      go_wp2_with fail
      obtain ⟨w9, h9, HL⟩ := lay5 (x := .int .i64 0) (y := .int .i64 0) (z := .slice none 0 0) (u := .int .i64 0) (v := .slice none 0 0) HX.out.1
      rw [h9]
      have q0 := HL.c0; have q1 := HL.c1; have q2 := HL.c2; have q3 := HL.c3; have q4 := HL.c4
      refine bodyPost_ret (v := .tuple #[.agg #[.int .i64 0, .int .i64 0, .slice none 0 0, .int .i64 0, .slice none 0 0], .int .i64 6]) (by simp [results, Try.results31, go_sem, q0, q1, q2, q3, q4]) rfl ?_
      exact ⟨_, _, rfl, (SI.nilSep _ _).and (SS.nilSep _ _), HL.below HX.out.2 HX.out.2.size (Nat.le_refl _)⟩
    · rw [show decide (leastN k = k) = true from decide_eq_true hc]
      have e1 : ((k : Int) % 8 != 1) = true := by rw [bne_iff_ne]; exact h8
      have e2 : ((k : Int) % 8 != 7) = true := by rw [bne_iff_ne]; exact h9
      clear hc h8 h9
      go_wp2_with fail
      obtain ⟨w9, h9, HL⟩ := lay5 (x := .int .i64 0) (y := .int .i64 0) (z := .slice none 0 0) (u := .int .i64 0) (v := .slice none 0 0) HX.out.1
      rw [h9]
      have q0 := HL.c0; have q1 := HL.c1; have q2 := HL.c2; have q3 := HL.c3; have q4 := HL.c4
      refine bodyPost_ret (v := .tuple #[.agg #[.int .i64 0, .int .i64 0, .slice none 0 0, .int .i64 0, .slice none 0 0], .int .i64 6]) (by simp [results, Try.results31, go_sem, q0, q1, q2, q3, q4]) rfl ?_
      exact ⟨_, _, rfl, (SI.nilSep _ _).and (SS.nilSep _ _), HL.below HX.out.2 HX.out.2.size (Nat.le_refl _)⟩
end Go.Proofs.Ytdbpbmehcifjpaa

/- Plain: the residue codes' symmetries. -/
namespace Go.Proofs.Ytdbpbmehcifjpaa
open Go.RowKit
set_option linter.unusedVariables false
set_option maxRecDepth 100000

/-- the word written at the places (a*i + b) % n, behind k steps -/
def zT (n a b : Nat) (w : List Int) : Nat → List Int
  | 0 => List.replicate n 0
  | k + 1 => (zT n a b w k).set ((a * k + b) % n) (w.getD k 0)
theorem zT_len (n a b : Nat) (w : List Int) : ∀ k, (zT n a b w k).length = n
  | 0 => by simp [zT]
  | k + 1 => by rw [zT, List.length_set, zT_len n a b w k]
theorem zT_at {n a b : Nat} (hn : 0 < n) (w : List Int) (hinj : ∀ i j, i < n → j < n → (a * i + b) % n = (a * j + b) % n → i = j) : ∀ k, k ≤ n → ∀ i, i < k → (zT n a b w k).getD ((a * i + b) % n) 0 = w.getD i 0
  | 0, _, i, h => by omega
  | k + 1, hk, i, h => by
    rw [zT]
    by_cases e : i = k
    · subst e
      have hp : (a * i + b) % n < (zT n a b w i).length := by rw [zT_len]; exact Nat.mod_lt _ hn
      simp [List.getD, List.getElem?_set, hp]
    · have hne : (a * k + b) % n ≠ (a * i + b) % n := fun h2 => e (hinj k i (by omega) (by omega) h2).symm
      have h3 := zT_at hn w hinj k (by omega) i (by omega)
      simp only [List.getD] at h3 ⊢
      rw [List.getElem?_set_ne hne]; exact h3
theorem zT_bit {n a b : Nat} {w : List Int} {q : Int} (hq : 0 < q) (hw : ∀ i, 0 ≤ w.getD i 0 ∧ w.getD i 0 < q) : ∀ k i, 0 ≤ (zT n a b w k).getD i 0 ∧ (zT n a b w k).getD i 0 < q
  | 0, i => by
    by_cases hi : i < n
    · simp [zT, List.getD, List.getElem?_replicate, hi]; exact hq
    · simp [zT, List.getD, List.getElem?_replicate, hi]; exact hq
  | k + 1, i => by
    rw [zT]
    by_cases e : (a * k + b) % n = i
    · by_cases h2 : (a * k + b) % n < (zT n a b w k).length
      · subst e
        have : ((zT n a b w k).set ((a * k + b) % n) (w.getD k 0)).getD ((a * k + b) % n) 0 = w.getD k 0 := by simp [List.getD, List.getElem?_set, h2]
        rw [this]; exact hw k
      · rw [List.set_eq_of_length_le (by omega)]; exact zT_bit hq hw k i
    · have h3 := zT_bit (n := n) (a := a) (b := b) hq hw k i
      simp only [List.getD] at h3 ⊢
      rw [List.getElem?_set_ne e]; exact h3
/-- an entry of a shift -/
theorem shR_at {ws : List Int} {k i : Nat} (hk : k < ws.length) (hi : i < ws.length) : (shR ws k).getD i 0 = ws.getD ((i + (ws.length - k)) % ws.length) 0 := by
  unfold shR
  by_cases h : i < k
  · have hl : i < (ws.drop (ws.length - k)).length := by rw [List.length_drop]; omega
    simp only [List.getD]
    rw [List.getElem?_append_left hl, List.getElem?_drop, Nat.mod_eq_of_lt (by omega), Nat.add_comm]
  · have hl : (ws.drop (ws.length - k)).length = k := by rw [List.length_drop]; omega
    simp only [List.getD]
    rw [List.getElem?_append_right (by omega), hl, List.getElem?_take, if_pos (by omega), show i + (ws.length - k) = (i - k) + ws.length by omega, Nat.add_mod_right, Nat.mod_eq_of_lt (by omega)]
/-- the six lengths -/
theorem len_six : ∀ n : Nat, n < 65 → LenOk (n : Int) → n = 7 ∨ n = 17 ∨ n = 23 ∨ n = 31 ∨ n = 41 ∨ n = 47 := by decide
def wLit : Nat → List Int
  | 7 => [0,1,1,0,1,0,0]
  | 17 => [1,1,1,0,1,0,0,0,1,1,0,0,0,1,0,1,1]
  | 23 => [0,1,1,1,1,0,1,0,1,1,0,0,1,1,0,0,1,0,1,0,0,0,0]
  | 31 => [0,1,1,0,1,1,0,1,1,1,1,0,0,0,1,0,1,0,1,1,1,0,0,0,0,1,0,0,1,0,0]
  | 41 => [1,1,1,0,1,1,0,0,1,1,1,0,0,0,0,0,1,0,1,0,1,1,0,1,0,1,0,0,0,0,0,1,1,1,0,0,1,1,0,1,1]
  | 47 => [0,1,1,1,1,0,1,1,1,1,0,0,1,0,1,0,1,1,1,0,0,1,0,0,1,1,0,1,1,0,0,0,1,0,1,0,1,1,0,0,0,0,1,0,0,0,0]
  | _ => []
theorem resW_7 : resW 7 = wLit 7 := by decide +kernel
theorem resW_17 : resW 17 = wLit 17 := by decide +kernel
theorem resW_23 : resW 23 = wLit 23 := by decide +kernel
theorem resW_31 : resW 31 = wLit 31 := by decide +kernel
theorem resW_41 : resW 41 = wLit 41 := by decide +kernel
theorem resW_47 : resW 47 = wLit 47 := by decide +kernel
def symB (n : Nat) : Bool := (List.range n).all fun s => s == 0 || ((List.range n).all fun i => (wLit n).getD (s * s % n * i % n) 0 == (wLit n).getD i 0)
def injB (n : Nat) : Bool := (List.range n).all fun s => s == 0 || ((List.range n).all fun i => i == 0 || s * s % n * i % n != 0)
def surB (n : Nat) : Bool := (List.range n).all fun s => s == 0 || ((List.range n).all fun t => (List.range n).any fun i => s * s % n * i % n == t)
theorem sur_7 : surB 7 = true := by decide +kernel
theorem sur_17 : surB 17 = true := by decide +kernel
theorem sur_23 : surB 23 = true := by decide +kernel
theorem sur_31 : surB 31 = true := by decide +kernel
theorem sur_41 : surB 41 = true := by decide +kernel
theorem sur_47 : surB 47 = true := by decide +kernel
theorem sym_7 : symB 7 = true := by decide +kernel
theorem inj_7 : injB 7 = true := by decide +kernel
theorem sym_17 : symB 17 = true := by decide +kernel
theorem inj_17 : injB 17 = true := by decide +kernel
theorem sym_23 : symB 23 = true := by decide +kernel
theorem inj_23 : injB 23 = true := by decide +kernel
theorem sym_31 : symB 31 = true := by decide +kernel
theorem inj_31 : injB 31 = true := by decide +kernel
theorem sym_41 : symB 41 = true := by decide +kernel
theorem inj_41 : injB 41 = true := by decide +kernel
theorem sym_47 : symB 47 = true := by decide +kernel
theorem inj_47 : injB 47 = true := by decide +kernel

theorem sym_all {n : Nat} (hn : n = 7 ∨ n = 17 ∨ n = 23 ∨ n = 31 ∨ n = 41 ∨ n = 47) {s : Nat} (h1 : 1 ≤ s) (h2 : s < n) :
    (∀ i, i < n → (resW n).getD (s * s % n * i % n) 0 = (resW n).getD i 0) ∧ (∀ i, i < n → 0 < i → s * s % n * i % n ≠ 0) ∧ (∀ t, t < n → ∃ i, i < n ∧ s * s % n * i % n = t) := by
  have key : resW n = wLit n ∧ symB n = true ∧ injB n = true ∧ surB n = true := by
    rcases hn with rfl | rfl | rfl | rfl | rfl | rfl
    · exact ⟨resW_7, sym_7, inj_7, sur_7⟩
    · exact ⟨resW_17, sym_17, inj_17, sur_17⟩
    · exact ⟨resW_23, sym_23, inj_23, sur_23⟩
    · exact ⟨resW_31, sym_31, inj_31, sur_31⟩
    · exact ⟨resW_41, sym_41, inj_41, sur_41⟩
    · exact ⟨resW_47, sym_47, inj_47, sur_47⟩
  obtain ⟨k0, k1, k2, k3⟩ := key
  rw [k0]
  clear hn k0
  refine ⟨fun i hi => ?_, fun i hi hp => ?_, fun t ht => ?_⟩
  · have a := List.all_eq_true.1 k1 s (List.mem_range.2 h2)
    rcases Bool.or_eq_true_iff.1 a with a | a
    · have := beq_iff_eq.1 a; omega
    · exact beq_iff_eq.1 (List.all_eq_true.1 a i (List.mem_range.2 hi))
  · have a := List.all_eq_true.1 k2 s (List.mem_range.2 h2)
    rcases Bool.or_eq_true_iff.1 a with a | a
    · have := beq_iff_eq.1 a; omega
    · have a := List.all_eq_true.1 a i (List.mem_range.2 hi)
      rcases Bool.or_eq_true_iff.1 a with a | a
      · have := beq_iff_eq.1 a; omega
      · exact bne_iff_ne.1 a
  · have a := List.all_eq_true.1 k3 s (List.mem_range.2 h2)
    rcases Bool.or_eq_true_iff.1 a with a | a
    · have := beq_iff_eq.1 a; omega
    · have a := List.all_eq_true.1 a t (List.mem_range.2 ht)
      obtain ⟨i, hi, e⟩ := List.any_eq_true.1 a
      exact ⟨i, List.mem_range.1 hi, beq_iff_eq.1 e⟩
/-- the places of the turned word -/
theorem turn_inj {n a b : Nat} (hn : n = 7 ∨ n = 17 ∨ n = 23 ∨ n = 31 ∨ n = 41 ∨ n = 47) (h : ∀ i, i < n → 0 < i → a * i % n ≠ 0) : ∀ i j, i < n → j < n → (a * i + b) % n = (a * j + b) % n → i = j := fun i j hi hj e => by
  rcases Nat.lt_trichotomy i j with h1 | h1 | h1
  · refine absurd ?_ (h (j - i) (by omega) (by omega))
    rw [Nat.mul_sub]
    have hle : a * i ≤ a * j := Nat.mul_le_mul_left _ (by omega)
    generalize a * i = x at *
    generalize a * j = y at *
    rcases hn with rfl | rfl | rfl | rfl | rfl | rfl <;> omega
  · exact h1
  · refine absurd ?_ (h (i - j) (by omega) (by omega))
    rw [Nat.mul_sub]
    have hle : a * j ≤ a * i := Nat.mul_le_mul_left _ (by omega)
    generalize a * i = x at *
    generalize a * j = y at *
    rcases hn with rfl | rfl | rfl | rfl | rfl | rfl <;> omega
theorem turn_sur {n a b : Nat} (hn : n = 7 ∨ n = 17 ∨ n = 23 ∨ n = 31 ∨ n = 41 ∨ n = 47) (hb : b < n) (h : ∀ t, t < n → ∃ i, i < n ∧ a * i % n = t) {j : Nat} (hj : j < n) : ∃ i, i < n ∧ (a * i + b) % n = j := by
  obtain ⟨i, hi, e⟩ := h ((j + (n - b)) % n) (Nat.mod_lt _ (by omega))
  refine ⟨i, hi, ?_⟩
  generalize a * i = x at *
  rcases hn with rfl | rfl | rfl | rfl | rfl | rfl <;> omega
theorem turn_ent {n a b : Nat} (hn : n = 7 ∨ n = 17 ∨ n = 23 ∨ n = 31 ∨ n = 41 ∨ n = 47) (hb : b < n) {k i : Nat} (hk : k < n) (hi : i < n) :
    ((a * i + b) % n + (n - (a * k + b) % n)) % n = a * ((i + (n - k)) % n) % n := by
  by_cases h : k ≤ i
  · have e : (i + (n - k)) % n = i - k := by
      rw [show i + (n - k) = (i - k) + n by omega, Nat.add_mod_right, Nat.mod_eq_of_lt (by omega)]
    rw [e, Nat.mul_sub]
    have hle : a * k ≤ a * i := Nat.mul_le_mul_left _ h
    generalize a * i = x at *
    generalize a * k = y at *
    rcases hn with rfl | rfl | rfl | rfl | rfl | rfl <;> omega
  · have e : (i + (n - k)) % n = i + n - k := by rw [Nat.mod_eq_of_lt (by omega)]; omega
    rw [e, Nat.mul_sub, Nat.mul_add]
    have hle : a * k ≤ a * n := Nat.mul_le_mul_left _ (by omega)
    generalize a * i = x at *
    generalize a * k = y at *
    rcases hn with rfl | rfl | rfl | rfl | rfl | rfl <;> omega
end Go.Proofs.Ytdbpbmehcifjpaa

/- Plain: a word of a residue code, turned, is a word of it. -/
namespace Go.Proofs.Ytdbpbmehcifjpaa
open Go.RowKit
set_option linter.unusedVariables false
set_option maxRecDepth 100000

theorem res_rows (n : Nat) : Rows 2 n (shL (resW n)) := by
  have h := shL_rows (q := 2) (by decide) (ws := resW n) (resW_bit n)
  rwa [resW_len] at h
theorem sym_span {n s b : Nat} (hn : n = 7 ∨ n = 17 ∨ n = 23 ∨ n = 31 ∨ n = 41 ∨ n = 47) (h1 : 1 ≤ s) (h2 : s < n) (hb : b < n) {w : List Int} (hx : Span (refOps 2 1 []) (shL (resW n)) (fun j => w.getD j 0)) :
    Span (refOps 2 1 []) (shL (resW n)) (fun j => (zT n (s * s % n) b w n).getD j 0) := by
  obtain ⟨q1, q2, q3⟩ := sym_all hn h1 h2
  generalize s * s % n = a at *
  have hn0 : 0 < n := by omega
  obtain ⟨c, hc⟩ := hx
  have hL : (shL (resW n)).length = n := by rw [shL_len, resW_len]
  have hgd : ∀ k, k < n → (shL (resW n)).getD k [] = shR (resW n) k := fun k hk => by simp [shL, List.getD, resW_len, hk]
  have hent : ∀ k j, k < n → j < n → ent (shL (resW n)) k j = (resW n).getD ((j + (n - k)) % n) 0 := fun k j hk hj => by
    unfold ent
    rw [hgd k hk, shR_at (by rw [resW_len]; exact hk) (by rw [resW_len]; exact hj), resW_len]
  have hR := res_rows n
  have hrow : ∀ k, k < n → Span (refOps 2 1 []) (shL (resW n)) (ent (shL (resW n)) k) := fun k hk => Span.row two_fld (by rw [hL]; exact hk) (fun j => (hR k (by rw [hL]; exact hk)).2 j)
  refine (Span.sum two_fld (n := n) (x := fun k j => (refOps 2 1 []).mul (c k) (ent (shL (resW n)) ((a * k + b) % n) j)) (fun k hk => Span.smul two_fld (c k) (hrow _ (Nat.mod_lt _ hn0)))).congr fun j => ?_
  by_cases hj : j < n
  · obtain ⟨i, hi, rfl⟩ := turn_sur hn hb q3 hj
    rw [zT_at hn0 w (turn_inj hn q2) n (Nat.le_refl _) i hi]
    have h := hc i
    dsimp only at h
    rw [hL] at h
    rw [h]
    refine sumTo_congr fun k hk => ?_
    rw [hent k i hk hi, hent ((a * k + b) % n) _ (Nat.mod_lt _ hn0) (Nat.mod_lt _ hn0), turn_ent hn hb hk hi, q1 _ (Nat.mod_lt _ hn0)]
  · rw [getD_len (by rw [zT_len]; omega)]
    refine (sumTo_zero two_fld fun k hk => ?_).symm
    have e : ent (shL (resW n)) ((a * k + b) % n) j = 0 := by
      unfold ent
      rw [getD_len (by rw [(hR _ (by rw [hL]; exact Nat.mod_lt _ hn0)).1]; omega)]
    rw [e, two_fld.mul_zero]
/-- the word that the law makes is in the code -/
theorem sym_has {n s b : Nat} (hn : n = 7 ∨ n = 17 ∨ n = 23 ∨ n = 31 ∨ n = 41 ∨ n = 47) (h1 : 1 ≤ s) (h2 : s < n) (hb : b < n) {msg : List Int}
    (he : encE 2 1 [] (n : Int) (canonL (refOps 2 1 []) (shL (resW n)) n) msg = 0) :
    inL (refOps 2 1 []) (canonL (refOps 2 1 []) (shL (resW n)) n) (zT n (s * s % n) b (encL 2 1 [] (n : Int) (canonL (refOps 2 1 []) (shL (resW n)) n) msg) n) = true := by
  have hR := res_rows n
  have hc := canon_rref two_fld hR
  have hel : encL 2 1 [] (n : Int) (canonL (refOps 2 1 []) (shL (resW n)) n) msg = combL (refOps 2 1 []) msg (canonL (refOps 2 1 []) (shL (resW n)) n) n := by
    unfold encL; rw [if_pos he, Int.toNat_natCast]
  have hml : msg.length = (canonL (refOps 2 1 []) (shL (resW n)) n).length := by
    unfold encE at he
    split at he
    · have := (listF_zero he).1; omega
    · rename_i h; exact absurd he h
  rw [hel]
  have hsp := combL_span two_fld hc.1.rows hml
  have hsp' := (hc.2.span two_fld _).1 hsp
  have hz := sym_span hn h1 h2 hb hsp'
  have hz' := (hc.2.span two_fld _).2 hz
  exact (inL_span two_fld hc.1 (fun j => hz'.lt two_fld j) (zT_len _ _ _ _ _)).2 hz'
theorem enc_facts {n : Nat} {msg : List Int} (he : encE 2 1 [] (n : Int) (canonL (refOps 2 1 []) (shL (resW n)) n) msg = 0) :
    (encL 2 1 [] (n : Int) (canonL (refOps 2 1 []) (shL (resW n)) n) msg).length = n ∧ ∀ j, 0 ≤ (encL 2 1 [] (n : Int) (canonL (refOps 2 1 []) (shL (resW n)) n) msg).getD j 0 ∧ (encL 2 1 [] (n : Int) (canonL (refOps 2 1 []) (shL (resW n)) n) msg).getD j 0 < 2 := by
  have hc := canon_rref two_fld (res_rows n)
  have hel : encL 2 1 [] (n : Int) (canonL (refOps 2 1 []) (shL (resW n)) n) msg = combL (refOps 2 1 []) msg (canonL (refOps 2 1 []) (shL (resW n)) n) n := by
    unfold encL; rw [if_pos he, Int.toNat_natCast]
  have hml : msg.length = (canonL (refOps 2 1 []) (shL (resW n)) n).length := by
    unfold encE at he
    split at he
    · have := (listF_zero he).1; omega
    · rename_i h; exact absurd he h
  rw [hel]
  have hsp := combL_span two_fld hc.1.rows hml
  exact ⟨combTo_len _ _ _ _ _, fun j => hsp.lt two_fld j⟩
end Go.Proofs.Ytdbpbmehcifjpaa

/- classic.Residue, the good way. -/
namespace Go.Proofs.Ytdbpbmehcifjpaa
open Go.RowKit
set_option linter.unusedVariables false
set_option maxRecDepth 100000

set_option maxHeartbeats 32000000 in
theorem cRes_ok (w : World) (n : Nat) (hn : LenOk (n : Int)) : Calls Try.prog 31 #[.int .i64 (n : Int)] w (RetCE w 2 1 [] n (canonL (refOps 2 1 []) (shL (resW n)) n) 0) := by
  obtain ⟨h3, h64, h8, hp⟩ := hn
  rw [Int.toNat_natCast] at hp
  have HSH := Lib.hid (fun (w' : World) (v : Value) (hs : SI w' v (resW n)) => shifts_ok w' 2 1 n (.slice none 0 0) v [] (resW n) (SI.none_ w') hs (resW_len n) (by omega) (by omega) field21 (fun i => by rw [order21]; exact resW_bit n i))
  unfold RetCE at HSH
  generalize canonL (refOps 2 1 []) (shL (resW n)) n = C at *
  have HRI : Hid (∀ i, I64 ((resW n).getD i 0)) := hid' fun i => by have := resW_bit n i; exact I64.of_small (by omega) (by omega)
  have HRL := Lib.hid (resW_len n)
  have HB0 := Lib.hid (bl_alloc w (.cells #[.int .i64 0, .int .i64 0, .slice none 0 0, .int .i64 0, .slice none 0 0] 27))
  have HRB : Hid (Blk (w.alloc (.cells #[.int .i64 0, .int .i64 0, .slice none 0 0, .int .i64 0, .slice none 0 0] 27)) w.heap.size 27 [.int .i64 0, .int .i64 0, .slice none 0 0, .int .i64 0, .slice none 0 0]) := Blk.new w 27 [.int .i64 0, .int .i64 0, .slice none 0 0, .int .i64 0, .slice none 0 0]
  obtain ⟨w0, hw0⟩ : ∃ w0, w0 = w.alloc (.cells #[.int .i64 0, .int .i64 0, .slice none 0 0, .int .i64 0, .slice none 0 0] 27) := ⟨_, rfl⟩
  rw [← hw0] at HB0 HRB
  have HW0 := Lib.hid hw0.symm
  clear hw0
  have k1 : ¬ (n : Int) < 3 := by omega
  have k2 : ¬ (64 : Int) < (n : Int) := by omega
  have k3 : (((n : Int) % 8 != 1) && ((n : Int) % 8 != 7)) = false := by rcases h8 with h | h <;> rw [h] <;> rfl
  have hn64 : n ≤ 64 := by omega
  have hn3 : 3 ≤ n := by omega
  have hn0 : ¬ (n : Int) = 0 := by omega
  have hmk := fun (w : World) => run_mkI n (by omega) w
  have HP := Lib.hid hp
  have HRW : Hid (∀ b : Bool, ((n : Int) % 8 == 1) = b → resW n = if b = true then (sqT n (n - 1)).set 0 1 else sqT n (n - 1)) := hid' fun b hb => by
    unfold resW
    cases b
    · rw [if_neg (beq_eq_false_iff_ne.1 hb), if_neg (by decide)]
    · rw [if_pos (beq_iff_eq.1 hb), if_pos rfl]
  clear h3 h64 hp
  cases e1 : ((n : Int) % 8 != 1)
  case' true =>
    have e2 : ((n : Int) % 8 != 7) = false := by rw [e1] at k3; simpa using k3
    have e8 : ((n : Int) % 8 == 1) = false := by rw [beq_eq_false_iff_ne]; exact bne_iff_ne.1 e1
  case' false =>
    have e8 : ((n : Int) % 8 == 1) = true := by
      cases h : ((n : Int) % 8 == 1)
      · have h5 := beq_eq_false_iff_ne.1 h
        rw [bne_iff_ne.2 h5] at e1; cases e1
      · rfl
  all_goals
    have HRE := Lib.hid (HRW.out _ e8)
    clear k3 h8 HRW
    go_enter Try.func31, Try.ntmps31
    go_upto_region 1 with fail
    rw [HW0.out]
    go_wp2_with fail
    refine (prime_small _ n (by omega) (by omega)).mono ?_
    rintro e w1 ⟨rfl, hb1⟩
    rw [show decide (leastN n = n) = true from decide_eq_true HP.out]
    have HRB1 := Lib.hid (HRB.out.belowS hb1); have HB1 := Lib.hid (bl_trans HB0.out hb1)
    clear hb1
    have HR0 : Hid (RI (w1.alloc (.cells (madeCells #[.int .i64 0] n) 3)) w1.heap.size (sqT n 0)) := RI.made w1 n
    have HBA := Lib.hid (bl_alloc w1 (.cells (madeCells #[.int .i64 0] n) 3))
    go_wp2_with fail
    clear hmk
    obtain ⟨g, hg⟩ : ∃ g, g = w1.heap.size := ⟨_, rfl⟩
    have HGE := Lib.hid hg
    rw [← hg] at HR0 ⊢
    clear hg
    go_loopw [5] (fun i wr => ∃ k : Nat, 1 ≤ k ∧ k ≤ n ∧ i = .int .i64 (k : Int) ∧ Hid (RI wr g (sqT n (k - 1))) ∧ Hid (Below w1.heap.size w1 wr)) (fun i _ => n - (intOf i).toNat)
    case atStart => exact ⟨1, Nat.le_refl _, by omega, rfl, HR0, HBA⟩
    case round =>
      clear HR0 HBA
      obtain ⟨k, hk1, hk, rfl, HR, HB⟩ := hrel
      by_cases hkn : k < n
      · obtain ⟨p, hpe⟩ : ∃ p, p = k * k % n := ⟨_, rfl⟩
        have hpn : p < n := by rw [hpe]; exact Nat.mod_lt _ (by omega)
        have hkk : k * k ≤ 4096 := Nat.mul_le_mul (show k ≤ 64 by omega) (show k ≤ 64 by omega)
        obtain ⟨s, hs⟩ : ∃ s, s = k * k := ⟨_, rfl⟩
        have hss : (k : Int) * (k : Int) = (s : Int) := by rw [hs]; push_cast; rfl
        have hpi : (s : Int) % (n : Int) = (p : Int) := by rw [hs, hpe]; push_cast; rfl
        have hw1 : IntKind.i64.wrap (s : Int) = (s : Int) := IntWalk.i64_in _ (by omega)
        have hw2 : wrap64 (s : Int) = (s : Int) := by unfold wrap64; omega
        have HST : Hid ((sqT n (k - 1)).set p 1 = sqT n (k + 1 - 1)) := hid' (by
          obtain ⟨j, rfl⟩ : ∃ j, k = j + 1 := ⟨k - 1, by omega⟩
          show _ = sqT n (j + 1)
          rw [sqT, hpe]; rfl)
        have u0 := HR.out.cell p (by rw [sqT_len]; exact hpn)
        generalize hz : (sqT n (k - 1)).getD p 0 = z0 at u0
        clear hz
        have uf := HR.out.frozen p
        have HR2 := Lib.hid (HR.out.set p 1)
        rw [HST.out] at HR2
        have HB2 := Lib.hid (HB.out.setCell (p := ⟨g, p, none⟩) (by rw [HGE.out]; exact Nat.le_refl _) (.int .i64 1))
        clear hpe hkk hs
        go_wp2_with fail
        exact ⟨⟨k + 1, by omega, by omega, by push_cast; rfl, HR2, HB2⟩, by simp only [intOf]; omega⟩
      · obtain rfl : n = k := by omega
        have v0 := HR.out.cell 0 (by rw [sqT_len]; omega)
        generalize hz : (sqT n (n - 1)).getD 0 0 = z0 at v0
        clear hz
        have vf := HR.out.frozen 0
        have HR3 := Lib.hid (HR.out.set 0 1)
        have HB3 := Lib.hid (HB.out.setCell (p := ⟨g, 0, none⟩) (by rw [HGE.out]; exact Nat.le_refl _) (.int .i64 1))
        have HZ : Hid (∃ wz, wz = (if ((n : Int) % 8 == 1) = true then wr.setCell ⟨g, 0, none⟩ (.int .i64 1) else wr) ∧ RI wz g (resW n) ∧ Below w1.heap.size w1 wz) := hid' (by
          refine ⟨_, rfl, ?_⟩
          rw [HRE.out, e8]
          first
            | exact ⟨HR3.out, HB3.out⟩
            | exact ⟨HR.out, HB.out⟩)
        rw [e8] at HZ
        clear HRE HR3 HB3
        go_upto_region 10 with fail
        obtain ⟨wz, hwz, hrz, hbz⟩ := HZ.out
        clear HZ
        first
          | rw [if_pos rfl] at hwz
          | rw [if_neg (by decide)] at hwz
        rw [← hwz]
        clear hwz v0 vf HR HB
        have hrs := hrz.si (by rw [HRL.out]; omega) HRI.out
        rw [HRL.out] at hrs
        have HZS := Lib.hid hrs
        have HBZ := Lib.hid (bl_trans HB1.out hbz); have HRBZ := Lib.hid (HRB1.out.belowS hbz)
        clear hrs hrz hbz
        go_wp2_with fail
        refine (binary_any _).mono ?_
        rintro e w4 ⟨rfl, hb4⟩
        have HS4 := Lib.hid (HZS.out.below hb4 (Nat.le_refl _)); have HB4 := Lib.hid (bl_trans HBZ.out hb4); have HRB4 := Lib.hid (HRBZ.out.belowS hb4)
        clear hb4
        go_wp2_with fail
        refine (HSH.out _ _ HS4.out).mono ?_
        rintro e w5 ⟨u5, g5, rfl, hx5, hb5⟩
        obtain ⟨⟨MA, mc, rfl, _⟩, ⟨DA, dc, rfl, _⟩⟩ := hx5.out
        have HX5 : Hid (Sep w4.heap.size w5 fun w9 => SI w9 (.slice MA 0 mc) [] ∧ SS w9 (.slice DA C.length dc) C) := hid' hx5
        have HB5 := Lib.hid (bl_trans HB4.out hb5); have HRB5 := Lib.hid (HRB4.out.belowS hb5)
        have hlt4 := HRB4.out.lt
        clear hx5 hb5
        generalize C.length = dl at *
        obtain ⟨d0, d1, d2, d3, d4, f0, f1, f2, f3, f4⟩ := HRB5.out.five
        go_wp2_with fail
        obtain ⟨w9, h9, HL⟩ := lay5 (x := .int .i64 2) (y := .int .i64 1) (z := .slice MA 0 mc) (u := .int .i64 (n : Int)) (v := .slice DA dl dc) HRB5.out
        rw [h9]
        have q0 := HL.c0; have q1 := HL.c1; have q2 := HL.c2; have q3 := HL.c3; have q4 := HL.c4
        refine bodyPost_ret (v := .tuple #[.agg #[.int .i64 2, .int .i64 1, .slice MA 0 mc, .int .i64 (n : Int), .slice DA dl dc], .int .i64 0]) (by simp [results, Try.results31, go_sem, q0, q1, q2, q3, q4]) rfl ?_
        exact ⟨_, _, rfl, (HX5.out.grown HL.gr (by rintro b e; cases e; omega)).mono HB4.out.size, HL.below HB5.out HB5.out.size (Nat.le_refl _)⟩
end Go.Proofs.Ytdbpbmehcifjpaa

/- The law ClassicSymmetry returns true for every input. Printed by a program (gen_sym15.py). -/
namespace Go.Proofs.Ytdbpbmehcifjpaa
open Go.RowKit
set_option linter.unusedVariables false
set_option maxRecDepth 100000

set_option maxHeartbeats 16000000 in
theorem lawSym_no (w : World) (n b0 b1 : Int) (v : Value) (hn : ¬ LenOk n) : Calls Try.prog 9 #[.int .i64 n, v, .agg #[.int .i64 b0, .int .i64 b1]] w (RetB w true) := by
  have HL : Hid (decide (LenOk n) = false) := hid' (decide_eq_false hn)
  have HC := Lib.hid (fun w => cRes_no w n hn)
  clear hn
  obtain ⟨w0, hw0⟩ : ∃ w0, w0 = w.alloc (.cells #[.int .i64 b0, .int .i64 b1] 50) := ⟨_, rfl⟩
  have HW0 := Lib.hid hw0.symm
  have HB : Hid (Below w.heap.size w w0) := hid' (by rw [hw0]; exact bl_alloc w _)
  clear hw0
  go_enter Try.func9, Try.ntmps9
  go_upto_region 1 with fail
  rw [HW0.out]
  clear HW0
  go_wp2_with fail
  refine (alive15_any _).mono ?_
  rintro e y1 ⟨rfl, hb1⟩
  replace HB := Lib.hid (bl_trans HB.out hb1)
  go_wp2_with fail
  refine (HC.out _).mono ?_
  rintro e y2 ⟨u, gg, rfl, hx, hb2⟩
  replace HB := Lib.hid (bl_trans HB.out hb2)
  obtain ⟨⟨MA, mA, rfl, _⟩, ⟨GA, cA, rfl, _⟩⟩ := hx.out
  have XMA := Lib.hid hx.out.1; have XGA := Lib.hid hx.out.2; clear hx
  change Hid (SI _ (.slice MA 0 mA) []) at XMA
  change Hid (SS _ (.slice GA 0 cA) ([] : List (List Int))) at XGA
  go_upto_region 4 with fail
  obtain ⟨z2, gA, e1, e2, hbx, hbz⟩ := mk_box y2 27 [.int .i64 0, .int .i64 0, .slice MA 0 mA, .int .i64 0, .slice GA 0 cA]
  rw [e1, e2]
  clear e1
  replace XMA := Lib.hid (XMA.out.below hbz (Nat.le_refl _))
  replace XGA := Lib.hid (XGA.out.below hbz (Nat.le_refl _))
  replace HB := Lib.hid (bl_trans HB.out hbz)
  have TA := Lib.hid hbx; clear hbx hbz e2
  go_wp2_with fail
  refine (rLen_any _ n).mono ?_
  rintro e y5 ⟨rfl, rfl⟩
  rw [HL.out]
  go_wp2_with fail
  go_ret
  exact ⟨rfl, HB.out⟩

set_option maxHeartbeats 32000000 in
theorem lawSym_ok (w : World) (n : Nat) (b0 b1 : Int) (v : Value) (msg : List Int) (hv : SI w v msg) (hn : LenOk (n : Int)) : Calls Try.prog 9 #[.int .i64 (n : Int), v, .agg #[.int .i64 b0, .int .i64 b1]] w (RetB w true) := by
  have HL : Hid (decide (LenOk (n : Int)) = true) := hid' (decide_eq_true hn)
  have HC := Lib.hid (fun w => cRes_ok w n hn)
  have hn64 : n ≤ 64 := by have := hn.2.1; omega
  have hn3 : 3 ≤ n := by have := hn.1; omega
  have HSIX := Lib.hid (len_six n (by omega) hn)
  have HMS := Lib.hid hv
  have eC : codeE 2 1 [] (n : Int) (canonL (refOps 2 1 []) (shL (resW n)) n) = 0 := by
    have hC : Cn (refOps 2 1 []) (orderF 2 1) n (canonL (refOps 2 1 []) (shL (resW n)) n) := Cn.canon (by rw [order21]; exact two_fld) (by rw [order21]; exact res_rows n)
    unfold codeE
    rw [if_neg (by rw [checkF_ok field21]; simp), if_pos (by omega)]
    exact hC.spaceE field21 (by omega)
  have HHC := Lib.hid (fun (w' : World) (u1 u2 u3 : Value) (x : List Int) (h1 : SI w' u1 []) (h2 : SS w' u2 _) (h3 : SI w' u3 x) (hl : x.length = n) (he : entriesF 2 x = 0) => cHas_ok w' 2 1 n u1 u2 u3 [] x _ h1 h2 h3 eC hl (by rw [order21]; exact he))
  have HHAS := Lib.hid (fun (s b : Nat) (h1 : 1 ≤ s) (h2 : s < n) (hb : b < n) (he : encE 2 1 [] (n : Int) (canonL (refOps 2 1 []) (shL (resW n)) n) msg = 0) => sym_has (msg := msg) HSIX.out h1 h2 hb he)
  have HEF := Lib.hid (fun (he : encE 2 1 [] (n : Int) (canonL (refOps 2 1 []) (shL (resW n)) n) msg = 0) => enc_facts he)
  generalize canonL (refOps 2 1 []) (shL (resW n)) n = C at *
  clear hn eC hv
  obtain ⟨w0, hw0⟩ : ∃ w0, w0 = w.alloc (.cells #[.int .i64 b0, .int .i64 b1] 50) := ⟨_, rfl⟩
  have HW0 := Lib.hid hw0.symm
  have TV : Hid (Blk w0 w.heap.size 50 [.int .i64 b0, .int .i64 b1]) := hid' (by rw [hw0]; exact Blk.new w _ [.int .i64 b0, .int .i64 b1])
  have HB : Hid (Below w.heap.size w w0) := hid' (by rw [hw0]; exact bl_alloc w _)
  clear hw0
  go_enter Try.func9, Try.ntmps9
  go_upto_region 1 with fail
  rw [HW0.out]
  clear HW0
  go_wp2_with fail
  refine (alive15_any _).mono ?_
  rintro e y1 ⟨rfl, hb1⟩
  replace TV := Lib.hid (TV.out.belowS hb1)
  replace HB := Lib.hid (bl_trans HB.out hb1)
  go_wp2_with fail
  refine (HC.out _).mono ?_
  rintro e y2 ⟨u, gg, rfl, hx, hb2⟩
  replace TV := Lib.hid (TV.out.belowS hb2)
  replace HB := Lib.hid (bl_trans HB.out hb2)
  obtain ⟨⟨MA, mA, rfl, _⟩, ⟨GA, cA, rfl, _⟩⟩ := hx.out
  have XMA := Lib.hid hx.out.1; have XGA := Lib.hid hx.out.2; clear hx
  change Hid (SI _ (.slice MA 0 mA) []) at XMA
  change Hid (SS _ (.slice GA C.length cA) C) at XGA
  go_upto_region 4 with fail
  obtain ⟨z2, gA, e1, e2, hbx, hbz⟩ := mk_box y2 27 [.int .i64 2, .int .i64 1, .slice MA 0 mA, .int .i64 (n : Int), .slice GA C.length cA]
  rw [e1, e2]
  clear e1
  replace TV := Lib.hid (TV.out.belowS hbz)
  replace XMA := Lib.hid (XMA.out.below hbz (Nat.le_refl _))
  replace XGA := Lib.hid (XGA.out.below hbz (Nat.le_refl _))
  replace HB := Lib.hid (bl_trans HB.out hbz)
  have TA := Lib.hid hbx; clear hbx hbz e2
  go_wp2_with fail
  refine (rLen_any _ (n : Int)).mono ?_
  rintro e y5 ⟨rfl, rfl⟩
  rw [HL.out]
  have cTA0 : z2.cell? ⟨gA, 0, none⟩ = some (.int .i64 2) := TA.out.cell 0
  have cTA1 : z2.cell? ⟨gA, 1, none⟩ = some (.int .i64 1) := TA.out.cell 1
  have cTA2 : z2.cell? ⟨gA, 2, none⟩ = some (.slice MA 0 mA) := TA.out.cell 2
  have cTA3 : z2.cell? ⟨gA, 3, none⟩ = some (.int .i64 (n : Int)) := TA.out.cell 3
  have cTA4 : z2.cell? ⟨gA, 4, none⟩ = some (.slice GA C.length cA) := TA.out.cell 4
  go_wp2_with fail
  refine (rEncode_any _ 2 1 (n : Int) _ _ _ [] msg C XMA.out XGA.out (HMS.out.below HB.out (Nat.le_refl _))).mono ?_
  rintro e y3 ⟨u4, rfl, hs4, _, hb3⟩
  clear cTA0 cTA1 cTA2 cTA3 cTA4
  replace TV := Lib.hid (TV.out.belowS hb3)
  replace TA := Lib.hid (TA.out.belowS hb3)
  replace XMA := Lib.hid (XMA.out.below hb3 (Nat.le_refl _))
  replace XGA := Lib.hid (XGA.out.below hb3 (Nat.le_refl _))
  replace HB := Lib.hid (bl_trans HB.out hb3)
  have XW := Lib.hid hs4; clear hs4
  have cTV0 : y3.cell? ⟨w.heap.size, 0, none⟩ = some (.int .i64 b0) := TV.out.cell 0
  have cTV1 : y3.cell? ⟨w.heap.size, 1, none⟩ = some (.int .i64 b1) := TV.out.cell 1
  by_cases hen : encE 2 1 [] (n : Int) C msg = 0
  case neg =>
    have hb1 : (encE 2 1 [] (n : Int) C msg != 0) = true := by rw [bne_iff_ne]; exact hen
    clear hen
    go_wp2_with fail
    go_ret
    exact ⟨rfl, HB.out⟩
  have HEN := Lib.hid hen
  rw [hen]
  clear hen
  have hzf := HEF.out HEN.out
  generalize encL 2 1 [] (n : Int) C msg = z at *
  have HZL := Lib.hid hzf.1; have HZB := Lib.hid hzf.2
  clear hzf
  obtain ⟨WA, wc, rfl, _⟩ := id XW.out
  replace XW : Hid (SI _ (.slice WA n wc) z) := hid' (by have h := XW.out; rw [HZL.out] at h; exact h)
  rw [HZL.out]
  have hcase : b0 < 0 ∨ (¬ b0 < 0 ∧ (n : Int) ≤ b0) ∨ (¬ b0 < 0 ∧ ¬ (n : Int) ≤ b0 ∧ b1 < 1) ∨ (¬ b0 < 0 ∧ ¬ (n : Int) ≤ b0 ∧ ¬ b1 < 1 ∧ (n : Int) ≤ b1) ∨ ∃ b s : Nat, b0 = (b : Int) ∧ b1 = (s : Int) ∧ b < n ∧ 1 ≤ s ∧ s < n := by
    by_cases h1 : b0 < 0
    · exact .inl h1
    · by_cases h2 : (n : Int) ≤ b0
      · exact .inr (.inl ⟨h1, h2⟩)
      · by_cases h3 : b1 < 1
        · exact .inr (.inr (.inl ⟨h1, h2, h3⟩))
        · by_cases h4 : (n : Int) ≤ b1
          · exact .inr (.inr (.inr (.inl ⟨h1, h2, h3, h4⟩)))
          · exact .inr (.inr (.inr (.inr ⟨b0.toNat, b1.toNat, by omega, by omega, by omega, by omega, by omega⟩)))
  rcases hcase with h | ⟨k1, h⟩ | ⟨k1, k2, h⟩ | ⟨k1, k2, k3, h⟩ | ⟨b, s, rfl, rfl, hb, hs1, hsn⟩
  · go_wp2_with fail
    go_ret
    exact ⟨rfl, HB.out⟩
  · go_wp2_with fail
    go_ret
    exact ⟨rfl, HB.out⟩
  · go_wp2_with fail
    go_ret
    exact ⟨rfl, HB.out⟩
  · go_wp2_with fail
    go_ret
    exact ⟨rfl, HB.out⟩
  have k1 : ¬ (b : Int) < 0 := by omega
  have k2 : ¬ (n : Int) ≤ (b : Int) := by omega
  have k3 : ¬ (s : Int) < 1 := by omega
  have k4 : ¬ (n : Int) ≤ (s : Int) := by omega
  have hn0 : ¬ (n : Int) = 0 := by omega
  obtain ⟨S, hS⟩ : ∃ S, S = s * s := ⟨_, rfl⟩
  have hS2 : S ≤ 4096 := by rw [hS]; exact Nat.mul_le_mul (show s ≤ 64 by omega) (show s ≤ 64 by omega)
  have hss : (s : Int) * (s : Int) = (S : Int) := by rw [hS]; push_cast; rfl
  have hwS : IntKind.i64.wrap (S : Int) = (S : Int) := IntWalk.i64_in _ (by omega)
  have hwS2 : wrap64 (S : Int) = (S : Int) := by unfold wrap64; omega
  obtain ⟨a, ha⟩ : ∃ a, a = S % n := ⟨_, rfl⟩
  have hSa : (S : Int) % (n : Int) = (a : Int) := by rw [ha]; push_cast; rfl
  have han : a < n := by rw [ha]; exact Nat.mod_lt _ (by omega)
  have HA : Hid (a = s * s % n) := hid' (by rw [ha, hS])
  have HH := Lib.hid (HHAS.out s b hs1 hsn hb HEN.out)
  rw [← HA.out] at HH
  have hqs := sym_all HSIX.out hs1 hsn
  rw [← HA.out] at hqs
  clear hqs ha hS HHAS HEF
  have hmk := fun (w : World) => run_mkI n (by omega) w
  have HR0 : Hid (RI (y3.alloc (.cells (madeCells #[.int .i64 0] n) 3)) y3.heap.size (zT n a b z 0)) := RI.made y3 n
  have HBA := Lib.hid (bl_alloc y3 (.cells (madeCells #[.int .i64 0] n) 3))
  go_wp2_with fail
  rw [hSa]
  have e1 : decide (n ≤ b) = false := decide_eq_false (by omega)
  have e2 : decide (n ≤ s) = false := decide_eq_false (by omega)
  simp only [e1, e2, Bool.or_false]
  clear e1 e2
  clear hmk hss hwS hwS2 hSa
  obtain ⟨g, hg⟩ : ∃ g, g = y3.heap.size := ⟨_, rfl⟩
  have HGE := Lib.hid hg
  rw [← hg] at HR0 ⊢
  clear hg cTV0 cTV1
  go_loopw [13] (fun i wr => ∃ k : Nat, k ≤ n ∧ i = .int .i64 (k : Int) ∧ Hid (RI wr g (zT n a b z k)) ∧ Hid (Below y3.heap.size y3 wr)) (fun i _ => n - (intOf i).toNat)
  case atStart => exact ⟨0, Nat.zero_le _, rfl, HR0, HBA⟩
  case round =>
    clear HR0 HBA
    obtain ⟨k, hk, rfl, HR, HBr⟩ := hrel
    by_cases hkn : k < n
    · obtain ⟨m, hm⟩ : ∃ m, m = a * k := ⟨_, rfl⟩
      have hm2 : m ≤ 4096 := by rw [hm]; exact Nat.mul_le_mul (show a ≤ 64 by omega) (show k ≤ 64 by omega)
      have hmm : (a : Int) * (k : Int) = (m : Int) := by rw [hm]; push_cast; rfl
      have hwm : IntKind.i64.wrap (m : Int) = (m : Int) := IntWalk.i64_in _ (by omega)
      obtain ⟨t, ht⟩ : ∃ t, t = m + b := ⟨_, rfl⟩
      have htt : (m : Int) + (b : Int) = (t : Int) := by rw [ht]; push_cast; rfl
      have hwt : IntKind.i64.wrap (t : Int) = (t : Int) := IntWalk.i64_in _ (by omega)
      obtain ⟨p, hp⟩ : ∃ p, p = t % n := ⟨_, rfl⟩
      have hpp : (t : Int) % (n : Int) = (p : Int) := by rw [hp]; push_cast; rfl
      have hpt : (t : Int).tmod (n : Int) = (p : Int) := by rw [Int.tmod_eq_emod_of_nonneg (by omega)]; exact hpp
      have hnn : ¬ n = 0 := by omega
      have hpn : p < n := by rw [hp]; exact Nat.mod_lt _ (by omega)
      have HPE : Hid (p = (a * k + b) % n) := hid' (by rw [hp, ht, hm])
      clear hm ht hp
      obtain ⟨wd, x, rfl, hxc, _, HX⟩ := (XW.out.below HBr.out (Nat.le_refl _)).elt (k := k) (by rw [HZL.out]; exact hkn)
      have tv0 : wr.cell? ⟨w.heap.size, 0, none⟩ = some (.int .i64 (b : Int)) := (TV.out.belowS HBr.out).cell 0
      have HST : Hid ((zT n a b z k).set p x = zT n a b z (k + 1)) := hid' (by rw [zT, ← HPE.out, HX.out])
      have u0 := HR.out.cell p (by rw [zT_len]; exact hpn)
      generalize hz : (zT n a b z k).getD p 0 = z0 at u0
      clear hz
      have uf := HR.out.frozen p
      have HR2 := Lib.hid (HR.out.set p x)
      rw [HST.out] at HR2
      have HB2 := Lib.hid (HBr.out.setCell (p := ⟨g, p, none⟩) (by rw [HGE.out]; exact Nat.le_refl _) (.int .i64 x))
      go_wp2_with fail
      refine Drawn.start (S := fun w' => w'.cell? ⟨w.heap.size, 0, none⟩ = some (.int .i64 (b : Int)) ∧ w'.cell? (wd.add k) = some (.int .i64 x) ∧ w'.cell? ⟨g, p, none⟩ = some (.int .i64 z0)) (by kernel_rfl) (⟨tv0, hxc, u0⟩) (fun hHeld => ?_)
      change Drawn _ _ _ _ 15 _ _ _
      refine Drawn.take (i := 0) (v := ?_) rfl (by kernel_rfl) (by kernel_rfl) (by kernel_rfl) (by kernel_rfl) (fun _ _ _ h => h) (Or.inl ⟨by kernel_rfl, ?_⟩) hHeld ?_
      rotate_left
      · intro w' hSw; (try dsimp only at hSw); first | (go_simp; done) | (go_simp; with_reducible rfl)
      try simp only [List.getElem_toArray, List.getElem_cons_zero, List.getElem_cons_succ, Act.put, List.setIfInBounds_toArray, List.set_cons_zero, List.set_cons_succ]
      refine Drawn.take (i := 1) (v := ?_) rfl (by kernel_rfl) (by kernel_rfl) (by kernel_rfl) (by kernel_rfl) (fun _ _ _ h => h) (Or.inl ⟨by kernel_rfl, ?_⟩) hHeld ?_
      rotate_left
      · intro w' hSw; (try dsimp only at hSw); first | (go_simp; done) | (go_simp; with_reducible rfl)
      try simp only [List.getElem_toArray, List.getElem_cons_zero, List.getElem_cons_succ, Act.put, List.setIfInBounds_toArray, List.set_cons_zero, List.set_cons_succ]
      refine Drawn.take (i := 2) (v := ?_) rfl (by kernel_rfl) (by kernel_rfl) (by kernel_rfl) (by kernel_rfl) (fun _ _ _ h => h) (Or.inl ⟨by kernel_rfl, ?_⟩) hHeld ?_
      rotate_left
      · intro w' hSw; (try dsimp only at hSw); first | (go_simp; done) | (go_simp; with_reducible rfl)
      try simp only [List.getElem_toArray, List.getElem_cons_zero, List.getElem_cons_succ, Act.put, List.setIfInBounds_toArray, List.set_cons_zero, List.set_cons_succ]
      refine Drawn.take (i := 3) (v := ?_) rfl (by kernel_rfl) (by kernel_rfl) (by kernel_rfl) (by kernel_rfl) (fun _ _ _ h => h) (Or.inl ⟨by kernel_rfl, ?_⟩) hHeld ?_
      rotate_left
      · intro w' hSw; (try dsimp only at hSw); first | (go_simp; done) | (go_simp; with_reducible rfl)
      try simp only [List.getElem_toArray, List.getElem_cons_zero, List.getElem_cons_succ, Act.put, List.setIfInBounds_toArray, List.set_cons_zero, List.set_cons_succ]
      refine Drawn.take (i := 4) (v := ?_) rfl (by kernel_rfl) (by kernel_rfl) (by kernel_rfl) (by kernel_rfl) (fun _ _ _ h => h) (Or.inl ⟨by kernel_rfl, ?_⟩) hHeld ?_
      rotate_left
      · intro w' hSw; (try dsimp only at hSw); first | (go_simp; done) | (go_simp; with_reducible rfl)
      try simp only [List.getElem_toArray, List.getElem_cons_zero, List.getElem_cons_succ, Act.put, List.setIfInBounds_toArray, List.set_cons_zero, List.set_cons_succ]
      refine Drawn.take (i := 5) (v := ?_) rfl (by kernel_rfl) (by kernel_rfl) (by kernel_rfl) (by kernel_rfl) (fun _ _ _ h => h) (Or.inl ⟨by kernel_rfl, ?_⟩) hHeld ?_
      rotate_left
      · intro w' hSw; (try dsimp only at hSw); first | (go_simp; done) | (go_simp; with_reducible rfl)
      try simp only [List.getElem_toArray, List.getElem_cons_zero, List.getElem_cons_succ, Act.put, List.setIfInBounds_toArray, List.set_cons_zero, List.set_cons_succ]
      refine Drawn.take (i := 6) (v := ?_) rfl (by kernel_rfl) (by kernel_rfl) (by kernel_rfl) (by kernel_rfl) (fun _ _ _ h => h) (Or.inl ⟨by kernel_rfl, ?_⟩) hHeld ?_
      rotate_left
      · intro w' hSw; (try dsimp only at hSw); first | (go_simp; done) | (go_simp; with_reducible rfl)
      try simp only [List.getElem_toArray, List.getElem_cons_zero, List.getElem_cons_succ, Act.put, List.setIfInBounds_toArray, List.set_cons_zero, List.set_cons_succ]
      refine Drawn.take (i := 7) (v := ?_) rfl (by kernel_rfl) (by kernel_rfl) (by kernel_rfl) (by kernel_rfl) (fun _ _ _ h => h) (Or.inl ⟨by kernel_rfl, ?_⟩) hHeld ?_
      rotate_left
      · intro w' hSw; (try dsimp only at hSw); first | (go_simp; done) | (go_simp; with_reducible rfl)
      try simp only [List.getElem_toArray, List.getElem_cons_zero, List.getElem_cons_succ, Act.put, List.setIfInBounds_toArray, List.set_cons_zero, List.set_cons_succ]
      refine Drawn.take (i := 8) (v := ?_) rfl (by kernel_rfl) (by kernel_rfl) (by kernel_rfl) (by kernel_rfl) (fun _ _ _ h => h) (Or.inl ⟨by kernel_rfl, ?_⟩) hHeld ?_
      rotate_left
      · intro w' hSw; (try dsimp only at hSw); first | (go_simp; done) | (go_simp; with_reducible rfl)
      try simp only [List.getElem_toArray, List.getElem_cons_zero, List.getElem_cons_succ, Act.put, List.setIfInBounds_toArray, List.set_cons_zero, List.set_cons_succ]
      refine Drawn.take (i := 9) (v := ?_) rfl (by kernel_rfl) (by kernel_rfl) (by kernel_rfl) (by kernel_rfl) (fun _ _ _ h => h) (Or.inl ⟨by kernel_rfl, ?_⟩) hHeld ?_
      rotate_left
      · intro w' hSw; (try dsimp only at hSw); first | (go_simp; done) | (go_simp; with_reducible rfl)
      try simp only [List.getElem_toArray, List.getElem_cons_zero, List.getElem_cons_succ, Act.put, List.setIfInBounds_toArray, List.set_cons_zero, List.set_cons_succ]
      refine Drawn.take (i := 10) (v := ?_) rfl (by kernel_rfl) (by kernel_rfl) (by kernel_rfl) (by kernel_rfl) (fun _ _ _ h => h) (Or.inl ⟨by kernel_rfl, ?_⟩) hHeld ?_
      rotate_left
      · intro w' hSw; (try dsimp only at hSw); first | (go_simp; done) | (go_simp; with_reducible rfl)
      try simp only [List.getElem_toArray, List.getElem_cons_zero, List.getElem_cons_succ, Act.put, List.setIfInBounds_toArray, List.set_cons_zero, List.set_cons_succ]
      refine Drawn.take (i := 11) (v := ?_) rfl (by kernel_rfl) (by kernel_rfl) (by kernel_rfl) (by kernel_rfl) (fun _ _ _ h => h) (Or.inl ⟨by kernel_rfl, ?_⟩) hHeld ?_
      rotate_left
      · intro w' hSw; (try dsimp only at hSw); first | (go_simp; done) | (go_simp; with_reducible rfl)
      try simp only [List.getElem_toArray, List.getElem_cons_zero, List.getElem_cons_succ, Act.put, List.setIfInBounds_toArray, List.set_cons_zero, List.set_cons_succ]
      refine Drawn.take (i := 12) (v := ?_) rfl (by kernel_rfl) (by kernel_rfl) (by kernel_rfl) (by kernel_rfl) (fun _ _ _ h => h) (Or.inl ⟨by kernel_rfl, ?_⟩) hHeld ?_
      rotate_left
      · intro w' hSw; (try dsimp only at hSw); first | (go_simp; done) | (go_simp; with_reducible rfl)
      try simp only [List.getElem_toArray, List.getElem_cons_zero, List.getElem_cons_succ, Act.put, List.setIfInBounds_toArray, List.set_cons_zero, List.set_cons_succ]
      refine Drawn.take (i := 13) (v := ?_) rfl (by kernel_rfl) (by kernel_rfl) (by kernel_rfl) (by kernel_rfl) (fun _ _ _ h => h) (Or.inl ⟨by kernel_rfl, ?_⟩) hHeld ?_
      rotate_left
      · intro w' hSw; (try dsimp only at hSw); first | (go_simp; done) | (go_simp; with_reducible rfl)
      try simp only [List.getElem_toArray, List.getElem_cons_zero, List.getElem_cons_succ, Act.put, List.setIfInBounds_toArray, List.set_cons_zero, List.set_cons_succ]
      refine Drawn.only (i := 14) (by kernel_rfl) rfl (fun K hK => ?_)
      go_simp
      refine hK.out _ _ (fun h => absurd rfl h) (fun hHeld2 => ?_)
      clear hK K
      clear hHeld2
      refine Drawn.done (by kernel_rfl) ?_
      try simp only [List.getElem_toArray, List.getElem_cons_zero, List.getElem_cons_succ, Act.put, List.setIfInBounds_toArray, List.set_cons_zero, List.set_cons_succ]
      clear hHeld
      go_wp2_with fail
      exact ⟨⟨k + 1, by omega, by push_cast; rfl, HR2.out.drew, HB2.out.drew⟩, by simp only [intOf]; omega⟩
    · obtain rfl : n = k := by omega
      have hzb := zT_bit (n := n) (a := a) (b := b) (q := 2) (by decide) HZB.out n
      have hzs := HR.out.si (by rw [zT_len]; omega) (fun i => by have := hzb i; exact I64.of_small (by omega) (by omega))
      rw [zT_len] at hzs
      have HZS := Lib.hid hzs
      have HZE : Hid (entriesF 2 (zT n a b z n) = 0) := hid' (entriesF_ok fun i _ => hzb i)
      have HZN := Lib.hid (zT_len n a b z n)
      have XMB := Lib.hid (XMA.out.below HBr.out (Nat.le_refl _)); have XGB := Lib.hid (XGA.out.below HBr.out (Nat.le_refl _)); have HBB := Lib.hid (bl_trans HB.out HBr.out); have TB := Lib.hid (TA.out.belowS HBr.out)
      clear hzb hzs
      have c0 : wr.cell? ⟨gA, 0, none⟩ = some (.int .i64 2) := TB.out.cell 0
      have c1 : wr.cell? ⟨gA, 1, none⟩ = some (.int .i64 1) := TB.out.cell 1
      have c2 : wr.cell? ⟨gA, 2, none⟩ = some (.slice MA 0 mA) := TB.out.cell 2
      have c3 : wr.cell? ⟨gA, 3, none⟩ = some (.int .i64 (n : Int)) := TB.out.cell 3
      have c4 : wr.cell? ⟨gA, 4, none⟩ = some (.slice GA C.length cA) := TB.out.cell 4
      go_wp2_with fail
      refine (HHC.out _ _ _ _ (zT n a b z n) XMB.out XGB.out HZS.out HZN.out HZE.out).mono ?_
      rintro e v9 ⟨rfl, hb9⟩
      rw [HH.out]
      go_wp2_with fail
      go_ret
      exact ⟨rfl, bl_trans HBB.out hb9⟩
theorem lawSym (w : World) (n : Int) {v : Value} (hv : ∃ xs, SI w v xs) {u : Value} (hu : ∃ b0 b1 : Int, u = .agg #[.int .i64 b0, .int .i64 b1]) : Calls Try.prog 9 #[.int .i64 n, v, u] w (RetB w true) := by
  obtain ⟨msg, hv⟩ := hv
  obtain ⟨b0, b1, rfl⟩ := hu
  by_cases h : LenOk n
  · obtain ⟨k, rfl⟩ : ∃ k : Nat, n = (k : Int) := ⟨n.toNat, by have := h.1; omega⟩
    exact lawSym_ok w k b0 b1 v msg hv h
  · exact lawSym_no w n b0 b1 v h
end Go.Proofs.Ytdbpbmehcifjpaa
