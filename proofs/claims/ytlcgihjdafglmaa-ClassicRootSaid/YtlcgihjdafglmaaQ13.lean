/- Texts of a claim, merged: words, plain facts and walks that the last of its texts uses. -/
import Derived.Test.YtlcgihjdafglmaaQ1
import Derived.Test.YtlcgihjdafglmaaQ9
import Derived.Test.YtlcgihjdafglmaaQ11
import Derived.Test.YtlcgihjdafglmaaQ12
import Derived.Deep.CutRange
import Derived.WalkMore
set_option linter.unusedSimpArgs false
set_option linter.unusedVariables false

/- ref15.ReedMuller. -/
namespace Go.Proofs.Ytlcgihjdafglmaa
open Go.RowKit
set_option linter.unusedVariables false
set_option maxRecDepth 100000

def rmRows (r m : Int) : List (List Int) := (monoSpec r m).1.map fun v => (evalSpec m v).1
theorem mono_mem {m : Nat} (hm : m ≤ 6) : ∀ {K : Nat}, K ≤ m + 1 → ∀ {x : List Int}, x ∈ monoTo m K → x.length < K ∧ SubsetP (m : Int) x
  | 0, _, x, hx => by simp [monoTo] at hx
  | K + 1, hK, x, hx => by
    rw [monoTo_succ, List.mem_append] at hx
    rcases hx with hx | hx
    · have := mono_mem hm (K := K) (by omega) hx
      exact ⟨by omega, this.2⟩
    · have := seg_mem hm (show K ≤ m by omega) hx
      exact ⟨by omega, this.2⟩
theorem mono_len : ∀ m : Fin 7, (monoTo m.val (m.val + 1)).length ≤ 64 := by decide +kernel
theorem mono_len_le {m : Nat} (hm : m ≤ 6) {K : Nat} (hK : K ≤ m + 1) : (monoTo m K).length ≤ 64 := by
  have h1 : ∀ d, K + d ≤ m + 1 → (monoTo m K).length ≤ (monoTo m (K + d)).length := by
    intro d
    induction d with
    | zero => intro _; exact Nat.le_refl _
    | succ d ih =>
      intro h
      have := ih (by omega)
      rw [show K + (d + 1) = (K + d) + 1 by omega, monoTo_succ, List.length_append]
      omega
  have h2 := h1 (m + 1 - K) (by omega)
  rw [show K + (m + 1 - K) = m + 1 by omega] at h2
  have := mono_len ⟨m, by omega⟩
  have h3 : (monoTo m (m + 1)).length ≤ 64 := this
  omega
theorem evalF_bit (m : Int) (v : List Int) (i : Nat) : 0 ≤ (evalF m v).getD i 0 ∧ (evalF m v).getD i 0 < 2 := by
  by_cases hi : i < 2 ^ m.toNat
  · rw [evalF_getD m v i hi]; split <;> omega
  · rw [getD_len (by rw [length_evalF]; omega)]; omega
theorem rm_ok {r m : Int} (h0 : 0 ≤ m) (h6 : m ≤ 6) (hr0 : -1 ≤ r) (hr : r ≤ m) : (monoSpec r m) = (monoTo m.toNat (r + 1).toNat, 0) := by
  unfold monoSpec; rw [if_neg (by omega)]
theorem rmRows_rows {r m : Int} (h0 : 0 ≤ m) (h6 : m ≤ 6) (hr0 : -1 ≤ r) (hr : r ≤ m) : Rows 2 (2 ^ m.toNat) (rmRows r m) := fun k hk => by
  unfold rmRows at hk ⊢
  rw [rm_ok h0 h6 hr0 hr] at hk ⊢
  rw [List.length_map] at hk
  have e : ((monoTo m.toNat (r + 1).toNat).map fun v => (evalSpec m v).1).getD k [] = (evalSpec m ((monoTo m.toNat (r + 1).toNat)[k])).1 := by simp [List.getD, hk]
  have hs := (mono_mem (m := m.toNat) (by omega) (K := (r + 1).toNat) (by omega) (List.getElem_mem hk)).2
  rw [Int.toNat_of_nonneg h0] at hs
  rw [e, evalSpec_ok h0 h6 hs]
  exact ⟨length_evalF _ _, evalF_bit _ _⟩

end Go.Proofs.Ytlcgihjdafglmaa

/- classic.ReedMuller. -/
namespace Go.Proofs.Ytlcgihjdafglmaa
open Go.RowKit
set_option linter.unusedVariables false
set_option maxRecDepth 100000

theorem binary_any (w : World) : Calls Try.prog 38 #[] w fun e w' => e = .returned (.agg #[.int .i64 2, .int .i64 1, .slice none 0 0]) ∧ Below w.heap.size w w' := by
  go_enter Try.func38, Try.ntmps38
  go_wp2
  refine bodyPost_ret (v := .agg #[.int .i64 2, .int .i64 1, .slice none 0 0]) (by simp [results, Try.results38, go_sem]) rfl ⟨rfl, ?_⟩
  exact ((Below.refl _ _).alloc (Nat.le_refl _) _)
theorem field21 : FieldP 2 1 [] := ⟨by rw [order21]; decide, ⟨by decide, fun d h1 h2 => by omega⟩, ⟨fun _ => rfl, fun h => absurd rfl h⟩, fun h => absurd rfl h⟩

/-- rows filled one by one -/
def fillS (N : Nat) (f : Nat → List Int) (k : Nat) : List (List Int) := (List.range N).map fun p => if p < k then f p else []
theorem fillS_zero (N : Nat) (f : Nat → List Int) : fillS N f 0 = List.replicate N [] := by simp [fillS, List.map_const']
theorem fillS_full (N : Nat) (f : Nat → List Int) : fillS N f N = (List.range N).map f := List.map_congr_left fun p hp => by rw [if_pos (by simpa using hp)]
theorem fillS_len (N : Nat) (f : Nat → List Int) (k : Nat) : (fillS N f k).length = N := by simp [fillS]
theorem fillS_set {N : Nat} {f : Nat → List Int} {k : Nat} (h : k < N) : (fillS N f k).set k (f k) = fillS N f (k + 1) := by
  apply List.ext_getElem?
  intro i
  by_cases hi : i < N
  · by_cases e : k = i
    · subst e; simp [fillS, hi]
    · have h2 : (i < k + 1) = (i < k) := by simp; omega
      simp [fillS, List.getElem?_set, e, hi, h2]
  · simp [fillS, List.getElem?_set, hi]
theorem OS.madeR {B : Nat} {X : Nat → Prop} (w : World) (n : Nat) (hB : B ≤ w.heap.size) (h : n ≤ 1000000) : OS B X (w.alloc (.cells (madeCells #[.slice none 0 0] n) 22)) (.slice (some ⟨w.heap.size, 0, none⟩) n n) (List.replicate n []) := by
  have := World.ownsRow_lit (base := B) (e := 22) (size := 1) w (madeCells #[.slice none 0 0] n) n hB (by unfold maxLen; omega) (by simp [size_madeCells])
  rw [toList_madeCells_one] at this
  refine ⟨List.replicate n (.slice none 0 0), by rw [List.length_replicate]; exact this, fun i hi => ?_⟩
  rw [List.length_replicate] at hi
  have e : (List.replicate n ([] : List Int)).getD i [] = [] := by simp [List.getD, List.getElem?_replicate, hi]
  rw [e]
  exact ⟨.slice none 0 0, by simp [List.getElem?_replicate, hi], SI.none_ _, fun h0 => absurd h0 (by simp)⟩
theorem rm_rows_range (r m : Int) (l : List (List Int)) (h : l = (monoSpec r m).1) : (List.range l.length).map (fun i => (evalSpec m (l.getD i [])).1) = rmRows r m := by
  unfold rmRows
  rw [← h]
  apply List.ext_getElem?
  intro i
  by_cases hi : i < l.length
  · simp [hi, List.getD]
  · simp [hi, Nat.le_of_not_lt hi]

theorem wrap_pow {x : Int} {N : Nat} (hN : N ≤ 64) (hx : x = (N : Int)) : IntKind.i64.wrap x = (N : Int) := by
  subst hx
  simp only [IntKind.wrap, IntKind.bits, IntKind.signed]
  simp
  omega
end Go.Proofs.Ytlcgihjdafglmaa

/- classic.shifts. -/
namespace Go.Proofs.Ytlcgihjdafglmaa
open Go.RowKit
set_option linter.unusedVariables false
set_option maxRecDepth 100000

/-- the box of a field, and behind it the place for a code -/
structure FCR (w w1 : World) (P M : Int) (mv : Value) : Prop where
  fb : FBox w w1 P M mv
  q : Blk w1 (w.heap.size + 1) 27 [.int .i64 0, .int .i64 0, .slice none 0 0, .int .i64 0, .slice none 0 0]
theorem FCR.on {w w1 w2 : World} {P M : Int} {mv : Value} (h : FCR w w1 P M mv) (hb : Below w1.heap.size w1 w2) : FCR w w2 P M mv := ⟨h.fb.on hb, h.q.belowS hb⟩
theorem FCR.mk' (w : World) (P M : Int) (mv : Value) : ∃ w1, (w.alloc (.cells #[.int .i64 P, .int .i64 M, mv] 24)).alloc (.cells #[.int .i64 0, .int .i64 0, .slice none 0 0, .int .i64 0, .slice none 0 0] 27) = w1 ∧ FCR w w1 P M mv := by
  refine ⟨_, rfl, (FBox.mk' w P M mv).on (bl_alloc _ _), ?_⟩
  have := Blk.new (w.alloc (.cells #[.int .i64 P, .int .i64 M, mv] 24)) 27 [.int .i64 0, .int .i64 0, .slice none 0 0, .int .i64 0, .slice none 0 0]
  rw [World.size_alloc] at this
  exact this
/-- the i-th cyclic shift -/
def shR (ws : List Int) (i : Nat) : List Int := ws.drop (ws.length - i) ++ ws.take (ws.length - i)
def shL (ws : List Int) : List (List Int) := (List.range ws.length).map (shR ws)
theorem shR_len (ws : List Int) (i : Nat) : (shR ws i).length = ws.length := by unfold shR; rw [List.length_append, List.length_drop, List.length_take]; omega
theorem shL_len (ws : List Int) : (shL ws).length = ws.length := by simp [shL]
theorem addr_addI (a : Addr) (i k : Nat) : (a.add i).add k = a.add (i + k) := by
  unfold Addr.add
  by_cases h1 : i = 0 <;> by_cases h2 : k = 0 <;> simp [h1, h2, Nat.add_assoc]
theorem SI.dropv {w : World} {A : Option Addr} {n c : Nat} {xs : List Int} (h : SI w (.slice A n c) xs) {i : Nat} (hi : i ≤ n) :
    SI w (.slice (if c = i then A else Option.map (fun x => x.add i) A) (n - i) (c - i)) (xs.drop i) := by
  obtain ⟨A', c', e, h⟩ := h
  cases e
  have hl : (xs.drop i).length = xs.length - i := List.length_drop
  refine ⟨_, c - i, by rw [hl], by have := h.len; omega, by have := h.cap; omega, fun k hk => ?_, fun k => ?_⟩
  · rw [hl] at hk
    obtain ⟨ad, rfl, hc⟩ := h.cell (i + k) (by omega)
    have hci : ¬ c = i := by have := h.cap; omega
    refine ⟨ad.add i, by rw [if_neg hci]; rfl, ?_⟩
    rw [show (xs.drop i).getD k 0 = xs.getD (i + k) 0 by simp [List.getD], addr_addI]
    exact hc
  · rw [show (xs.drop i).getD k 0 = xs.getD (i + k) 0 by simp [List.getD]]
    exact h.wf (i + k)
theorem SI.takev {w : World} {A : Option Addr} {n c : Nat} {xs : List Int} (h : SI w (.slice A n c) xs) {i : Nat} (hi : i ≤ n) : SI w (.slice A i c) (xs.take i) := by
  obtain ⟨A', c', e, h⟩ := h
  cases e
  have hl : (xs.take i).length = i := by rw [List.length_take]; omega
  refine ⟨_, c, by rw [hl], by have := h.len; omega, by have := h.cap; omega, fun k hk => ?_, fun k => ?_⟩
  · rw [hl] at hk
    obtain ⟨ad, rfl, hc⟩ := h.cell k (by omega)
    exact ⟨ad, rfl, by rw [show (xs.take i).getD k 0 = xs.getD k 0 by simp [List.getD, List.getElem?_take, hk]]; exact hc⟩
  · by_cases hk : k < i
    · rw [show (xs.take i).getD k 0 = xs.getD k 0 by simp [List.getD, List.getElem?_take, hk]]; exact h.wf k
    · rw [getD_len (by rw [hl]; omega)]; exact I64.zero
theorem SS.twoI {w : World} {g : Nat} {u0 u1 : Value} {x0 x1 : List Int} (h : Blk w g 22 [u0, u1]) (h0 : SI w u0 x0) (h1 : SI w u1 x1) : SS w (.slice (some ⟨g, 0, none⟩) 2 2) [x0, x1] := by
  refine ⟨some ⟨g, 0, none⟩, 2, rfl, by simp, by simp, fun k hk => ?_⟩
  match k, hk with
  | 0, _ => exact ⟨⟨g, 0, none⟩, u0, rfl, by have := h.cell 0; simpa [Addr.add] using this, h0⟩
  | 1, _ => exact ⟨⟨g, 0, none⟩, u1, rfl, by have := h.cell 1; simpa [Addr.add] using this, h1⟩
theorem shR_all {ws : List Int} {Q : Int → Prop} (h0 : Q 0) (h : ∀ i, Q (ws.getD i 0)) (k i : Nat) : Q ((shR ws k).getD i 0) := by
  unfold shR
  by_cases hi : i < (ws.drop (ws.length - k)).length
  · have e2 : (ws.drop (ws.length - k) ++ ws.take (ws.length - k)).getD i 0 = ws.getD (ws.length - k + i) 0 := by
      simp only [List.getD]; rw [List.getElem?_append_left hi, List.getElem?_drop]
    rw [e2]; exact h _
  · have e2 : (ws.drop (ws.length - k) ++ ws.take (ws.length - k)).getD i 0 = (ws.take (ws.length - k)).getD (i - (ws.drop (ws.length - k)).length) 0 := by
      simp only [List.getD]; rw [List.getElem?_append_right (by omega)]
    rw [e2]
    by_cases h3 : i - (ws.drop (ws.length - k)).length < ws.length - k
    · rw [show (ws.take (ws.length - k)).getD (i - (ws.drop (ws.length - k)).length) 0 = ws.getD (i - (ws.drop (ws.length - k)).length) 0 by simp only [List.getD]; rw [List.getElem?_take, if_pos h3]]
      exact h _
    · rw [getD_len (by rw [List.length_take]; omega)]; exact h0
theorem shL_rows {q : Int} (hq : 0 < q) {ws : List Int} (h : ∀ i, 0 ≤ ws.getD i 0 ∧ ws.getD i 0 < q) : Rows q ws.length (shL ws) := fun k hk => by
  rw [shL_len] at hk
  have e : (shL ws).getD k [] = shR ws k := by simp [shL, List.getD, hk]
  rw [e]
  refine ⟨shR_len _ _, fun i => ?_⟩
  unfold shR
  by_cases hi : i < (ws.drop (ws.length - k)).length
  · have e2 : (ws.drop (ws.length - k) ++ ws.take (ws.length - k)).getD i 0 = ws.getD (ws.length - k + i) 0 := by
      simp only [List.getD]; rw [List.getElem?_append_left hi, List.getElem?_drop]
    rw [e2]; exact h _
  · have e2 : (ws.drop (ws.length - k) ++ ws.take (ws.length - k)).getD i 0 = (ws.take (ws.length - k)).getD (i - (ws.drop (ws.length - k)).length) 0 := by
      simp only [List.getD]; rw [List.getElem?_append_right (by omega)]
    rw [e2]
    by_cases h3 : i - (ws.drop (ws.length - k)).length < ws.length - k
    · rw [show (ws.take (ws.length - k)).getD (i - (ws.drop (ws.length - k)).length) 0 = ws.getD (i - (ws.drop (ws.length - k)).length) 0 by simp only [List.getD]; rw [List.getElem?_take, if_pos h3]]
      exact h _
    · rw [getD_len (by rw [List.length_take]; omega)]; omega

set_option maxHeartbeats 32000000 in
theorem shifts_ok (w : World) (P M : Int) (n : Nat) (mv v : Value) (Mod ws : List Int) (hm : SI w mv Mod) (hv : SI w v ws) (hlen : ws.length = n) (h1 : 1 ≤ n) (h64 : n ≤ 64) (hf : FieldP P M Mod) (hr : ∀ i, 0 ≤ ws.getD i 0 ∧ ws.getD i 0 < orderF P M) :
    Calls Try.prog 37 #[.agg #[.int .i64 P, .int .i64 M, mv], v] w (RetCE w P M Mod n (canonL (refOps P M Mod) (shL ws) n) 0) := by
  have hR : Rows (orderF P M) n (shL ws) := by have h := shL_rows (show 0 < orderF P M by have := one_lt_order hf.1; omega) hr; rwa [hlen] at h
  have HNEW := Lib.hid (fun (w' : World) (rv : Value) (hb : Below w.heap.size w w') (hs : SS w' rv (shL ws)) => cNew_ok w' P M n mv rv Mod _ (hm.below hb (Nat.le_refl _)) hs (matE_mk hf (by omega) (by rw [shL_len]; omega) hR) h1 h64)
  have HV := Lib.hid hv
  obtain ⟨VA, vc, rfl, _⟩ := hv
  rw [hlen] at HV ⊢
  have HFL : Hid (stS n (shR ws) n = shL ws) := hid' (by rw [stS_full, shL, hlen])
  have HFD : Hid (∀ i, i < n → (([ws.drop (n - i), ws.take (n - i)] : List (List Int)).flatten = shR ws i) ∧ ([ws.drop (n - i), ws.take (n - i)] : List (List Int)).flatten.length = n) := hid' fun i hi => by
    have e : ([ws.drop (n - i), ws.take (n - i)] : List (List Int)).flatten = shR ws i := by unfold shR; rw [hlen]; simp
    exact ⟨e, by rw [e, shR_len, hlen]⟩
  have HSL := Lib.hid hlen
  unfold RetCE at HNEW
  generalize canonL (refOps P M Mod) (shL ws) n = C at *
  clear hf hr hR hm hlen
  have hmk := fun (w : World) => run_mkR n (by omega) w
  obtain ⟨w1, e1, hq⟩ := FCR.mk' w P M mv
  have HQ := Lib.hid hq; have HE1 := Lib.hid e1; clear hq e1
  go_enter Try.func37, Try.ntmps37
  go_upto_region 1 with fail
  rw [HE1.out]
  clear HE1
  have HO0 : Hid (OS w1.heap.size (fun g => g < w1.heap.size) (w1.alloc (.cells (madeCells #[.slice none 0 0] n) 22)) (.slice (some ⟨w1.heap.size, 0, none⟩) n n) (stS n (shR ws) 0)) := hid' (by rw [stS_zero]; exact OS.madeR w1 n (Nat.le_refl _) (by omega))
  have HB0 := Lib.hid (bl_alloc w1 (.cells (madeCells #[.slice none 0 0] n) 22))
  obtain ⟨gv, hgv⟩ : ∃ gv, gv = w1.heap.size := ⟨_, rfl⟩
  have HGV := Lib.hid hgv
  go_wp2_with fail
  rw [← hgv] at HO0 ⊢
  clear hmk hgv
  go_loopw [13] (fun i wr => ∃ k : Nat, k ≤ n ∧ i = .int .i64 (k : Int) ∧ Hid (OS gv (fun g => g < gv) wr (.slice (some ⟨gv, 0, none⟩) n n) (stS n (shR ws) k)) ∧ Hid (Below w1.heap.size w1 wr) ∧ gv < wr.heap.size) (fun i _ => n - (intOf i).toNat)
  case atStart => exact ⟨0, Nat.zero_le _, rfl, HO0, HB0, (HO0.out.lt (g := gv) rfl).2⟩
  case round =>
    clear HO0 HB0
    obtain ⟨k, hk, rfl, HO, HB, hgl⟩ := hrel
    by_cases hkn : k < n
    · obtain ⟨m, hm⟩ : ∃ m, n - k = m := ⟨_, rfl⟩
      have HFK := Lib.hid (HFD.out k hkn)
      rw [hm] at HFK
      have hnm : (n : Int) - (k : Int) = (m : Int) := by omega
      have hmn : m ≤ n := by omega
      have hwm : IntKind.i64.wrap (m : Int) = (m : Int) := IntWalk.i64_in _ (by omega)
      have hmi : (m : Int) ≤ (n : Int) := by omega
      have hvc : n ≤ vc := by
        obtain ⟨A', c', e, h⟩ := HV.out
        cases e
        have := h.cap
        rw [HSL.out] at this; exact this
      have hmc : (m : Int) ≤ (vc : Int) := by omega
      have HWR := Lib.hid (HV.out.below (bl_trans HQ.out.fb.bel HB.out) (Nat.le_refl _))
      have HLS : Hid ((stS n (shR ws) k).length = n) := hid' (stS_len _ _ _)
      go_wp2_with fail
      refine Kept.start (S := fun _ => True) (by kernel_rfl) (trivial) (fun hHeld => ?_)
      change Kept _ _ _ _ 18 _ _ _
      refine Kept.take (i := 0) (v := ?_) rfl (by kernel_rfl) (by kernel_rfl) (by kernel_rfl) (fun _ _ _ h => h) (Or.inl ⟨by kernel_rfl, ?_⟩) hHeld ?_
      rotate_left
      · intro w' hSw; (try dsimp only at hSw); first | (go_simp; done) | (go_simp; with_reducible rfl)
      try simp only [List.getElem_toArray, List.getElem_cons_zero, List.getElem_cons_succ, Act.put, List.setIfInBounds_toArray, List.set_cons_zero, List.set_cons_succ]
      refine Kept.take (i := 1) (v := ?_) rfl (by kernel_rfl) (by kernel_rfl) (by kernel_rfl) (fun _ _ _ h => h) (Or.inl ⟨by kernel_rfl, ?_⟩) hHeld ?_
      rotate_left
      · intro w' hSw; (try dsimp only at hSw); first | (go_simp; done) | (go_simp; with_reducible rfl)
      try simp only [List.getElem_toArray, List.getElem_cons_zero, List.getElem_cons_succ, Act.put, List.setIfInBounds_toArray, List.set_cons_zero, List.set_cons_succ]
      refine Kept.take (i := 2) (v := ?_) rfl (by kernel_rfl) (by kernel_rfl) (by kernel_rfl) (fun _ _ _ h => h) (Or.inl ⟨by kernel_rfl, ?_⟩) hHeld ?_
      rotate_left
      · intro w' hSw; (try dsimp only at hSw); first | (go_simp; done) | (go_simp; with_reducible rfl)
      try simp only [List.getElem_toArray, List.getElem_cons_zero, List.getElem_cons_succ, Act.put, List.setIfInBounds_toArray, List.set_cons_zero, List.set_cons_succ]
      refine Kept.take (i := 3) (v := ?_) rfl (by kernel_rfl) (by kernel_rfl) (by kernel_rfl) (fun _ _ _ h => h) (Or.inl ⟨by kernel_rfl, ?_⟩) hHeld ?_
      rotate_left
      · intro w' hSw; (try dsimp only at hSw); first | (go_simp; done) | (go_simp; with_reducible rfl)
      try simp only [List.getElem_toArray, List.getElem_cons_zero, List.getElem_cons_succ, Act.put, List.setIfInBounds_toArray, List.set_cons_zero, List.set_cons_succ]
      refine Kept.take (i := 4) (v := ?_) rfl (by kernel_rfl) (by kernel_rfl) (by kernel_rfl) (fun _ _ _ h => h) (Or.inl ⟨by kernel_rfl, ?_⟩) hHeld ?_
      rotate_left
      · intro w' hSw; (try dsimp only at hSw); first | (go_simp; done) | (go_simp; with_reducible rfl)
      try simp only [List.getElem_toArray, List.getElem_cons_zero, List.getElem_cons_succ, Act.put, List.setIfInBounds_toArray, List.set_cons_zero, List.set_cons_succ]
      refine Kept.take (i := 5) (v := ?_) rfl (by kernel_rfl) (by kernel_rfl) (by kernel_rfl) (fun _ _ _ h => h) (Or.inl ⟨by kernel_rfl, ?_⟩) hHeld ?_
      rotate_left
      · intro w' hSw; (try dsimp only at hSw); first | (go_simp; done) | (go_simp; with_reducible rfl)
      try simp only [List.getElem_toArray, List.getElem_cons_zero, List.getElem_cons_succ, Act.put, List.setIfInBounds_toArray, List.set_cons_zero, List.set_cons_succ]
      refine Kept.take (i := 6) (v := ?_) rfl (by kernel_rfl) (by kernel_rfl) (by kernel_rfl) (fun _ _ _ h => h) (Or.inl ⟨by kernel_rfl, ?_⟩) hHeld ?_
      rotate_left
      · intro w' hSw; (try dsimp only at hSw); first | (go_simp; done) | (go_simp; with_reducible rfl)
      try simp only [List.getElem_toArray, List.getElem_cons_zero, List.getElem_cons_succ, Act.put, List.setIfInBounds_toArray, List.set_cons_zero, List.set_cons_succ]
      refine Kept.take (i := 7) (v := ?_) rfl (by kernel_rfl) (by kernel_rfl) (by kernel_rfl) (fun _ _ _ h => h) (Or.inl ⟨by kernel_rfl, ?_⟩) hHeld ?_
      rotate_left
      · intro w' hSw; (try dsimp only at hSw); first | (go_simp; done) | (go_simp; with_reducible rfl)
      try simp only [List.getElem_toArray, List.getElem_cons_zero, List.getElem_cons_succ, Act.put, List.setIfInBounds_toArray, List.set_cons_zero, List.set_cons_succ]
      refine Kept.take (i := 8) (v := ?_) rfl (by kernel_rfl) (by kernel_rfl) (by kernel_rfl) (fun _ _ _ h => h) (Or.inl ⟨by kernel_rfl, ?_⟩) hHeld ?_
      rotate_left
      · intro w' hSw; (try dsimp only at hSw); first | (go_simp; done) | (go_simp; with_reducible rfl)
      try simp only [List.getElem_toArray, List.getElem_cons_zero, List.getElem_cons_succ, Act.put, List.setIfInBounds_toArray, List.set_cons_zero, List.set_cons_succ]
      refine Kept.take (i := 9) (v := ?_) rfl (by kernel_rfl) (by kernel_rfl) (by kernel_rfl) (fun _ _ _ h => h) (Or.inl ⟨by kernel_rfl, ?_⟩) hHeld ?_
      rotate_left
      · intro w' hSw; (try dsimp only at hSw); first | (go_simp; done) | (go_simp; with_reducible rfl)
      try simp only [List.getElem_toArray, List.getElem_cons_zero, List.getElem_cons_succ, Act.put, List.setIfInBounds_toArray, List.set_cons_zero, List.set_cons_succ]
      refine Kept.take (i := 10) (v := ?_) rfl (by kernel_rfl) (by kernel_rfl) (by kernel_rfl) (fun _ _ _ h => h) (Or.inl ⟨by kernel_rfl, ?_⟩) hHeld ?_
      rotate_left
      · intro w' hSw; (try dsimp only at hSw); first | (go_simp; done) | (go_simp; with_reducible rfl)
      try simp only [List.getElem_toArray, List.getElem_cons_zero, List.getElem_cons_succ, Act.put, List.setIfInBounds_toArray, List.set_cons_zero, List.set_cons_succ]
      refine Kept.take (i := 11) (v := ?_) rfl (by kernel_rfl) (by kernel_rfl) (by kernel_rfl) (fun _ _ _ h => h) (Or.inl ⟨by kernel_rfl, ?_⟩) hHeld ?_
      rotate_left
      · intro w' hSw; (try dsimp only at hSw); first | (go_simp; done) | (go_simp; with_reducible rfl)
      try simp only [List.getElem_toArray, List.getElem_cons_zero, List.getElem_cons_succ, Act.put, List.setIfInBounds_toArray, List.set_cons_zero, List.set_cons_succ]
      refine Kept.take (i := 12) (v := ?_) rfl (by kernel_rfl) (by kernel_rfl) (by kernel_rfl) (fun _ _ _ h => h) (Or.inl ⟨by kernel_rfl, ?_⟩) hHeld ?_
      rotate_left
      · intro w' hSw; (try dsimp only at hSw); first | (go_simp; done) | (go_simp; with_reducible rfl)
      try simp only [List.getElem_toArray, List.getElem_cons_zero, List.getElem_cons_succ, Act.put, List.setIfInBounds_toArray, List.set_cons_zero, List.set_cons_succ]
      refine Kept.take (i := 13) (v := ?_) rfl (by kernel_rfl) (by kernel_rfl) (by kernel_rfl) (fun _ _ _ h => h) (Or.inl ⟨by kernel_rfl, ?_⟩) hHeld ?_
      rotate_left
      · intro w' hSw; (try dsimp only at hSw); first | (go_simp; done) | (go_simp; with_reducible rfl)
      try simp only [List.getElem_toArray, List.getElem_cons_zero, List.getElem_cons_succ, Act.put, List.setIfInBounds_toArray, List.set_cons_zero, List.set_cons_succ]
      refine Kept.only (i := 14) (o := ?op1) (by kernel_rfl) ?ho1 (fun K hK => ?_)
      case ho1 => (conv => lhs; simp only [List.getElem?_toArray, List.getElem?_cons_succ, List.getElem?_cons_zero])
      go_simp; obtain ⟨w5, gE, e1, e2, hX, hb5⟩ := mk_boxD wr 22 [.slice (if vc = m then VA else Option.map (fun x => x.add m) VA) (n - m) (vc - m), .slice VA m vc]; rw [e1, e2]; have HS5 := Lib.hid (SS.twoI hX ((HWR.out.dropv hmn).below hb5 (Nat.le_refl _)) ((HWR.out.takev hmn).below hb5 (Nat.le_refl _))); have HB5 := Lib.hid hb5; clear e1 e2 hX hb5
      refine hK.out _ _ (trivial) (fun hHeld2 => ?_)
      clear hK K
      replace hHeld := hHeld2
      clear hHeld2
      try simp only [List.getElem_toArray, List.getElem_cons_zero, List.getElem_cons_succ, Act.put, List.setIfInBounds_toArray, List.set_cons_zero, List.set_cons_succ]
      refine Kept.only (i := 15) (by kernel_rfl) rfl (fun K hK => ?_)
      go_simp
      refine (concat_any _ _ _ HS5.out (by rw [HFK.out.2]; exact h1) (by rw [HFK.out.2]; omega)).mono ?_; rintro e w6 ⟨u6, rfl, ho6, hb6⟩; rw [HFK.out.1] at ho6; obtain ⟨UA, uc, rfl⟩ := ho6.form'; have HO6 := Lib.hid ho6; have HB6 := Lib.hid (bl_trans HB5.out hb6); have hs5 := HB5.out.size; clear ho6 hb6; have HOR := Lib.hid (HO.out.below HB6.out); obtain ⟨u0, h0, _, _⟩ := HOR.out.row (k := k) (by rw [HLS.out]; exact hkn); have f0 := HOR.out.frozen k
      refine hK.out _ _ (trivial) (fun hHeld2 => ?_)
      clear hK K
      replace hHeld := hHeld2
      clear hHeld2
      try simp only [List.getElem_toArray, List.getElem_cons_zero, List.getElem_cons_succ, Act.put, List.setIfInBounds_toArray, List.set_cons_zero, List.set_cons_succ]
      refine Kept.take (i := 16) (v := ?_) rfl (by kernel_rfl) (by kernel_rfl) (by kernel_rfl) (fun _ _ _ h => h) (Or.inl ⟨by kernel_rfl, ?_⟩) hHeld ?_
      rotate_left
      · intro w' hSw; (try dsimp only at hSw); first | (go_simp; done) | (go_simp; with_reducible rfl)
      try simp only [List.getElem_toArray, List.getElem_cons_zero, List.getElem_cons_succ, Act.put, List.setIfInBounds_toArray, List.set_cons_zero, List.set_cons_succ]
      refine Kept.only (i := 17) (o := ?op2) (by kernel_rfl) ?ho2 (fun K hK => ?_)
      case ho2 => (conv => lhs; simp only [List.getElem?_toArray, List.getElem?_cons_succ, List.getElem?_cons_zero])
      go_simp
      refine hK.out _ _ (trivial) (fun hHeld2 => ?_)
      clear hK K
      clear hHeld2
      refine Kept.done (by kernel_rfl) ?_
      try simp only [List.getElem_toArray, List.getElem_cons_zero, List.getElem_cons_succ, Act.put, List.setIfInBounds_toArray, List.set_cons_zero, List.set_cons_succ]
      clear hHeld
      have hws : ∀ i, I64 ((shR ws k).getD i 0) := shR_all (Q := I64) I64.zero HV.out.wfs k
      have hsl6 : (shR ws k).length ≤ 17592186044416 := by rw [shR_len, HSL.out]; omega
      have HSI6 := Lib.hid (HO6.out.si hsl6 hws)
      have HOA := Lib.hid (HOR.out.setRow k HSI6.out (fun _ g' hg' => by
        have h3 := (HO6.out.lt hg').1
        exact ⟨by omega, by show ¬ g' < gv; omega⟩))
      have HST := Lib.hid (stS_set (f := shR ws) hkn)
      rw [HST.out] at HOA
      have HBA := Lib.hid ((bl_trans HB.out HB6.out).setCell (p := ⟨gv, k, none⟩) (by rw [HGV.out]; exact Nat.le_refl _) (.slice UA (shR ws k).length uc))
      have hgl2 : gv < (w6.setCell ⟨gv, k, none⟩ (.slice UA (shR ws k).length uc)).heap.size := by have h1 := HB6.out.size; have h2 := (gr_set1 w6 gv k (.slice UA (shR ws k).length uc)).size; omega
      clear hws hsl6
      go_wp2_with fail
      exact ⟨⟨k + 1, by omega, by push_cast; rfl, HOA, HBA, hgl2⟩, by simp only [intOf]; omega⟩
    · obtain rfl : n = k := by omega
      rw [HFL.out] at HO
      have HSS := Lib.hid (HO.out.ss (by rw [shL_len, HSL.out]; omega))
      have HQ5 := Lib.hid (HQ.out.on HB.out)
      have c0 := HQ5.out.fb.c0; have c1 := HQ5.out.fb.c1; have c2 := HQ5.out.fb.c2
      go_wp2_with fail
      refine (HNEW.out wr _ HQ5.out.fb.bel HSS.out).mono ?_
      rintro e w5 ⟨u5, g5, rfl, hx5, hb5⟩
      obtain ⟨⟨MA, mc, rfl, _⟩, ⟨DA, dc, rfl, _⟩⟩ := hx5.out
      have HX5 : Hid (Sep wr.heap.size w5 fun w9 => SI w9 (.slice MA Mod.length mc) Mod ∧ SS w9 (.slice DA C.length dc) C) := hid' hx5
      have HQ6 := Lib.hid (HQ5.out.on hb5)
      clear hx5 hb5 c0 c1 c2
      generalize C.length = dl at *
      generalize Mod.length = ml at *
      obtain ⟨d0, d1, d2, d3, d4, f0, f1, f2, f3, f4⟩ := HQ6.out.q.five
      go_wp2_with fail
      obtain ⟨w9, h9, HL⟩ := lay5 (x := .int .i64 P) (y := .int .i64 M) (z := .slice MA ml mc) (u := .int .i64 (n : Int)) (v := .slice DA dl dc) HQ6.out.q
      rw [h9]
      have q0 := HL.c0; have q1 := HL.c1; have q2 := HL.c2; have q3 := HL.c3; have q4 := HL.c4
      have hql := HQ5.out.q.lt
      refine bodyPost_ret (v := .tuple #[.agg #[.int .i64 P, .int .i64 M, .slice MA ml mc, .int .i64 (n : Int), .slice DA dl dc], .int .i64 0]) (by simp [results, Try.results37, go_sem, q0, q1, q2, q3, q4]) rfl ?_
      exact ⟨_, _, rfl, (HX5.out.grown HL.gr (by rintro b e; cases e; omega)).mono HQ5.out.fb.bel.size, HL.below HQ6.out.fb.bel HQ6.out.fb.bel.size (by omega)⟩
end Go.Proofs.Ytlcgihjdafglmaa

/- number.wheel, least (of small numbers), in, Prime. -/
namespace Go.Proofs.Ytlcgihjdafglmaa
open Go.RowKit
set_option linter.unusedVariables false
set_option maxRecDepth 100000

theorem lay8 {w : World} {g : Nat} {t : TypeId} {a b c d e f p q x0 x1 x2 x3 x4 x5 x6 x7 : Value} (h : Blk w g t [a, b, c, d, e, f, p, q]) :
    ∃ w', (((((((w.setCell ⟨g, 0, none⟩ x0).setCell ⟨g, 1, none⟩ x1).setCell ⟨g, 2, none⟩ x2).setCell ⟨g, 3, none⟩ x3).setCell ⟨g, 4, none⟩ x4).setCell ⟨g, 5, none⟩ x5).setCell ⟨g, 6, none⟩ x6).setCell ⟨g, 7, none⟩ x7 = w' ∧ Laid w w' g t [x0, x1, x2, x3, x4, x5, x6, x7] :=
  ⟨_, rfl, (((((((h.set_ 0 x0).set_ 1 x1).set_ 2 x2).set_ 3 x3).set_ 4 x4).set_ 5 x5).set_ 6 x6).set_ 7 x7,
    gr_setCell (p := ⟨g, 7, none⟩) (gr_setCell (p := ⟨g, 6, none⟩) (gr_setCell (p := ⟨g, 5, none⟩) (gr_setCell (p := ⟨g, 4, none⟩) (gr_setCell (p := ⟨g, 3, none⟩) (gr_setCell (p := ⟨g, 2, none⟩) (gr_set2 w g 0 1 x0 x1) (.inl rfl) _) (.inl rfl) _) (.inl rfl) _) (.inl rfl) _) (.inl rfl) _) (.inl rfl) _⟩
set_option maxHeartbeats 4000000 in
theorem wheel_any (w : World) : Calls Try.prog 102 #[] w fun e w' => e = .returned (.agg #[.int .i64 1, .int .i64 7, .int .i64 11, .int .i64 13, .int .i64 17, .int .i64 19, .int .i64 23, .int .i64 29]) ∧ Below w.heap.size w w' := by
  go_enter Try.func102, Try.ntmps102
  go_upto_region 1 with fail
  obtain ⟨w1, hw⟩ : ∃ w1, w1 = w.alloc (.cells #[.int .i64 0, .int .i64 0, .int .i64 0, .int .i64 0, .int .i64 0, .int .i64 0, .int .i64 0, .int .i64 0] 125) := ⟨_, rfl⟩
  have HQ : Hid (Blk w1 w.heap.size 125 [.int .i64 0, .int .i64 0, .int .i64 0, .int .i64 0, .int .i64 0, .int .i64 0, .int .i64 0, .int .i64 0]) := hid' (by rw [hw]; exact Blk.new w _ [.int .i64 0, .int .i64 0, .int .i64 0, .int .i64 0, .int .i64 0, .int .i64 0, .int .i64 0, .int .i64 0])
  have HB : Hid (Below w.heap.size w w1) := hid' (by rw [hw]; exact bl_alloc w _)
  rw [← hw]
  clear hw
  have d0 := HQ.out.cell 0; have d1 := HQ.out.cell 1; have d2 := HQ.out.cell 2; have d3 := HQ.out.cell 3; have d4 := HQ.out.cell 4; have d5 := HQ.out.cell 5; have d6 := HQ.out.cell 6; have d7 := HQ.out.cell 7
  have f0 := HQ.out.frozen 0; have f1 := HQ.out.frozen 1; have f2 := HQ.out.frozen 2; have f3 := HQ.out.frozen 3; have f4 := HQ.out.frozen 4; have f5 := HQ.out.frozen 5; have f6 := HQ.out.frozen 6; have f7 := HQ.out.frozen 7
  simp only [List.getElem?_cons_zero, List.getElem?_cons_succ] at d0 d1 d2 d3 d4 d5 d6 d7
  go_wp2_with fail
  obtain ⟨w9, h9, HL⟩ := lay8 (x0 := .int .i64 1) (x1 := .int .i64 7) (x2 := .int .i64 11) (x3 := .int .i64 13) (x4 := .int .i64 17) (x5 := .int .i64 19) (x6 := .int .i64 23) (x7 := .int .i64 29) HQ.out
  rw [h9]
  have q0 := HL.blk.cell 0; have q1 := HL.blk.cell 1; have q2 := HL.blk.cell 2; have q3 := HL.blk.cell 3; have q4 := HL.blk.cell 4; have q5 := HL.blk.cell 5; have q6 := HL.blk.cell 6; have q7 := HL.blk.cell 7
  simp only [List.getElem?_cons_zero, List.getElem?_cons_succ] at q0 q1 q2 q3 q4 q5 q6 q7
  refine bodyPost_ret (v := .agg #[.int .i64 1, .int .i64 7, .int .i64 11, .int .i64 13, .int .i64 17, .int .i64 19, .int .i64 23, .int .i64 29]) (by simp [results, Try.results102, go_sem, q0, q1, q2, q3, q4, q5, q6, q7]) rfl ?_
  exact ⟨rfl, HL.below HB.out HB.out.size (Nat.le_refl _)⟩

theorem wheel_at (w : World) : (Instr.index 125 (.agg #[.int .i64 1, .int .i64 7, .int .i64 11, .int .i64 13, .int .i64 17, .int .i64 19, .int .i64 23, .int .i64 29]) (.int .i64 0)).run Try.prog w = .ok (.int .i64 1) w ∧
    (Instr.index 125 (.agg #[.int .i64 1, .int .i64 7, .int .i64 11, .int .i64 13, .int .i64 17, .int .i64 19, .int .i64 23, .int .i64 29]) (.int .i64 1)).run Try.prog w = .ok (.int .i64 7) w ∧
    (Instr.index 125 (.agg #[.int .i64 1, .int .i64 7, .int .i64 11, .int .i64 13, .int .i64 17, .int .i64 19, .int .i64 23, .int .i64 29]) (.int .i64 2)).run Try.prog w = .ok (.int .i64 11) w :=
  ⟨by kernel_rfl, by kernel_rfl, by kernel_rfl⟩
/-- the least divisor, of small numbers -/
def leastN (n : Nat) : Nat := if n % 2 = 0 then 2 else if n % 3 = 0 then 3 else if n % 5 = 0 then 5 else if n < 49 then n else if n % 7 = 0 then 7 else n
theorem least_fin : ∀ n : Nat, n < 65 → 2 ≤ n → (∀ k : Nat, k < 3 → (∀ j : Nat, j < k → (n : Int) % ([2, 3, 5].getD j 0) ≠ 0) → (n : Int) % ([2, 3, 5].getD k 0) = 0 → (leastN n : Int) = [2, 3, 5].getD k 0) := by decide
theorem least_fin2 : ∀ n : Nat, n < 65 → 2 ≤ n → n < 49 → (∀ j : Nat, j < 3 → (n : Int) % ([2, 3, 5].getD j 0) ≠ 0) → leastN n = n := by decide
theorem least_fin3 : ∀ n : Nat, n < 65 → 49 ≤ n → (n : Int) % 7 = 0 → (∀ j : Nat, j < 3 → (n : Int) % ([2, 3, 5].getD j 0) ≠ 0) → leastN n = 7 := by decide
theorem least_fin4 : ∀ n : Nat, n < 65 → 49 ≤ n → (n : Int) % 7 ≠ 0 → (∀ j : Nat, j < 3 → (n : Int) % ([2, 3, 5].getD j 0) ≠ 0) → leastN n = n := by decide

set_option maxHeartbeats 8000000 in
theorem least_small (w : World) (n : Nat) (h2 : 2 ≤ n) (h64 : n < 65) : Calls Try.prog 64 #[.int .i64 (n : Int)] w (RetI w (leastN n : Nat)) := by
  have HF := Lib.hid (least_fin n h64 h2)
  have HS := Lib.hid (SI.lit w [2, 3, 5] (by simp) (fun k => by
    match k with
    | 0 => exact I64.of_small (by decide) (by decide)
    | 1 => exact I64.of_small (by decide) (by decide)
    | 2 => exact I64.of_small (by decide) (by decide)
    | k + 3 => exact I64.zero))
  obtain ⟨w1, hw⟩ : ∃ w1, w1 = w.alloc (.cells #[.int .i64 2, .int .i64 3, .int .i64 5] 3) := ⟨_, rfl⟩
  have HS1 : Hid (SI w1 (.slice (some ⟨w.heap.size, 0, none⟩) 3 3) [2, 3, 5]) := hid' (by rw [hw]; exact HS.out)
  have HB : Hid (Below w.heap.size w w1) := hid' (by rw [hw]; exact bl_alloc w _)
  have HW := Lib.hid hw.symm
  clear hw HS
  go_enter Try.func64, Try.ntmps64
  go_wp2_with fail
  go_step3
  go_wp2_with fail
  rw [HW.out]
  clear HW
  go_loop [12] (fun i => ∃ k : Nat, k ≤ 3 ∧ i = .int .i64 (k : Int) ∧ Hid (∀ j : Nat, j < k → (n : Int) % ([2, 3, 5].getD j 0) ≠ 0)) (fun i => 3 - (intOf i).toNat)
  case atStart => exact ⟨0, Nat.zero_le _, rfl, hid' fun j hj => absurd hj (Nat.not_lt_zero _)⟩
  case round =>
    obtain ⟨k, hk, rfl, HN⟩ := hrel
    by_cases hk3 : k < 3
    · obtain ⟨ad, x, e, hc, _, HX⟩ := HS1.out.elt (k := k) (by simpa using hk3)
      have e1 := Option.some.inj e
      subst e1
      have hc2 : w1.cell? ⟨w.heap.size, k, none⟩ = some (.int .i64 x) := by
        have e2 : (⟨w.heap.size, 0, none⟩ : Addr).add k = ⟨w.heap.size, k, none⟩ := by
          unfold Addr.add
          by_cases h0 : k = 0 <;> simp [h0]
        rw [← e2]; exact hc
      clear hc
      have hx0 : ¬ x = 0 := by
        have := HX.out
        match k, hk3 with
        | 0, _ => simp at this; omega
        | 1, _ => simp at this; omega
        | 2, _ => simp at this; omega
      cases hz : ((n : Int) % x == 0)
      case true =>
        have HL : Hid ((leastN n : Int) = x) := hid' (by
          have h := HF.out k hk3 HN.out (by rw [HX.out]; exact (beq_iff_eq.1 hz))
          rw [h, HX.out])
        go_wp2_with fail
        go_ret
        exact ⟨by rw [HL.out]; rfl, HB.out⟩
      case false =>
        have HN1 : Hid (∀ j : Nat, j < k + 1 → (n : Int) % ([2, 3, 5].getD j 0) ≠ 0) := hid' (fun j hj => by
          by_cases e : j = k
          · subst e; rw [HX.out]; exact beq_eq_false_iff_ne.1 hz
          · exact HN.out j (by omega))
        go_wp2_with fail
        go_round
        case rel => exact ⟨k + 1, by omega, by go_num, HN1⟩
        case measure => simp [intOf]; omega
    · obtain rfl : k = 3 := by omega
      have HW2 := Lib.hid (bl_refl w1)
      go_wp2_with fail
      go_step3
      go_wp2_with fail
      go_loopw [5, 6] (fun f b wr => f = .int .i64 (n : Int) ∧ b = .int .i64 0 ∧ Hid (Below w1.heap.size w1 wr)) (fun _ _ _ => 0)
      case atStart => exact ⟨rfl, rfl, HW2⟩
      case round =>
        clear HW2
        obtain ⟨rfl, rfl, HBR⟩ := hrel
        generalize wr = wo at *
        go_wp2_with fail
        refine (wheel_any _).mono ?_
        rintro e w3 ⟨rfl, hb3⟩
        have HB3 := Lib.hid (bl_trans HB.out (bl_trans HBR.out hb3))
        clear hb3
        go_wp2_with fail
        go_loop [5, 26] (fun f i => ∃ k : Nat, k ≤ 2 ∧ f = .int .i64 (n : Int) ∧ i = .int .i64 (k : Int) ∧ Hid (k = 2 → 49 ≤ n ∧ (n : Int) % 7 ≠ 0)) (fun _ i => 8 - (intOf i).toNat)
        case atStart => exact ⟨0, by omega, rfl, rfl, hid' fun h => absurd h (by omega)⟩
        case round =>
          obtain ⟨k, hk, rfl, rfl, HK⟩ := hrel
          match k, hk with
          | 0, _ =>
            have hx := (wheel_at w3).1
            go_wp2_with fail
            go_round
            case rel => exact ⟨1, by omega, rfl, by go_num, hid' fun h => absurd h (by omega)⟩
            case measure => simp [intOf]
          | 1, _ =>
            have hx := (wheel_at w3).2.1
            have h49 : IntKind.i64.wrap (7 * 7) = 49 := by decide
            by_cases hn : n < 49
            · have hni : (n : Int) < 49 := by omega
              have HL : Hid (leastN n = n) := hid' (least_fin2 n h64 h2 hn HN.out)
              go_wp2_with fail
              go_ret
              exact ⟨by rw [HL.out]; rfl, HB3.out⟩
            · have hni : ¬ (n : Int) < 49 := by omega
              cases hz : ((n : Int) % 7 == 0)
              · have HK1 : Hid (2 = 2 → 49 ≤ n ∧ (n : Int) % 7 ≠ 0) := hid' fun _ => ⟨by omega, beq_eq_false_iff_ne.1 hz⟩
                go_wp2_with fail
                go_round
                case rel => exact ⟨2, by omega, rfl, by go_num, HK1⟩
                case measure => simp [intOf]
              · have HL : Hid (leastN n = 7) := hid' (least_fin3 n h64 (by omega) (beq_iff_eq.1 hz) HN.out)
                go_wp2_with fail
                go_ret
                exact ⟨by rw [HL.out]; rfl, HB3.out⟩
          | 2, _ =>
            have hx := (wheel_at w3).2.2
            have HL : Hid (leastN n = n) := hid' (least_fin4 n h64 (HK.out rfl).1 (HK.out rfl).2 HN.out)
            have hni : (n : Int) < 121 := by omega
            go_wp2_with fail
            go_ret
            exact ⟨by rw [HL.out]; rfl, HB3.out⟩

set_option maxHeartbeats 4000000 in
theorem nin_small (w : World) (n : Nat) (h2 : 2 ≤ n) (h64 : n < 65) : Calls Try.prog 63 #[.int .i64 (n : Int), .int .i64 2] w fun e w' => e = .returned (.bool true) ∧ w = w' := by
  have h1 : decide ((2 : Int) ≤ (n : Int)) = true := by simp; omega
  have h3 : (n : Int) ≤ 2147483647 := by omega
  have h4 : (2 : Int) ≤ (n : Int) := by omega
  go_enter Try.func63, Try.ntmps63
  go_wp2_with fail
  go_ret
  exact ⟨rfl, rfl⟩
set_option maxHeartbeats 4000000 in
theorem prime_small (w : World) (n : Nat) (h2 : 2 ≤ n) (h64 : n < 65) : Calls Try.prog 36 #[.int .i64 (n : Int)] w (RetB w (decide (leastN n = n))) := by
  go_enter Try.func36, Try.ntmps36
  go_wp2_with fail
  refine (nin_small _ n h2 h64).mono ?_
  rintro e w1 ⟨rfl, rfl⟩
  go_wp2_with fail
  refine (least_small _ n h2 h64).mono ?_
  rintro e w2 ⟨rfl, hb⟩
  have HB := Lib.hid hb; clear hb
  cases h : decide (leastN n = n)
  · have h1 : ((leastN n : Int) == (n : Int)) = false := by rw [beq_eq_false_iff_ne]; have := of_decide_eq_false h; omega
    have HH := Lib.hid h
    clear h
    go_wp2_with fail
    go_ret
    first | exact ⟨rfl, HB.out⟩ | exact ⟨by rw [HH.out]; rfl, HB.out⟩
  · have h1 : ((leastN n : Int) == (n : Int)) = true := by rw [beq_iff_eq]; have := of_decide_eq_true h; omega
    have HH := Lib.hid h
    clear h
    go_wp2_with fail
    go_ret
    first | exact ⟨rfl, HB.out⟩ | exact ⟨by rw [HH.out]; rfl, HB.out⟩
end Go.Proofs.Ytlcgihjdafglmaa

/- ref15.IsLength. -/
namespace Go.Proofs.Ytlcgihjdafglmaa
open Go.RowKit
set_option linter.unusedVariables false
set_option maxRecDepth 100000

/-- the lengths of the quadratic residue codes -/
def LenOk (n : Int) : Prop := 3 ≤ n ∧ n ≤ 64 ∧ (n % 8 = 1 ∨ n % 8 = 7) ∧ leastN n.toNat = n.toNat
instance (n : Int) : Decidable (LenOk n) := by unfold LenOk; infer_instance
theorem len_fin : ∀ n : Nat, n < 65 → 2 ≤ n → (∀ d : Nat, d < n → 2 ≤ d → (n : Int) % (d : Int) ≠ 0) → leastN n = n := by decide
theorem len_fin2 : ∀ n : Nat, n < 65 → 2 ≤ n → ∀ d : Nat, d < n → 2 ≤ d → (n : Int) % (d : Int) = 0 → leastN n ≠ n := by decide

set_option maxHeartbeats 8000000 in
theorem rLen_no (w : World) (n : Int) (h : n < 3 ∨ 64 < n ∨ (n % 8 ≠ 1 ∧ n % 8 ≠ 7)) : Calls Try.prog 15 #[.int .i64 n] w (fun e w' => e = .returned (.bool false) ∧ w = w') := by
  have hcase : n < 3 ∨ (¬ n < 3 ∧ 64 < n) ∨ (¬ n < 3 ∧ ¬ 64 < n ∧ n % 8 ≠ 1 ∧ n % 8 ≠ 7) := by omega
  clear h
  rcases hcase with h | ⟨h1, h⟩ | ⟨h1, h2, h3, h4⟩
  · go_enter Try.func15, Try.ntmps15
    go_wp2_with fail
    go_ret
    exact ⟨rfl, rfl⟩
  · go_enter Try.func15, Try.ntmps15
    go_wp2_with fail
    go_ret
    exact ⟨rfl, rfl⟩
  · obtain ⟨k, rfl⟩ : ∃ k : Nat, n = (k : Int) := ⟨n.toNat, by omega⟩
    have e1 : ((k : Int) % 8 != 1) = true := by rw [bne_iff_ne]; exact h3
    have e2 : ((k : Int) % 8 != 7) = true := by rw [bne_iff_ne]; exact h4
    clear h3 h4
    go_enter Try.func15, Try.ntmps15
    go_wp2_with fail
    go_ret
    exact ⟨rfl, rfl⟩

set_option maxHeartbeats 8000000 in
theorem rLen_in (w : World) (n : Nat) (h3 : 3 ≤ n) (h64 : n < 65) (h8 : (n : Int) % 8 = 1 ∨ (n : Int) % 8 = 7) : Calls Try.prog 15 #[.int .i64 (n : Int)] w (fun e w' => e = .returned (.bool (decide (leastN n = n))) ∧ w = w') := by
  have HF := Lib.hid (len_fin n h64 (by omega)); have HG := Lib.hid (len_fin2 n h64 (by omega))
  have k1 : ¬ (n : Int) < 3 := by omega
  have k2 : ¬ (64 : Int) < (n : Int) := by omega
  have k3 : (((n : Int) % 8 != 1) && ((n : Int) % 8 != 7)) = false := by rcases h8 with h | h <;> rw [h] <;> rfl
  have hn64 : n ≤ 64 := by omega
  cases e1 : ((n : Int) % 8 != 1)
  case' true =>
    have e2 : ((n : Int) % 8 != 7) = false := by rw [e1] at k3; simpa using k3
  all_goals
    clear k3 h8
    go_enter Try.func15, Try.ntmps15
    go_wp2_with fail
    go_loop [3] (fun i => ∃ d : Nat, 2 ≤ d ∧ d ≤ n ∧ i = .int .i64 (d : Int) ∧ Hid (∀ j : Nat, j < d → 2 ≤ j → (n : Int) % (j : Int) ≠ 0)) (fun i => n - (intOf i).toNat)
    case atStart => exact ⟨2, by omega, by omega, rfl, hid' fun j h1 h2 => absurd h1 (by omega)⟩
    case round =>
      obtain ⟨d, hd2, hd, rfl, HN⟩ := hrel
      by_cases hdn : d < n
      · have hd0 : ¬ (d : Int) = 0 := by omega
        cases hz : ((n : Int) % (d : Int) == 0)
        · have HN1 : Hid (∀ j : Nat, j < d + 1 → 2 ≤ j → (n : Int) % (j : Int) ≠ 0) := hid' fun j h1 h2 => by
            by_cases e : j = d
            · subst e; exact beq_eq_false_iff_ne.1 hz
            · exact HN.out j (by omega) h2
          go_wp2_with fail
          go_round
          case rel => exact ⟨d + 1, by omega, by omega, by go_num, HN1⟩
          case measure => simp [intOf]; omega
        · have HD : Hid (decide (leastN n = n) = false) := hid' (decide_eq_false (HG.out d hdn hd2 (beq_iff_eq.1 hz)))
          go_wp2_with fail
          go_ret
          exact ⟨by rw [HD.out]; rfl, rfl⟩
      · obtain rfl : n = d := by omega
        have HD : Hid (decide (leastN n = n) = true) := hid' (decide_eq_true (HF.out fun j h1 h2 => HN.out j h1 h2))
        go_wp2_with fail
        go_ret
        exact ⟨by rw [HD.out]; rfl, rfl⟩
theorem rLen_any (w : World) (n : Int) : Calls Try.prog 15 #[.int .i64 n] w (fun e w' => e = .returned (.bool (decide (LenOk n))) ∧ w = w') := by
  by_cases h : n < 3 ∨ 64 < n ∨ (n % 8 ≠ 1 ∧ n % 8 ≠ 7)
  · have e : decide (LenOk n) = false := decide_eq_false fun h1 => by obtain ⟨h1, h2, h3, _⟩ := h1; omega
    rw [e]
    exact rLen_no w n h
  · obtain ⟨k, rfl⟩ : ∃ k : Nat, n = (k : Int) := ⟨n.toNat, by omega⟩
    have e : decide (LenOk (k : Int)) = decide (leastN k = k) := by
      apply decide_eq_decide.2
      unfold LenOk
      rw [Int.toNat_natCast]
      exact ⟨fun h => h.2.2.2, fun h => ⟨by omega, by omega, by omega, h⟩⟩
    rw [e]
    exact rLen_in w k (by omega) (by omega) (by omega)
end Go.Proofs.Ytlcgihjdafglmaa

/- classic.Residue. -/
namespace Go.Proofs.Ytlcgihjdafglmaa
open Go.RowKit
set_option linter.unusedVariables false
set_option maxRecDepth 100000

/-- the indicator of the squares, behind k steps -/
def sqT (n : Nat) : Nat → List Int
  | 0 => List.replicate n 0
  | k + 1 => (sqT n k).set ((k + 1) * (k + 1) % n) 1
theorem sqT_len (n : Nat) : ∀ k, (sqT n k).length = n
  | 0 => by simp [sqT]
  | k + 1 => by rw [sqT, List.length_set, sqT_len n k]
/-- the idempotent's indicator -/
def resW (n : Nat) : List Int := if (n : Int) % 8 = 1 then (sqT n (n - 1)).set 0 1 else sqT n (n - 1)
theorem resW_len (n : Nat) : (resW n).length = n := by unfold resW; split <;> simp [sqT_len]
theorem bit_set {l : List Int} (h : ∀ i, 0 ≤ l.getD i 0 ∧ l.getD i 0 < 2) (p : Nat) : ∀ i, 0 ≤ (l.set p 1).getD i 0 ∧ (l.set p 1).getD i 0 < 2 := fun i => by
  by_cases e : p = i
  · by_cases h2 : p < l.length
    · subst e; simp [List.getD, List.getElem?_set, h2]
    · rw [List.set_eq_of_length_le (by omega)]; exact h i
  · have := h i
    simp only [List.getD] at this ⊢
    rw [List.getElem?_set_ne e]; exact this
theorem sqT_bit (n : Nat) : ∀ k i, 0 ≤ (sqT n k).getD i 0 ∧ (sqT n k).getD i 0 < 2
  | 0, i => by
    by_cases hi : i < n
    · simp [sqT, List.getD, List.getElem?_replicate, hi]
    · simp [sqT, List.getD, List.getElem?_replicate, hi]
  | k + 1, i => by rw [sqT]; exact bit_set (fun i => sqT_bit n k i) _ i
theorem resW_bit (n : Nat) (i : Nat) : 0 ≤ (resW n).getD i 0 ∧ (resW n).getD i 0 < 2 := by
  unfold resW
  split
  · exact bit_set (fun i => sqT_bit n _ i) 0 i
  · exact sqT_bit n _ i

set_option maxHeartbeats 8000000 in
theorem cRes_no (w : World) (n : Int) (hn : ¬ LenOk n) : Calls Try.prog 11 #[.int .i64 n] w (RetCE w 0 0 [] 0 [] 6) := by
  have HB0 := Lib.hid (bl_alloc w (.cells #[.int .i64 0, .int .i64 0, .slice none 0 0, .int .i64 0, .slice none 0 0] 27))
  have HRB : Hid (Blk (w.alloc (.cells #[.int .i64 0, .int .i64 0, .slice none 0 0, .int .i64 0, .slice none 0 0] 27)) w.heap.size 27 [.int .i64 0, .int .i64 0, .slice none 0 0, .int .i64 0, .slice none 0 0]) := Blk.new w 27 [.int .i64 0, .int .i64 0, .slice none 0 0, .int .i64 0, .slice none 0 0]
  have fin : ∀ w1, Below (w.heap.size + 1) (w.alloc (.cells #[.int .i64 0, .int .i64 0, .slice none 0 0, .int .i64 0, .slice none 0 0] 27)) w1 → Blk w1 w.heap.size 27 [.int .i64 0, .int .i64 0, .slice none 0 0, .int .i64 0, .slice none 0 0] ∧ Below w.heap.size w w1 := fun w1 hb => by
    have hs : (w.alloc (.cells #[.int .i64 0, .int .i64 0, .slice none 0 0, .int .i64 0, .slice none 0 0] 27)).heap.size = w.heap.size + 1 := World.size_alloc _ _
    rw [← hs] at hb
    exact ⟨HRB.out.belowS hb, bl_trans HB0.out hb⟩
  have hcase : (n < 3) ∨ (¬ n < 3 ∧ 64 < n) ∨ ∃ k : Nat, n = (k : Int) ∧ 3 ≤ k ∧ k < 65 ∧ (leastN k ≠ k ∨ (leastN k = k ∧ (k : Int) % 8 ≠ 1 ∧ (k : Int) % 8 ≠ 7)) := by
    by_cases h1 : n < 3
    · exact .inl h1
    · by_cases h2 : 64 < n
      · exact .inr (.inl ⟨h1, h2⟩)
      · refine .inr (.inr ⟨n.toNat, by omega, by omega, by omega, ?_⟩)
        by_cases h3 : leastN n.toNat = n.toNat
        · refine .inr ⟨h3, ?_⟩
          rw [show ((n.toNat : Nat) : Int) = n by omega]
          by_cases h4 : n % 8 = 1
          · exact absurd ⟨by omega, by omega, .inl h4, h3⟩ hn
          · by_cases h5 : n % 8 = 7
            · exact absurd ⟨by omega, by omega, .inr h5, h3⟩ hn
            · exact ⟨h4, h5⟩
        · exact .inl h3
  clear hn
  obtain ⟨w0, hw0⟩ : ∃ w0, w0 = w.alloc (.cells #[.int .i64 0, .int .i64 0, .slice none 0 0, .int .i64 0, .slice none 0 0] 27) := ⟨_, rfl⟩
  have hs0 : w0.heap.size = w.heap.size + 1 := by rw [hw0]; exact World.size_alloc _ _
  rw [← hw0] at HB0 HRB fin
  have HW0 := Lib.hid hw0.symm
  clear hw0
  have main : ∀ w1, Below w0.heap.size w0 w1 → Hid (Blk w1 w.heap.size 27 [.int .i64 0, .int .i64 0, .slice none 0 0, .int .i64 0, .slice none 0 0] ∧ Below w.heap.size w w1) := fun w1 hb => fin w1 (by rw [← hs0]; exact hb)
  clear fin
  rcases hcase with h | ⟨h1, h⟩ | ⟨k, rfl, h3, h65, hc⟩
  case inl =>
    have HX := main w0 (bl_refl w0)
    obtain ⟨d0, d1, d2, d3, d4, f0, f1, f2, f3, f4⟩ := HX.out.1.five
    go_enter Try.func11, Try.ntmps11
    go_upto_region 1 with fail
    rw [HW0.out]
    go_wp2_with fail
    obtain ⟨w9, h9, HL⟩ := lay5 (x := .int .i64 0) (y := .int .i64 0) (z := .slice none 0 0) (u := .int .i64 0) (v := .slice none 0 0) HX.out.1
    rw [h9]
    have q0 := HL.c0; have q1 := HL.c1; have q2 := HL.c2; have q3 := HL.c3; have q4 := HL.c4
    refine bodyPost_ret (v := .tuple #[.agg #[.int .i64 0, .int .i64 0, .slice none 0 0, .int .i64 0, .slice none 0 0], .int .i64 6]) (by simp [results, Try.results11, go_sem, q0, q1, q2, q3, q4]) rfl ?_
    exact ⟨_, _, rfl, (SI.nilSep _ _).and (SS.nilSep _ _), HL.below HX.out.2 HX.out.2.size (Nat.le_refl _)⟩
  case inr.inl =>
    have HX := main w0 (bl_refl w0)
    obtain ⟨d0, d1, d2, d3, d4, f0, f1, f2, f3, f4⟩ := HX.out.1.five
    go_enter Try.func11, Try.ntmps11
    go_upto_region 1 with fail
    rw [HW0.out]
    go_wp2_with fail
    obtain ⟨w9, h9, HL⟩ := lay5 (x := .int .i64 0) (y := .int .i64 0) (z := .slice none 0 0) (u := .int .i64 0) (v := .slice none 0 0) HX.out.1
    rw [h9]
    have q0 := HL.c0; have q1 := HL.c1; have q2 := HL.c2; have q3 := HL.c3; have q4 := HL.c4
    refine bodyPost_ret (v := .tuple #[.agg #[.int .i64 0, .int .i64 0, .slice none 0 0, .int .i64 0, .slice none 0 0], .int .i64 6]) (by simp [results, Try.results11, go_sem, q0, q1, q2, q3, q4]) rfl ?_
    exact ⟨_, _, rfl, (SI.nilSep _ _).and (SS.nilSep _ _), HL.below HX.out.2 HX.out.2.size (Nat.le_refl _)⟩
  case inr.inr =>
    have k1 : ¬ (k : Int) < 3 := by omega
    have k2 : ¬ (64 : Int) < (k : Int) := by omega
    have HC := Lib.hid hc
    clear hc
    go_enter Try.func11, Try.ntmps11
    go_upto_region 1 with fail
    rw [HW0.out]
    go_wp2_with fail
    refine (prime_small _ k (by omega) h65).mono ?_
    rintro e w1 ⟨rfl, hb1⟩
    have HX := main w1 hb1
    clear hb1
    obtain ⟨d0, d1, d2, d3, d4, f0, f1, f2, f3, f4⟩ := HX.out.1.five
    rcases HC.out with hc | ⟨hc, h8, h9⟩
    · rw [show decide (leastN k = k) = false from decide_eq_false hc]
      clear hc
      go_wp2_with fail
      obtain ⟨w9, h9, HL⟩ := lay5 (x := .int .i64 0) (y := .int .i64 0) (z := .slice none 0 0) (u := .int .i64 0) (v := .slice none 0 0) HX.out.1
      rw [h9]
      have q0 := HL.c0; have q1 := HL.c1; have q2 := HL.c2; have q3 := HL.c3; have q4 := HL.c4
      refine bodyPost_ret (v := .tuple #[.agg #[.int .i64 0, .int .i64 0, .slice none 0 0, .int .i64 0, .slice none 0 0], .int .i64 6]) (by simp [results, Try.results11, go_sem, q0, q1, q2, q3, q4]) rfl ?_
      exact ⟨_, _, rfl, (SI.nilSep _ _).and (SS.nilSep _ _), HL.below HX.out.2 HX.out.2.size (Nat.le_refl _)⟩
    · rw [show decide (leastN k = k) = true from decide_eq_true hc]
      have e1 : ((k : Int) % 8 != 1) = true := by rw [bne_iff_ne]; exact h8
      have e2 : ((k : Int) % 8 != 7) = true := by rw [bne_iff_ne]; exact h9
      clear hc h8 h9
      go_wp2_with fail
      obtain ⟨w9, h9, HL⟩ := lay5 (x := .int .i64 0) (y := .int .i64 0) (z := .slice none 0 0) (u := .int .i64 0) (v := .slice none 0 0) HX.out.1
      rw [h9]
      have q0 := HL.c0; have q1 := HL.c1; have q2 := HL.c2; have q3 := HL.c3; have q4 := HL.c4
      refine bodyPost_ret (v := .tuple #[.agg #[.int .i64 0, .int .i64 0, .slice none 0 0, .int .i64 0, .slice none 0 0], .int .i64 6]) (by simp [results, Try.results11, go_sem, q0, q1, q2, q3, q4]) rfl ?_
      exact ⟨_, _, rfl, (SI.nilSep _ _).and (SS.nilSep _ _), HL.below HX.out.2 HX.out.2.size (Nat.le_refl _)⟩
end Go.Proofs.Ytlcgihjdafglmaa

/- classic.Residue, the good way. -/
namespace Go.Proofs.Ytlcgihjdafglmaa
open Go.RowKit
set_option linter.unusedVariables false
set_option maxRecDepth 100000

set_option maxHeartbeats 32000000 in
theorem cRes_ok (w : World) (n : Nat) (hn : LenOk (n : Int)) : Calls Try.prog 11 #[.int .i64 (n : Int)] w (RetCE w 2 1 [] n (canonL (refOps 2 1 []) (shL (resW n)) n) 0) := by
  obtain ⟨h3, h64, h8, hp⟩ := hn
  rw [Int.toNat_natCast] at hp
  have HSH := Lib.hid (fun (w' : World) (v : Value) (hs : SI w' v (resW n)) => shifts_ok w' 2 1 n (.slice none 0 0) v [] (resW n) (SI.none_ w') hs (resW_len n) (by omega) (by omega) field21 (fun i => by rw [order21]; exact resW_bit n i))
  unfold RetCE at HSH
  generalize canonL (refOps 2 1 []) (shL (resW n)) n = C at *
  have HRI : Hid (∀ i, I64 ((resW n).getD i 0)) := hid' fun i => by have := resW_bit n i; exact I64.of_small (by omega) (by omega)
  have HRL := Lib.hid (resW_len n)
  have HB0 := Lib.hid (bl_alloc w (.cells #[.int .i64 0, .int .i64 0, .slice none 0 0, .int .i64 0, .slice none 0 0] 27))
  have HRB : Hid (Blk (w.alloc (.cells #[.int .i64 0, .int .i64 0, .slice none 0 0, .int .i64 0, .slice none 0 0] 27)) w.heap.size 27 [.int .i64 0, .int .i64 0, .slice none 0 0, .int .i64 0, .slice none 0 0]) := Blk.new w 27 [.int .i64 0, .int .i64 0, .slice none 0 0, .int .i64 0, .slice none 0 0]
  obtain ⟨w0, hw0⟩ : ∃ w0, w0 = w.alloc (.cells #[.int .i64 0, .int .i64 0, .slice none 0 0, .int .i64 0, .slice none 0 0] 27) := ⟨_, rfl⟩
  rw [← hw0] at HB0 HRB
  have HW0 := Lib.hid hw0.symm
  clear hw0
  have k1 : ¬ (n : Int) < 3 := by omega
  have k2 : ¬ (64 : Int) < (n : Int) := by omega
  have k3 : (((n : Int) % 8 != 1) && ((n : Int) % 8 != 7)) = false := by rcases h8 with h | h <;> rw [h] <;> rfl
  have hn64 : n ≤ 64 := by omega
  have hn3 : 3 ≤ n := by omega
  have hn0 : ¬ (n : Int) = 0 := by omega
  have hmk := fun (w : World) => run_mkI n (by omega) w
  have HP := Lib.hid hp
  have HRW : Hid (∀ b : Bool, ((n : Int) % 8 == 1) = b → resW n = if b = true then (sqT n (n - 1)).set 0 1 else sqT n (n - 1)) := hid' fun b hb => by
    unfold resW
    cases b
    · rw [if_neg (beq_eq_false_iff_ne.1 hb), if_neg (by decide)]
    · rw [if_pos (beq_iff_eq.1 hb), if_pos rfl]
  clear h3 h64 hp
  cases e1 : ((n : Int) % 8 != 1)
  case' true =>
    have e2 : ((n : Int) % 8 != 7) = false := by rw [e1] at k3; simpa using k3
    have e8 : ((n : Int) % 8 == 1) = false := by rw [beq_eq_false_iff_ne]; exact bne_iff_ne.1 e1
  case' false =>
    have e8 : ((n : Int) % 8 == 1) = true := by
      cases h : ((n : Int) % 8 == 1)
      · have h5 := beq_eq_false_iff_ne.1 h
        rw [bne_iff_ne.2 h5] at e1; cases e1
      · rfl
  all_goals
    have HRE := Lib.hid (HRW.out _ e8)
    clear k3 h8 HRW
    go_enter Try.func11, Try.ntmps11
    go_upto_region 1 with fail
    rw [HW0.out]
    go_wp2_with fail
    refine (prime_small _ n (by omega) (by omega)).mono ?_
    rintro e w1 ⟨rfl, hb1⟩
    rw [show decide (leastN n = n) = true from decide_eq_true HP.out]
    have HRB1 := Lib.hid (HRB.out.belowS hb1); have HB1 := Lib.hid (bl_trans HB0.out hb1)
    clear hb1
    have HR0 : Hid (RI (w1.alloc (.cells (madeCells #[.int .i64 0] n) 3)) w1.heap.size (sqT n 0)) := RI.made w1 n
    have HBA := Lib.hid (bl_alloc w1 (.cells (madeCells #[.int .i64 0] n) 3))
    go_wp2_with fail
    clear hmk
    obtain ⟨g, hg⟩ : ∃ g, g = w1.heap.size := ⟨_, rfl⟩
    have HGE := Lib.hid hg
    rw [← hg] at HR0 ⊢
    clear hg
    go_loopw [5] (fun i wr => ∃ k : Nat, 1 ≤ k ∧ k ≤ n ∧ i = .int .i64 (k : Int) ∧ Hid (RI wr g (sqT n (k - 1))) ∧ Hid (Below w1.heap.size w1 wr)) (fun i _ => n - (intOf i).toNat)
    case atStart => exact ⟨1, Nat.le_refl _, by omega, rfl, HR0, HBA⟩
    case round =>
      clear HR0 HBA
      obtain ⟨k, hk1, hk, rfl, HR, HB⟩ := hrel
      by_cases hkn : k < n
      · obtain ⟨p, hpe⟩ : ∃ p, p = k * k % n := ⟨_, rfl⟩
        have hpn : p < n := by rw [hpe]; exact Nat.mod_lt _ (by omega)
        have hkk : k * k ≤ 4096 := Nat.mul_le_mul (show k ≤ 64 by omega) (show k ≤ 64 by omega)
        obtain ⟨s, hs⟩ : ∃ s, s = k * k := ⟨_, rfl⟩
        have hss : (k : Int) * (k : Int) = (s : Int) := by rw [hs]; push_cast; rfl
        have hpi : (s : Int) % (n : Int) = (p : Int) := by rw [hs, hpe]; push_cast; rfl
        have hw1 : IntKind.i64.wrap (s : Int) = (s : Int) := IntWalk.i64_in _ (by omega)
        have hw2 : wrap64 (s : Int) = (s : Int) := by unfold wrap64; omega
        have HST : Hid ((sqT n (k - 1)).set p 1 = sqT n (k + 1 - 1)) := hid' (by
          obtain ⟨j, rfl⟩ : ∃ j, k = j + 1 := ⟨k - 1, by omega⟩
          show _ = sqT n (j + 1)
          rw [sqT, hpe]; rfl)
        have u0 := HR.out.cell p (by rw [sqT_len]; exact hpn)
        generalize hz : (sqT n (k - 1)).getD p 0 = z0 at u0
        clear hz
        have uf := HR.out.frozen p
        have HR2 := Lib.hid (HR.out.set p 1)
        rw [HST.out] at HR2
        have HB2 := Lib.hid (HB.out.setCell (p := ⟨g, p, none⟩) (by rw [HGE.out]; exact Nat.le_refl _) (.int .i64 1))
        clear hpe hkk hs
        go_wp2_with fail
        exact ⟨⟨k + 1, by omega, by omega, by push_cast; rfl, HR2, HB2⟩, by simp only [intOf]; omega⟩
      · obtain rfl : n = k := by omega
        have v0 := HR.out.cell 0 (by rw [sqT_len]; omega)
        generalize hz : (sqT n (n - 1)).getD 0 0 = z0 at v0
        clear hz
        have vf := HR.out.frozen 0
        have HR3 := Lib.hid (HR.out.set 0 1)
        have HB3 := Lib.hid (HB.out.setCell (p := ⟨g, 0, none⟩) (by rw [HGE.out]; exact Nat.le_refl _) (.int .i64 1))
        have HZ : Hid (∃ wz, wz = (if ((n : Int) % 8 == 1) = true then wr.setCell ⟨g, 0, none⟩ (.int .i64 1) else wr) ∧ RI wz g (resW n) ∧ Below w1.heap.size w1 wz) := hid' (by
          refine ⟨_, rfl, ?_⟩
          rw [HRE.out, e8]
          first
            | exact ⟨HR3.out, HB3.out⟩
            | exact ⟨HR.out, HB.out⟩)
        rw [e8] at HZ
        clear HRE HR3 HB3
        go_upto_region 10 with fail
        obtain ⟨wz, hwz, hrz, hbz⟩ := HZ.out
        clear HZ
        first
          | rw [if_pos rfl] at hwz
          | rw [if_neg (by decide)] at hwz
        rw [← hwz]
        clear hwz v0 vf HR HB
        have hrs := hrz.si (by rw [HRL.out]; omega) HRI.out
        rw [HRL.out] at hrs
        have HZS := Lib.hid hrs
        have HBZ := Lib.hid (bl_trans HB1.out hbz); have HRBZ := Lib.hid (HRB1.out.belowS hbz)
        clear hrs hrz hbz
        go_wp2_with fail
        refine (binary_any _).mono ?_
        rintro e w4 ⟨rfl, hb4⟩
        have HS4 := Lib.hid (HZS.out.below hb4 (Nat.le_refl _)); have HB4 := Lib.hid (bl_trans HBZ.out hb4); have HRB4 := Lib.hid (HRBZ.out.belowS hb4)
        clear hb4
        go_wp2_with fail
        refine (HSH.out _ _ HS4.out).mono ?_
        rintro e w5 ⟨u5, g5, rfl, hx5, hb5⟩
        obtain ⟨⟨MA, mc, rfl, _⟩, ⟨DA, dc, rfl, _⟩⟩ := hx5.out
        have HX5 : Hid (Sep w4.heap.size w5 fun w9 => SI w9 (.slice MA 0 mc) [] ∧ SS w9 (.slice DA C.length dc) C) := hid' hx5
        have HB5 := Lib.hid (bl_trans HB4.out hb5); have HRB5 := Lib.hid (HRB4.out.belowS hb5)
        have hlt4 := HRB4.out.lt
        clear hx5 hb5
        generalize C.length = dl at *
        obtain ⟨d0, d1, d2, d3, d4, f0, f1, f2, f3, f4⟩ := HRB5.out.five
        go_wp2_with fail
        obtain ⟨w9, h9, HL⟩ := lay5 (x := .int .i64 2) (y := .int .i64 1) (z := .slice MA 0 mc) (u := .int .i64 (n : Int)) (v := .slice DA dl dc) HRB5.out
        rw [h9]
        have q0 := HL.c0; have q1 := HL.c1; have q2 := HL.c2; have q3 := HL.c3; have q4 := HL.c4
        refine bodyPost_ret (v := .tuple #[.agg #[.int .i64 2, .int .i64 1, .slice MA 0 mc, .int .i64 (n : Int), .slice DA dl dc], .int .i64 0]) (by simp [results, Try.results11, go_sem, q0, q1, q2, q3, q4]) rfl ?_
        exact ⟨_, _, rfl, (HX5.out.grown HL.gr (by rintro b e; cases e; omega)).mono HB4.out.size, HL.below HB5.out HB5.out.size (Nat.le_refl _)⟩
end Go.Proofs.Ytlcgihjdafglmaa

/- Plain: the residue codes' symmetries. -/
namespace Go.Proofs.Ytlcgihjdafglmaa
open Go.RowKit
set_option linter.unusedVariables false
set_option maxRecDepth 100000

/-- the word written at the places (a*i + b) % n, behind k steps -/
def zT (n a b : Nat) (w : List Int) : Nat → List Int
  | 0 => List.replicate n 0
  | k + 1 => (zT n a b w k).set ((a * k + b) % n) (w.getD k 0)
theorem zT_len (n a b : Nat) (w : List Int) : ∀ k, (zT n a b w k).length = n
  | 0 => by simp [zT]
  | k + 1 => by rw [zT, List.length_set, zT_len n a b w k]
theorem zT_at {n a b : Nat} (hn : 0 < n) (w : List Int) (hinj : ∀ i j, i < n → j < n → (a * i + b) % n = (a * j + b) % n → i = j) : ∀ k, k ≤ n → ∀ i, i < k → (zT n a b w k).getD ((a * i + b) % n) 0 = w.getD i 0
  | 0, _, i, h => by omega
  | k + 1, hk, i, h => by
    rw [zT]
    by_cases e : i = k
    · subst e
      have hp : (a * i + b) % n < (zT n a b w i).length := by rw [zT_len]; exact Nat.mod_lt _ hn
      simp [List.getD, List.getElem?_set, hp]
    · have hne : (a * k + b) % n ≠ (a * i + b) % n := fun h2 => e (hinj k i (by omega) (by omega) h2).symm
      have h3 := zT_at hn w hinj k (by omega) i (by omega)
      simp only [List.getD] at h3 ⊢
      rw [List.getElem?_set_ne hne]; exact h3
theorem zT_bit {n a b : Nat} {w : List Int} {q : Int} (hq : 0 < q) (hw : ∀ i, 0 ≤ w.getD i 0 ∧ w.getD i 0 < q) : ∀ k i, 0 ≤ (zT n a b w k).getD i 0 ∧ (zT n a b w k).getD i 0 < q
  | 0, i => by
    by_cases hi : i < n
    · simp [zT, List.getD, List.getElem?_replicate, hi]; exact hq
    · simp [zT, List.getD, List.getElem?_replicate, hi]; exact hq
  | k + 1, i => by
    rw [zT]
    by_cases e : (a * k + b) % n = i
    · by_cases h2 : (a * k + b) % n < (zT n a b w k).length
      · subst e
        have : ((zT n a b w k).set ((a * k + b) % n) (w.getD k 0)).getD ((a * k + b) % n) 0 = w.getD k 0 := by simp [List.getD, List.getElem?_set, h2]
        rw [this]; exact hw k
      · rw [List.set_eq_of_length_le (by omega)]; exact zT_bit hq hw k i
    · have h3 := zT_bit (n := n) (a := a) (b := b) hq hw k i
      simp only [List.getD] at h3 ⊢
      rw [List.getElem?_set_ne e]; exact h3
/-- an entry of a shift -/
theorem shR_at {ws : List Int} {k i : Nat} (hk : k < ws.length) (hi : i < ws.length) : (shR ws k).getD i 0 = ws.getD ((i + (ws.length - k)) % ws.length) 0 := by
  unfold shR
  by_cases h : i < k
  · have hl : i < (ws.drop (ws.length - k)).length := by rw [List.length_drop]; omega
    simp only [List.getD]
    rw [List.getElem?_append_left hl, List.getElem?_drop, Nat.mod_eq_of_lt (by omega), Nat.add_comm]
  · have hl : (ws.drop (ws.length - k)).length = k := by rw [List.length_drop]; omega
    simp only [List.getD]
    rw [List.getElem?_append_right (by omega), hl, List.getElem?_take, if_pos (by omega), show i + (ws.length - k) = (i - k) + ws.length by omega, Nat.add_mod_right, Nat.mod_eq_of_lt (by omega)]
/-- the six lengths -/
theorem len_six : ∀ n : Nat, n < 65 → LenOk (n : Int) → n = 7 ∨ n = 17 ∨ n = 23 ∨ n = 31 ∨ n = 41 ∨ n = 47 := by decide
def wLit : Nat → List Int
  | 7 => [0,1,1,0,1,0,0]
  | 17 => [1,1,1,0,1,0,0,0,1,1,0,0,0,1,0,1,1]
  | 23 => [0,1,1,1,1,0,1,0,1,1,0,0,1,1,0,0,1,0,1,0,0,0,0]
  | 31 => [0,1,1,0,1,1,0,1,1,1,1,0,0,0,1,0,1,0,1,1,1,0,0,0,0,1,0,0,1,0,0]
  | 41 => [1,1,1,0,1,1,0,0,1,1,1,0,0,0,0,0,1,0,1,0,1,1,0,1,0,1,0,0,0,0,0,1,1,1,0,0,1,1,0,1,1]
  | 47 => [0,1,1,1,1,0,1,1,1,1,0,0,1,0,1,0,1,1,1,0,0,1,0,0,1,1,0,1,1,0,0,0,1,0,1,0,1,1,0,0,0,0,1,0,0,0,0]
  | _ => []
theorem resW_7 : resW 7 = wLit 7 := by decide +kernel
theorem resW_17 : resW 17 = wLit 17 := by decide +kernel
theorem resW_23 : resW 23 = wLit 23 := by decide +kernel
theorem resW_31 : resW 31 = wLit 31 := by decide +kernel
theorem resW_41 : resW 41 = wLit 41 := by decide +kernel
theorem resW_47 : resW 47 = wLit 47 := by decide +kernel
def symB (n : Nat) : Bool := (List.range n).all fun s => s == 0 || ((List.range n).all fun i => (wLit n).getD (s * s % n * i % n) 0 == (wLit n).getD i 0)
def injB (n : Nat) : Bool := (List.range n).all fun s => s == 0 || ((List.range n).all fun i => i == 0 || s * s % n * i % n != 0)
def surB (n : Nat) : Bool := (List.range n).all fun s => s == 0 || ((List.range n).all fun t => (List.range n).any fun i => s * s % n * i % n == t)
theorem sur_7 : surB 7 = true := by decide +kernel
theorem sur_17 : surB 17 = true := by decide +kernel
theorem sur_23 : surB 23 = true := by decide +kernel
theorem sur_31 : surB 31 = true := by decide +kernel
theorem sur_41 : surB 41 = true := by decide +kernel
theorem sur_47 : surB 47 = true := by decide +kernel
theorem sym_7 : symB 7 = true := by decide +kernel
theorem inj_7 : injB 7 = true := by decide +kernel
theorem sym_17 : symB 17 = true := by decide +kernel
theorem inj_17 : injB 17 = true := by decide +kernel
theorem sym_23 : symB 23 = true := by decide +kernel
theorem inj_23 : injB 23 = true := by decide +kernel
theorem sym_31 : symB 31 = true := by decide +kernel
theorem inj_31 : injB 31 = true := by decide +kernel
theorem sym_41 : symB 41 = true := by decide +kernel
theorem inj_41 : injB 41 = true := by decide +kernel
theorem sym_47 : symB 47 = true := by decide +kernel
theorem inj_47 : injB 47 = true := by decide +kernel

theorem sym_all {n : Nat} (hn : n = 7 ∨ n = 17 ∨ n = 23 ∨ n = 31 ∨ n = 41 ∨ n = 47) {s : Nat} (h1 : 1 ≤ s) (h2 : s < n) :
    (∀ i, i < n → (resW n).getD (s * s % n * i % n) 0 = (resW n).getD i 0) ∧ (∀ i, i < n → 0 < i → s * s % n * i % n ≠ 0) ∧ (∀ t, t < n → ∃ i, i < n ∧ s * s % n * i % n = t) := by
  have key : resW n = wLit n ∧ symB n = true ∧ injB n = true ∧ surB n = true := by
    rcases hn with rfl | rfl | rfl | rfl | rfl | rfl
    · exact ⟨resW_7, sym_7, inj_7, sur_7⟩
    · exact ⟨resW_17, sym_17, inj_17, sur_17⟩
    · exact ⟨resW_23, sym_23, inj_23, sur_23⟩
    · exact ⟨resW_31, sym_31, inj_31, sur_31⟩
    · exact ⟨resW_41, sym_41, inj_41, sur_41⟩
    · exact ⟨resW_47, sym_47, inj_47, sur_47⟩
  obtain ⟨k0, k1, k2, k3⟩ := key
  rw [k0]
  clear hn k0
  refine ⟨fun i hi => ?_, fun i hi hp => ?_, fun t ht => ?_⟩
  · have a := List.all_eq_true.1 k1 s (List.mem_range.2 h2)
    rcases Bool.or_eq_true_iff.1 a with a | a
    · have := beq_iff_eq.1 a; omega
    · exact beq_iff_eq.1 (List.all_eq_true.1 a i (List.mem_range.2 hi))
  · have a := List.all_eq_true.1 k2 s (List.mem_range.2 h2)
    rcases Bool.or_eq_true_iff.1 a with a | a
    · have := beq_iff_eq.1 a; omega
    · have a := List.all_eq_true.1 a i (List.mem_range.2 hi)
      rcases Bool.or_eq_true_iff.1 a with a | a
      · have := beq_iff_eq.1 a; omega
      · exact bne_iff_ne.1 a
  · have a := List.all_eq_true.1 k3 s (List.mem_range.2 h2)
    rcases Bool.or_eq_true_iff.1 a with a | a
    · have := beq_iff_eq.1 a; omega
    · have a := List.all_eq_true.1 a t (List.mem_range.2 ht)
      obtain ⟨i, hi, e⟩ := List.any_eq_true.1 a
      exact ⟨i, List.mem_range.1 hi, beq_iff_eq.1 e⟩
/-- the places of the turned word -/
theorem turn_inj {n a b : Nat} (hn : n = 7 ∨ n = 17 ∨ n = 23 ∨ n = 31 ∨ n = 41 ∨ n = 47) (h : ∀ i, i < n → 0 < i → a * i % n ≠ 0) : ∀ i j, i < n → j < n → (a * i + b) % n = (a * j + b) % n → i = j := fun i j hi hj e => by
  rcases Nat.lt_trichotomy i j with h1 | h1 | h1
  · refine absurd ?_ (h (j - i) (by omega) (by omega))
    rw [Nat.mul_sub]
    have hle : a * i ≤ a * j := Nat.mul_le_mul_left _ (by omega)
    generalize a * i = x at *
    generalize a * j = y at *
    rcases hn with rfl | rfl | rfl | rfl | rfl | rfl <;> omega
  · exact h1
  · refine absurd ?_ (h (i - j) (by omega) (by omega))
    rw [Nat.mul_sub]
    have hle : a * j ≤ a * i := Nat.mul_le_mul_left _ (by omega)
    generalize a * i = x at *
    generalize a * j = y at *
    rcases hn with rfl | rfl | rfl | rfl | rfl | rfl <;> omega
theorem turn_sur {n a b : Nat} (hn : n = 7 ∨ n = 17 ∨ n = 23 ∨ n = 31 ∨ n = 41 ∨ n = 47) (hb : b < n) (h : ∀ t, t < n → ∃ i, i < n ∧ a * i % n = t) {j : Nat} (hj : j < n) : ∃ i, i < n ∧ (a * i + b) % n = j := by
  obtain ⟨i, hi, e⟩ := h ((j + (n - b)) % n) (Nat.mod_lt _ (by omega))
  refine ⟨i, hi, ?_⟩
  generalize a * i = x at *
  rcases hn with rfl | rfl | rfl | rfl | rfl | rfl <;> omega
theorem turn_ent {n a b : Nat} (hn : n = 7 ∨ n = 17 ∨ n = 23 ∨ n = 31 ∨ n = 41 ∨ n = 47) (hb : b < n) {k i : Nat} (hk : k < n) (hi : i < n) :
    ((a * i + b) % n + (n - (a * k + b) % n)) % n = a * ((i + (n - k)) % n) % n := by
  by_cases h : k ≤ i
  · have e : (i + (n - k)) % n = i - k := by
      rw [show i + (n - k) = (i - k) + n by omega, Nat.add_mod_right, Nat.mod_eq_of_lt (by omega)]
    rw [e, Nat.mul_sub]
    have hle : a * k ≤ a * i := Nat.mul_le_mul_left _ h
    generalize a * i = x at *
    generalize a * k = y at *
    rcases hn with rfl | rfl | rfl | rfl | rfl | rfl <;> omega
  · have e : (i + (n - k)) % n = i + n - k := by rw [Nat.mod_eq_of_lt (by omega)]; omega
    rw [e, Nat.mul_sub, Nat.mul_add]
    have hle : a * k ≤ a * n := Nat.mul_le_mul_left _ (by omega)
    generalize a * i = x at *
    generalize a * k = y at *
    rcases hn with rfl | rfl | rfl | rfl | rfl | rfl <;> omega
end Go.Proofs.Ytlcgihjdafglmaa

/- The points of projective space as numbers and their words. No program in sight. -/
namespace Go.Proofs.Ytlcgihjdafglmaa

/-- the digits of n, the highest of r first -/
def wordN (q r n : Nat) : List Int := rowOf r fun j => ((n / q ^ (r - 1 - j) % q : Nat) : Int)
theorem wordN_len (q r n : Nat) : (wordN q r n).length = r := rowOf_len _ _
theorem wordN_getD {q r n c : Nat} (hc : c < r) : (wordN q r n).getD (r - 1 - c) 0 = ((n / q ^ c % q : Nat) : Int) := by
  unfold wordN
  rw [rowOf_getD (by omega), show r - 1 - (r - 1 - c) = c by omega]
theorem rowOf_set {N k : Nat} {f : Nat → Int} {x : Int} : (rowOf N f).set k x = rowOf N fun i => if i = k then x else f i := by
  apply List.ext_getElem?
  intro i
  by_cases hi : i < N
  · by_cases e : k = i
    · subst e; simp [rowOf, hi]
    · have e' : ¬ i = k := fun h => e h.symm
      simp [rowOf, List.getElem?_set, e, e', hi]
  · simp [rowOf, List.getElem?_set, hi]
theorem wordN_set {q r n n' c d : Nat} (hc : c < r) (hd : n' / q ^ c % q = d) (h : ∀ e, e ≠ c → e < r → n' / q ^ e % q = n / q ^ e % q) : (wordN q r n).set (r - 1 - c) (d : Int) = wordN q r n' := by
  unfold wordN
  rw [rowOf_set]
  refine rowOf_congr fun j hj => ?_
  by_cases e : j = r - 1 - c
  · rw [if_pos e, e, show r - 1 - (r - 1 - c) = c by omega, hd]
  · rw [if_neg e, h (r - 1 - j) (by omega) (by omega)]
theorem dig_mul {q : Nat} (hq : 2 ≤ q) (a c e : Nat) : a * q ^ c / q ^ e % q = if e < c then 0 else a / q ^ (e - c) % q := by
  have hp : ∀ k, 0 < q ^ k := fun k => Nat.pow_pos (by omega)
  by_cases h : e < c
  · rw [if_pos h]
    obtain ⟨d, rfl⟩ : ∃ d, c = e + (d + 1) := ⟨c - e - 1, by omega⟩
    rw [Nat.pow_add, show a * (q ^ e * q ^ (d + 1)) = q ^ e * (a * q ^ (d + 1)) by rw [Nat.mul_left_comm], Nat.mul_div_cancel_left _ (hp e), Nat.pow_succ, ← Nat.mul_assoc, Nat.mul_mod_left]
  · rw [if_neg h]
    obtain ⟨d, rfl⟩ : ∃ d, e = c + d := ⟨e - c, by omega⟩
    rw [Nat.pow_add, ← Nat.div_div_eq_div_mul, Nat.mul_div_cancel _ (hp c), show c + d - c = d by omega]
/-- the carry: a digit q-1 becomes 0 -/
theorem word_carry {q r a c : Nat} (hq : 2 ≤ q) (hc : c < r) : (wordN q r (a * q ^ c)).set (r - 1 - c) 0 = wordN q r (a / q * q ^ (c + 1)) :=
  wordN_set (d := 0) hc (by rw [dig_mul hq, if_pos (by omega)]) fun e he _ => by
    rw [dig_mul hq, dig_mul hq]
    by_cases h : e < c
    · rw [if_pos h, if_pos (by omega)]
    · rw [if_neg h, if_neg (by omega), Nat.div_div_eq_div_mul, ← Nat.pow_succ', show (e - (c + 1)).succ = e - c by omega]
/-- the digit at which the carry ends -/
theorem word_up {q r a c : Nat} (hq : 2 ≤ q) (hc : c < r) (h : a % q + 1 < q) : (wordN q r (a * q ^ c)).set (r - 1 - c) ((a % q + 1 : Nat) : Int) = wordN q r ((a + 1) * q ^ c) :=
  have h1 : (a + 1) % q = a % q + 1 := by rw [Nat.add_mod, Nat.mod_eq_of_lt (show 1 < q by omega), Nat.mod_eq_of_lt h]
  have h2 : (a + 1) / q = a / q := by
    have e1 := Nat.div_add_mod a q
    have e2 := Nat.div_add_mod (a + 1) q
    rw [h1] at e2
    have : q * ((a + 1) / q) = q * (a / q) := by omega
    exact Nat.eq_of_mul_eq_mul_left (by omega) this
  wordN_set hc (by rw [dig_mul hq, if_neg (by omega), Nat.sub_self, Nat.pow_zero, Nat.div_one, h1]) fun e he _ => by
    rw [dig_mul hq, dig_mul hq]
    by_cases h : e < c
    · rw [if_pos h, if_pos h]
    · rw [if_neg h, if_neg h]
      obtain ⟨d, hd⟩ : ∃ d, e - c = d + 1 := ⟨e - c - 1, by omega⟩
      rw [hd, Nat.pow_succ', ← Nat.div_div_eq_div_mul, ← Nat.div_div_eq_div_mul, h2]
theorem word_dig {q r a c : Nat} (hq : 2 ≤ q) (hc : c < r) : (wordN q r (a * q ^ c)).getD (r - 1 - c) 0 = ((a % q : Nat) : Int) := by
  rw [wordN_getD hc, dig_mul hq, if_neg (by omega), Nat.sub_self, Nat.pow_zero, Nat.div_one]
/-- the word with a single 1 -/
theorem word_lead {q r s : Nat} (hq : 2 ≤ q) (hs : s < r) : (List.replicate r (0 : Int)).set (r - 1 - s) 1 = wordN q r (q ^ s) := by
  have e : List.replicate r (0 : Int) = wordN q r 0 := by
    unfold wordN
    rw [← rowOf_zero]
    exact rowOf_congr fun p _ => by simp
  rw [e]
  have := @wordN_set q r 0 (1 * q ^ s) s 1 hs (by rw [dig_mul hq, if_neg (by omega), Nat.sub_self, Nat.pow_zero, Nat.div_one, Nat.mod_eq_of_lt (by omega)]) fun e he _ => by
    rw [dig_mul hq, Nat.zero_div, Nat.zero_mod]
    by_cases h : e < s
    · rw [if_pos h]
    · rw [if_neg h, Nat.div_eq_of_lt (Nat.one_lt_pow (by omega) (by omega)), Nat.zero_mod]
  rw [Nat.one_mul] at this
  exact this

/-- the numbers whose highest digit is 1 -/
def ptsN (q : Nat) : Nat → List Nat
  | 0 => []
  | s + 1 => ptsN q s ++ (List.range (q ^ s)).map fun t => q ^ s + t
/-- 1 + q + .. + q^(k-1) -/
def geoN (q : Nat) : Nat → Nat
  | 0 => 0
  | k + 1 => geoN q k + q ^ k
theorem ptsN_len (q : Nat) : ∀ s, (ptsN q s).length = geoN q s
  | 0 => rfl
  | s + 1 => by rw [ptsN, List.length_append, List.length_map, List.length_range, ptsN_len q s, geoN]
theorem geoN_mono {q : Nat} {a b : Nat} (h : a ≤ b) : geoN q a ≤ geoN q b := by
  induction b with
  | zero => rw [show a = 0 by omega]; exact Nat.le_refl _
  | succ b ih =>
    by_cases e : a = b + 1
    · rw [e]; exact Nat.le_refl _
    · have := ih (by omega)
      rw [geoN]; omega
theorem geoN_ge {q : Nat} (hq : 2 ≤ q) : ∀ k, k ≤ geoN q k
  | 0 => Nat.le_refl _
  | k + 1 => by
    have := geoN_ge hq k
    have := Nat.pow_pos (n := k) (show 0 < q by omega)
    rw [geoN]; omega
/-- the highest digit other than 0 of the c lowest ones -/
def topD (q n : Nat) : Nat → Nat
  | 0 => 0
  | c + 1 => if n / q ^ c % q ≠ 0 then n / q ^ c % q else topD q n c
theorem topD_eq {q n s : Nat} (hq : 2 ≤ q) (h1 : q ^ s ≤ n) (h2 : n < q ^ (s + 1)) : ∀ c, s + 1 ≤ c → topD q n c = n / q ^ s
  | 0, h => by omega
  | c + 1, h => by
    have hp : ∀ k, 0 < q ^ k := fun k => Nat.pow_pos (by omega)
    rw [topD]
    by_cases e : c = s
    · subst e
      have hlt : n / q ^ c < q := by rw [Nat.div_lt_iff_lt_mul (hp c), ← Nat.pow_succ']; exact h2
      have hge : 1 ≤ n / q ^ c := (Nat.le_div_iff_mul_le (hp c)).2 (by omega)
      rw [Nat.mod_eq_of_lt hlt, if_pos (by omega)]
    · have h3 : n < q ^ c := Nat.lt_of_lt_of_le h2 (Nat.pow_le_pow_right (by omega) (by omega))
      rw [Nat.div_eq_of_lt h3, Nat.zero_mod, if_neg (by omega)]
      exact topD_eq hq h1 h2 c (by omega)
theorem topD_zero (q : Nat) : ∀ c, topD q 0 c = 0
  | 0 => rfl
  | c + 1 => by rw [topD, Nat.zero_div, Nat.zero_mod, if_neg (by omega), topD_zero q c]
theorem filter_lt {m : Nat} : ∀ N, m ≤ N → (List.range N).filter (fun t => decide (t < m)) = List.range m
  | 0, h => by rw [show m = 0 by omega]; rfl
  | N + 1, h => by
    by_cases e : m = N + 1
    · subst e
      exact List.filter_eq_self.2 fun a ha => by simpa using ha
    · rw [List.range_succ, List.filter_append, filter_lt N (by omega)]
      simp; omega
theorem range_add (a b : Nat) : List.range (a + b) = List.range a ++ (List.range b).map (a + ·) := List.range_add
/-- the reference's sieve -/
theorem filter_pts {q r : Nat} (hq : 2 ≤ q) : ∀ s, s ≤ r → (List.range (q ^ s)).filter (fun n => topD q n r == 1) = ptsN q s
  | 0, _ => by
    rw [Nat.pow_zero]
    show [0].filter _ = _
    simp [topD_zero, ptsN]
  | s + 1, h => by
    have hp : 0 < q ^ s := Nat.pow_pos (by omega)
    have e1 : q ^ (s + 1) = q ^ s + (q ^ s * (q - 1)) := by
      rw [Nat.pow_succ, Nat.mul_sub, Nat.mul_one]
      have : q ^ s * 1 ≤ q ^ s * q := Nat.mul_le_mul_left _ (by omega)
      omega
    have hle : q ^ s ≤ q ^ s * (q - 1) := by
      have : q ^ s * 1 ≤ q ^ s * (q - 1) := Nat.mul_le_mul_left _ (by omega)
      omega
    rw [e1, range_add, List.filter_append, filter_pts hq s (by omega), ptsN, List.filter_map]
    congr 2
    rw [← filter_lt (q ^ s * (q - 1)) hle]
    refine List.filter_congr fun t ht => ?_
    rw [List.mem_range] at ht
    show (topD q (q ^ s + t) r == 1) = _
    rw [topD_eq hq (s := s) (by omega) (by omega) r (by omega)]
    have : (q ^ s + t) / q ^ s = 1 + t / q ^ s := by rw [Nat.add_div_left _ hp, Nat.add_comm]
    rw [this, Bool.eq_iff_iff, beq_iff_eq, decide_eq_true_iff]
    constructor
    · intro h1
      have h0 : t / q ^ s = 0 := by omega
      rcases Nat.div_eq_zero_iff.1 h0 with h | h
      · omega
      · exact h
    · intro h1; rw [Nat.div_eq_of_lt h1]
/-- one number more -/
theorem filter_succ {f : Nat → Bool} (k : Nat) : (List.range (k + 1)).filter f = if f k then (List.range k).filter f ++ [k] else (List.range k).filter f := by
  rw [List.range_succ, List.filter_append]
  by_cases h : f k = true <;> simp [h]
/-- the list of the points -/
def ptsL (q r : Nat) : List (List Int) := (ptsN q r).map (wordN q r)
/-- the numbers modulo powers: the carry's condition -/
theorem carry_mod {q n c : Nat} (hq : 2 ≤ q) (h : n % q ^ c = q ^ c - 1) (hd : n / q ^ c % q = q - 1) : n % q ^ (c + 1) = q ^ (c + 1) - 1 := by
  have hp : 0 < q ^ c := Nat.pow_pos (by omega)
  rw [Nat.pow_succ, Nat.mod_mul, h, hd, Nat.mul_sub, Nat.mul_one]
  have : q ^ c * 1 ≤ q ^ c * q := Nat.mul_le_mul_left _ (by omega)
  omega
theorem carry_up {q n c : Nat} (hq : 2 ≤ q) (h : n % q ^ c = q ^ c - 1) : (n / q ^ c + 1) * q ^ c = n + 1 := by
  have hp : 0 < q ^ c := Nat.pow_pos (by omega)
  have e := Nat.div_add_mod n (q ^ c)
  rw [h, Nat.mul_comm] at e
  rw [Nat.add_mul, Nat.one_mul]; omega
/-- where the carry ends below the lead, there is a next number -/
theorem step_more {q s c t : Nat} (hq : 2 ≤ q) (hc : c < s) (ht : t < q ^ s) (hx : (q ^ s + t) / q ^ c % q + 1 < q) (h : (q ^ s + t) % q ^ c = q ^ c - 1) : t + 1 < q ^ s := by
  have hp : ∀ k, 0 < q ^ k := fun k => Nat.pow_pos (by omega)
  refine Nat.lt_of_le_of_ne ht fun e => ?_
  have h1 := carry_up hq h
  obtain ⟨d, rfl⟩ : ∃ d, s = c + (d + 1) := ⟨s - c - 1, by omega⟩
  have h2 : q ^ (c + (d + 1)) + t + 1 = (2 * q ^ d * q) * q ^ c := by
    rw [show q ^ (c + (d + 1)) + t + 1 = 2 * q ^ (c + (d + 1)) by omega, Nat.pow_add, Nat.pow_succ]
    rw [Nat.mul_assoc 2, Nat.mul_assoc 2, Nat.mul_comm (q ^ c)]
  rw [h2] at h1
  have h3 := Nat.eq_of_mul_eq_mul_right (hp c) h1
  have h4 : ((q ^ (c + (d + 1)) + t) / q ^ c + 1) % q = 0 := by rw [h3, Nat.mul_mod_left]
  rw [Nat.add_mod, Nat.mod_eq_of_lt (show 1 < q by omega), Nat.mod_eq_of_lt hx] at h4
  omega
theorem last_one {q s t : Nat} (ht : t < q ^ s) (h : (q ^ s + t) % q ^ s = q ^ s - 1) : t + 1 = q ^ s := by
  rw [Nat.add_mod_left, Nat.mod_eq_of_lt ht] at h; omega
end Go.Proofs.Ytlcgihjdafglmaa

/- ref15.Squares, ref15.shifts, ref15.Residue. -/
namespace Go.Proofs.Ytlcgihjdafglmaa
open Go.RowKit
set_option linter.unusedVariables false
set_option maxRecDepth 100000

theorem mod_two {x n : Nat} (h : x < 2 * n) : x % n = if x < n then x else x - n := by
  by_cases e : x < n
  · rw [if_pos e, Nat.mod_eq_of_lt e]
  · rw [if_neg e, Nat.mod_eq_sub_mod (by omega), Nat.mod_eq_of_lt (by omega)]
/-- a shift of es by k, behind i entries -/
def shT (n : Nat) (es : List Int) (k i : Nat) : List Int := rowOf n fun p => if (p + (n - k)) % n < i then es.getD ((p + (n - k)) % n) 0 else 0
theorem shT_len (n : Nat) (es : List Int) (k i : Nat) : (shT n es k i).length = n := rowOf_len _ _
theorem shT_zero (n : Nat) (es : List Int) (k : Nat) : shT n es k 0 = List.replicate n 0 := by
  rw [← rowOf_zero]; exact rowOf_congr fun p hp => by rw [if_neg (by omega)]
theorem shT_set {n k i : Nat} {es : List Int} (hk : k < n) (hi : i < n) : (shT n es k i).set ((i + k) % n) (es.getD i 0) = shT n es k (i + 1) := by
  unfold shT
  rw [rowOf_set]
  refine rowOf_congr fun p hp => ?_
  have h1 := mod_two (x := i + k) (n := n) (by omega)
  have h2 := mod_two (x := p + (n - k)) (n := n) (by omega)
  by_cases e : p = (i + k) % n
  · have e2 : (p + (n - k)) % n = i := by
      rw [h2, e, h1]; split <;> split <;> omega
    rw [if_pos e, if_pos (by omega), e2]
  · have e2 : (p + (n - k)) % n ≠ i := by
      rw [h2]; rw [h1] at e; intro h3
      split at h3 <;> split at e <;> omega
    rw [if_neg e]
    by_cases h3 : (p + (n - k)) % n < i
    · rw [if_pos h3, if_pos (by omega)]
    · rw [if_neg h3, if_neg (by omega)]
theorem shT_full {n k : Nat} {es : List Int} (hn : es.length = n) (hk : k < n) : shT n es k n = shR es k := by
  refine List.ext_getElem (by rw [shT_len, shR_len, hn]) fun p h1 h2 => ?_
  rw [shT_len] at h1
  have e1 : (shT n es k n)[p] = (shT n es k n).getD p 0 := by simp [List.getD, shT_len, h1]
  have e2 : (shR es k)[p] = (shR es k).getD p 0 := by simp [List.getD, h2]
  rw [e1, e2, shR_at (by omega) (by omega), hn]
  unfold shT
  rw [rowOf_getD h1, if_pos (Nat.mod_lt _ (by omega))]

set_option maxHeartbeats 8000000 in
theorem rSq_any (w : World) (n : Nat) (h1 : 1 ≤ n) (h64 : n ≤ 64) : Calls Try.prog 39 #[.int .i64 (n : Int)] w (fun e w' => ∃ g, w.heap.size ≤ g ∧ e = .returned (.slice (some ⟨g, 0, none⟩) n n) ∧ RI w' g (sqT n (n - 1)) ∧ Below w.heap.size w w') := by
  have hmk := fun (w : World) => run_mkI n (by omega) w
  have HR0 : Hid (RI (w.alloc (.cells (madeCells #[.int .i64 0] n) 3)) w.heap.size (sqT n 0)) := RI.made w n
  have HBA := Lib.hid (bl_alloc w (.cells (madeCells #[.int .i64 0] n) 3))
  have hn0 : ¬ (n : Int) = 0 := by omega
  go_enter Try.func39, Try.ntmps39
  go_wp2_with fail
  clear hmk
  obtain ⟨g, hg⟩ : ∃ g, g = w.heap.size := ⟨_, rfl⟩
  have HGE := Lib.hid hg
  rw [← hg] at HR0 ⊢
  clear hg
  go_loopw [4] (fun i wr => ∃ k : Nat, 1 ≤ k ∧ k ≤ n ∧ i = .int .i64 (k : Int) ∧ Hid (RI wr g (sqT n (k - 1))) ∧ Hid (Below w.heap.size w wr)) (fun i _ => n - (intOf i).toNat)
  case atStart => exact ⟨1, Nat.le_refl _, by omega, rfl, HR0, HBA⟩
  case round =>
    clear HR0 HBA
    obtain ⟨k, hk1, hk, rfl, HR, HB⟩ := hrel
    by_cases hkn : k < n
    · obtain ⟨p, hpe⟩ : ∃ p, p = k * k % n := ⟨_, rfl⟩
      have hpn : p < n := by rw [hpe]; exact Nat.mod_lt _ (by omega)
      have hkk : k * k ≤ 4096 := Nat.mul_le_mul (show k ≤ 64 by omega) (show k ≤ 64 by omega)
      obtain ⟨s, hs⟩ : ∃ s, s = k * k := ⟨_, rfl⟩
      have hss : (k : Int) * (k : Int) = (s : Int) := by rw [hs]; push_cast; rfl
      have hpi : (s : Int) % (n : Int) = (p : Int) := by rw [hs, hpe]; push_cast; rfl
      have hw1 : IntKind.i64.wrap (s : Int) = (s : Int) := IntWalk.i64_in _ (by omega)
      have hw2 : wrap64 (s : Int) = (s : Int) := by unfold wrap64; omega
      have HST : Hid ((sqT n (k - 1)).set p 1 = sqT n (k + 1 - 1)) := hid' (by
        obtain ⟨j, rfl⟩ : ∃ j, k = j + 1 := ⟨k - 1, by omega⟩
        show _ = sqT n (j + 1)
        rw [sqT, hpe]; rfl)
      have u0 := HR.out.cell p (by rw [sqT_len]; exact hpn)
      generalize hz : (sqT n (k - 1)).getD p 0 = z0 at u0
      clear hz
      have uf := HR.out.frozen p
      have HR2 := Lib.hid (HR.out.set p 1)
      rw [HST.out] at HR2
      have HB2 := Lib.hid (HB.out.setCell (p := ⟨g, p, none⟩) (by rw [HGE.out]; exact Nat.le_refl _) (.int .i64 1))
      clear hpe hkk hs
      go_wp2_with fail
      exact ⟨⟨k + 1, by omega, by omega, by push_cast; rfl, HR2, HB2⟩, by simp only [intOf]; omega⟩
    · obtain rfl : n = k := by omega
      go_wp2_with fail
      go_ret
      exact ⟨g, by rw [HGE.out]; exact Nat.le_refl _, rfl, HR.out, HB.out⟩

set_option maxHeartbeats 16000000 in
theorem rShf_any (w : World) (v : Value) (ws : List Int) (n : Nat) (hv : SI w v ws) (hlen : ws.length = n) (h1 : 1 ≤ n) (h64 : n ≤ 64) : Calls Try.prog 42 #[v] w (RetNu w (shL ws)) := by
  have HV := Lib.hid hv
  obtain ⟨VA, vc, rfl, _⟩ := hv
  rw [hlen] at HV ⊢
  have HL := Lib.hid hlen; clear hlen
  have HTS : Hid (∀ k, k < n → ((List.range (k + 1)).map (shR ws)) = ((List.range k).map (shR ws)) ++ [shR ws k]) := hid' fun k _ => by rw [List.range_succ, List.map_append]; rfl
  have HEND : Hid ((List.range n).map (shR ws) = shL ws) := hid' (by unfold shL; rw [HL.out])
  have HFU : Hid (∀ k, k < n → shT n ws k n = shR ws k) := hid' fun k hk => shT_full HL.out hk
  have HLN : Hid (∀ k, ((List.range k).map (shR ws)).length = k) := hid' fun k => by simp
  have HRL : Hid (∀ k, (shR ws k).length = n) := hid' fun k => by rw [shR_len, HL.out]
  have HWS : Hid (∀ k i, I64 ((shR ws k).getD i 0)) := hid' fun k i => shR_all (Q := I64) I64.zero HV.out.wfs k i
  have HOS0 := Lib.hid (OS.empty (B := w.heap.size) (X := fun g => g < w.heap.size) w (Nat.le_refl _))
  have HB00 := Lib.hid (bl_alloc w (.cells #[] 22))
  have hn0 : ¬ n = 0 := by omega
  go_enter Try.func42, Try.ntmps42
  go_wp2_with fail
  go_loopw [3, 4] (fun out i wr => ∃ (k : Nat) (OA : Option Addr) (oc : Nat), k ≤ n ∧ i = .int .i64 (k : Int) ∧ out = .slice OA k oc ∧ Hid (OS w.heap.size (fun g => g < w.heap.size) wr (.slice OA k oc) ((List.range k).map (shR ws))) ∧ Hid (Below w.heap.size w wr)) (fun _ i _ => n - (intOf i).toNat)
  case atStart => exact ⟨0, _, _, Nat.zero_le _, rfl, rfl, HOS0, HB00⟩
  case round =>
    clear HOS0 HB00
    obtain ⟨k, OA, oc, hk, rfl, rfl, HO, HB⟩ := hrel
    by_cases hkn : k < n
    · generalize wr = wo at *
      have hmk := fun (w : World) => run_mkI n (by omega) w
      have HR0 : Hid (RI (wo.alloc (.cells (madeCells #[.int .i64 0] n) 3)) wo.heap.size (shT n ws k 0)) := hid' (by rw [shT_zero]; exact RI.made wo n)
      have HBA := Lib.hid (bl_alloc wo (.cells (madeCells #[.int .i64 0] n) 3))
      go_wp2_with fail
      clear hmk
      obtain ⟨g, hg⟩ : ∃ g, g = wo.heap.size := ⟨_, rfl⟩
      have HGE := Lib.hid hg
      rw [← hg] at HR0 ⊢
      clear hg
      go_loopw [6] (fun i ws' => ∃ j : Nat, j ≤ n ∧ i = .int .i64 (j : Int) ∧ Hid (RI ws' g (shT n ws k j)) ∧ Hid (Below wo.heap.size wo ws')) (fun i _ => n - (intOf i).toNat)
      case atStart => exact ⟨0, Nat.zero_le _, rfl, HR0, HBA⟩
      case round =>
        clear HR0 HBA
        obtain ⟨j, hj, rfl, HR, HBr⟩ := hrel
        by_cases hjn : j < n
        · obtain ⟨t, ht⟩ : ∃ t, t = j + k := ⟨_, rfl⟩
          have htt : (j : Int) + (k : Int) = (t : Int) := by rw [ht]; push_cast; rfl
          have hwt : IntKind.i64.wrap (t : Int) = (t : Int) := IntWalk.i64_in _ (by omega)
          obtain ⟨p, hp⟩ : ∃ p, p = t % n := ⟨_, rfl⟩
          have hpp : (t : Int) % (n : Int) = (p : Int) := by rw [hp]; push_cast; rfl
          have hpt : (t : Int).tmod (n : Int) = (p : Int) := by rw [Int.tmod_eq_emod_of_nonneg (by omega)]; exact hpp
          have hpn : p < n := by rw [hp]; exact Nat.mod_lt _ (by omega)
          have HPE : Hid (p = (j + k) % n) := hid' (by rw [hp, ht])
          clear ht hp
          obtain ⟨wd, x, rfl, hxc, _, HX⟩ := (HV.out.below (bl_trans HB.out HBr.out) (Nat.le_refl _)).elt (k := j) (by rw [HL.out]; exact hjn)
          have HST : Hid ((shT n ws k j).set p x = shT n ws k (j + 1)) := hid' (by rw [← shT_set hkn hjn, ← HPE.out, HX.out])
          have u0 := HR.out.cell p (by rw [shT_len]; exact hpn)
          generalize hz : (shT n ws k j).getD p 0 = z0 at u0
          clear hz
          have uf := HR.out.frozen p
          have HR2 := Lib.hid (HR.out.set p x)
          rw [HST.out] at HR2
          have HB2 := Lib.hid (HBr.out.setCell (p := ⟨g, p, none⟩) (by rw [HGE.out]; exact Nat.le_refl _) (.int .i64 x))
          go_wp2_with fail
          refine Drawn.start (S := fun w' => w'.cell? (wd.add j) = some (.int .i64 x) ∧ w'.cell? ⟨g, p, none⟩ = some (.int .i64 z0)) (by kernel_rfl) (⟨hxc, u0⟩) (fun hHeld => ?_)
          change Drawn _ _ _ _ 13 _ _ _
          refine Drawn.take (i := 0) (v := ?_) rfl (by kernel_rfl) (by kernel_rfl) (by kernel_rfl) (by kernel_rfl) (fun _ _ _ h => h) (Or.inl ⟨by kernel_rfl, ?_⟩) hHeld ?_
          rotate_left
          · intro w' hSw; (try dsimp only at hSw); first | (go_simp; done) | (go_simp; with_reducible rfl)
          try simp only [List.getElem_toArray, List.getElem_cons_zero, List.getElem_cons_succ, Act.put, List.setIfInBounds_toArray, List.set_cons_zero, List.set_cons_succ]
          refine Drawn.take (i := 1) (v := ?_) rfl (by kernel_rfl) (by kernel_rfl) (by kernel_rfl) (by kernel_rfl) (fun _ _ _ h => h) (Or.inl ⟨by kernel_rfl, ?_⟩) hHeld ?_
          rotate_left
          · intro w' hSw; (try dsimp only at hSw); first | (go_simp; done) | (go_simp; with_reducible rfl)
          try simp only [List.getElem_toArray, List.getElem_cons_zero, List.getElem_cons_succ, Act.put, List.setIfInBounds_toArray, List.set_cons_zero, List.set_cons_succ]
          refine Drawn.take (i := 2) (v := ?_) rfl (by kernel_rfl) (by kernel_rfl) (by kernel_rfl) (by kernel_rfl) (fun _ _ _ h => h) (Or.inl ⟨by kernel_rfl, ?_⟩) hHeld ?_
          rotate_left
          · intro w' hSw; (try dsimp only at hSw); first | (go_simp; done) | (go_simp; with_reducible rfl)
          try simp only [List.getElem_toArray, List.getElem_cons_zero, List.getElem_cons_succ, Act.put, List.setIfInBounds_toArray, List.set_cons_zero, List.set_cons_succ]
          refine Drawn.take (i := 3) (v := ?_) rfl (by kernel_rfl) (by kernel_rfl) (by kernel_rfl) (by kernel_rfl) (fun _ _ _ h => h) (Or.inl ⟨by kernel_rfl, ?_⟩) hHeld ?_
          rotate_left
          · intro w' hSw; (try dsimp only at hSw); first | (go_simp; done) | (go_simp; with_reducible rfl)
          try simp only [List.getElem_toArray, List.getElem_cons_zero, List.getElem_cons_succ, Act.put, List.setIfInBounds_toArray, List.set_cons_zero, List.set_cons_succ]
          refine Drawn.take (i := 4) (v := ?_) rfl (by kernel_rfl) (by kernel_rfl) (by kernel_rfl) (by kernel_rfl) (fun _ _ _ h => h) (Or.inl ⟨by kernel_rfl, ?_⟩) hHeld ?_
          rotate_left
          · intro w' hSw; (try dsimp only at hSw); first | (go_simp; done) | (go_simp; with_reducible rfl)
          try simp only [List.getElem_toArray, List.getElem_cons_zero, List.getElem_cons_succ, Act.put, List.setIfInBounds_toArray, List.set_cons_zero, List.set_cons_succ]
          refine Drawn.take (i := 5) (v := ?_) rfl (by kernel_rfl) (by kernel_rfl) (by kernel_rfl) (by kernel_rfl) (fun _ _ _ h => h) (Or.inl ⟨by kernel_rfl, ?_⟩) hHeld ?_
          rotate_left
          · intro w' hSw; (try dsimp only at hSw); first | (go_simp; done) | (go_simp; with_reducible rfl)
          try simp only [List.getElem_toArray, List.getElem_cons_zero, List.getElem_cons_succ, Act.put, List.setIfInBounds_toArray, List.set_cons_zero, List.set_cons_succ]
          refine Drawn.take (i := 6) (v := ?_) rfl (by kernel_rfl) (by kernel_rfl) (by kernel_rfl) (by kernel_rfl) (fun _ _ _ h => h) (Or.inl ⟨by kernel_rfl, ?_⟩) hHeld ?_
          rotate_left
          · intro w' hSw; (try dsimp only at hSw); first | (go_simp; done) | (go_simp; with_reducible rfl)
          try simp only [List.getElem_toArray, List.getElem_cons_zero, List.getElem_cons_succ, Act.put, List.setIfInBounds_toArray, List.set_cons_zero, List.set_cons_succ]
          refine Drawn.take (i := 7) (v := ?_) rfl (by kernel_rfl) (by kernel_rfl) (by kernel_rfl) (by kernel_rfl) (fun _ _ _ h => h) (Or.inl ⟨by kernel_rfl, ?_⟩) hHeld ?_
          rotate_left
          · intro w' hSw; (try dsimp only at hSw); first | (go_simp; done) | (go_simp; with_reducible rfl)
          try simp only [List.getElem_toArray, List.getElem_cons_zero, List.getElem_cons_succ, Act.put, List.setIfInBounds_toArray, List.set_cons_zero, List.set_cons_succ]
          refine Drawn.take (i := 8) (v := ?_) rfl (by kernel_rfl) (by kernel_rfl) (by kernel_rfl) (by kernel_rfl) (fun _ _ _ h => h) (Or.inl ⟨by kernel_rfl, ?_⟩) hHeld ?_
          rotate_left
          · intro w' hSw; (try dsimp only at hSw); first | (go_simp; done) | (go_simp; with_reducible rfl)
          try simp only [List.getElem_toArray, List.getElem_cons_zero, List.getElem_cons_succ, Act.put, List.setIfInBounds_toArray, List.set_cons_zero, List.set_cons_succ]
          refine Drawn.take (i := 9) (v := ?_) rfl (by kernel_rfl) (by kernel_rfl) (by kernel_rfl) (by kernel_rfl) (fun _ _ _ h => h) (Or.inl ⟨by kernel_rfl, ?_⟩) hHeld ?_
          rotate_left
          · intro w' hSw; (try dsimp only at hSw); first | (go_simp; done) | (go_simp; with_reducible rfl)
          try simp only [List.getElem_toArray, List.getElem_cons_zero, List.getElem_cons_succ, Act.put, List.setIfInBounds_toArray, List.set_cons_zero, List.set_cons_succ]
          refine Drawn.take (i := 10) (v := ?_) rfl (by kernel_rfl) (by kernel_rfl) (by kernel_rfl) (by kernel_rfl) (fun _ _ _ h => h) (Or.inl ⟨by kernel_rfl, ?_⟩) hHeld ?_
          rotate_left
          · intro w' hSw; (try dsimp only at hSw); first | (go_simp; done) | (go_simp; with_reducible rfl)
          try simp only [List.getElem_toArray, List.getElem_cons_zero, List.getElem_cons_succ, Act.put, List.setIfInBounds_toArray, List.set_cons_zero, List.set_cons_succ]
          refine Drawn.take (i := 11) (v := ?_) rfl (by kernel_rfl) (by kernel_rfl) (by kernel_rfl) (by kernel_rfl) (fun _ _ _ h => h) (Or.inl ⟨by kernel_rfl, ?_⟩) hHeld ?_
          rotate_left
          · intro w' hSw; (try dsimp only at hSw); first | (go_simp; done) | (go_simp; with_reducible rfl)
          try simp only [List.getElem_toArray, List.getElem_cons_zero, List.getElem_cons_succ, Act.put, List.setIfInBounds_toArray, List.set_cons_zero, List.set_cons_succ]
          refine Drawn.only (i := 12) (by kernel_rfl) rfl (fun K hK => ?_)
          go_simp
          refine hK.out _ _ (fun h => absurd rfl h) (fun hHeld2 => ?_)
          clear hK K
          clear hHeld2
          refine Drawn.done (by kernel_rfl) ?_
          try simp only [List.getElem_toArray, List.getElem_cons_zero, List.getElem_cons_succ, Act.put, List.setIfInBounds_toArray, List.set_cons_zero, List.set_cons_succ]
          clear hHeld
          go_wp2_with fail
          exact ⟨⟨j + 1, by omega, by push_cast; rfl, HR2.out.drew, HB2.out.drew⟩, by simp only [intOf]; omega⟩
        · obtain rfl : n = j := by omega
          rw [HFU.out k hkn] at HR
          have hs1 := HB.out.size
          have hs2 := HBr.out.size
          have hoi := HR.out.oi (B := wo.heap.size) (by rw [HGE.out]; exact Nat.le_refl _) (by rw [HRL.out]; omega)
          have hcs := HR.out.si (by rw [HRL.out]; omega) (HWS.out k)
          rw [HRL.out] at hoi hcs
          have HC := Lib.hid hoi; have HCS := Lib.hid hcs; clear hoi hcs
          have HOA := Lib.hid ((HO.out.below HBr.out).alloc (.cells #[.slice (some ⟨g, 0, none⟩) n n] 22))
          have HBX := Lib.hid (box1 (w := wr) (u := .slice (some ⟨g, 0, none⟩) n n) (t := 22))
          have HXA := Lib.hid (HCS.out.below (bl_alloc wr (.cells #[.slice (some ⟨g, 0, none⟩) n n] 22)) (Nat.le_refl _))
          have HUP := Lib.hid (up_alloc (w := wr) (B := w.heap.size) (by omega) (.cells #[.slice (some ⟨g, 0, none⟩) n n] 22))
          have HBA := Lib.hid ((bl_trans HB.out HBr.out).alloc (by omega) (.cells #[.slice (some ⟨g, 0, none⟩) n n] 22))
          have HNB : Hid (∀ b, (Value.slice (some ⟨g, 0, none⟩) n n).ownBlock = some b → wo.heap.size ≤ b) := hid' fun b hb => (HC.out.lt hb).1
          have HOL : Hid (∀ b, (Value.slice OA k oc).ownBlock = some b → b < wo.heap.size) := hid' fun b hb => (HO.out.lt hb).2
          have HTK := Lib.hid (HTS.out k hkn)
          clear HCS HC HO HR
          go_wp2_with (at_builtin; refine wpList_pushS rfl _ _ rfl w.heap.size (fun g => g < w.heap.size) _ ((List.range k).map (shR ws)) rfl HOA.out wr.heap.size 1 _ (shR ws k) rfl HBX.out HXA.out (fun _ b hg => ⟨fun e => by have h1 := HNB.out b hg; have h2 := HOL.out b e; omega, by have h1 := HNB.out b hg; show ¬ b < w.heap.size; omega⟩) (by rw [HLN.out]; omega) HUP.out ?_; (intro v5 w8 ho5 hg5 hv5); (rw [← HTK.out] at ho5); (have HB8 := Lib.hid (HOA.out.bgrown HBA.out HUP.out hg5)); (obtain ⟨A5, c5, rfl⟩ := ho5.form); (rw [HLN.out] at ho5 ⊢); (have HO8 := Lib.hid ho5); clear ho5 hg5 hv5)
          exact ⟨⟨k + 1, A5, c5, by omega, by push_cast; rfl, rfl, HO8, HB8⟩, by simp only [intOf]; omega⟩
    · obtain rfl : n = k := by omega
      rw [HEND.out] at HO
      have HSS := Lib.hid (HO.out.sep (fun g hg => hg) (by rw [shL_len, HL.out]; omega))
      go_wp2_with fail
      go_ret
      exact ⟨_, rfl, HSS.out, HO.out, HB.out⟩
end Go.Proofs.Ytlcgihjdafglmaa
