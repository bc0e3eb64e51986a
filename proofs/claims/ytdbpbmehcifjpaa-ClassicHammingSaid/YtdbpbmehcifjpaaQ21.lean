/- Texts of a claim, merged: words, plain facts and walks that the last of its texts uses. -/
import Derived.Test.YtdbpbmehcifjpaaQ3
import Derived.Test.YtdbpbmehcifjpaaQ9
import Derived.Test.YtdbpbmehcifjpaaQ12
import Derived.Test.YtdbpbmehcifjpaaQ14
import Derived.Test.YtdbpbmehcifjpaaQ15
import Derived.Lib.SmallJoins
set_option linter.unusedSimpArgs false
set_option linter.unusedVariables false

/- From the reading of an 'api.Field' argument to the words of the walks. -/
namespace Go.Proofs.Ytdbpbmehcifjpaa
set_option maxRecDepth 100000
open Go.ChangeShapes Go.WideShapes Go.ChangeAt Go.RowKit

section
variable {H : Type} {enc : TypeId × Value → H} {W : World} {base : Nat} {held : Bool}
/-- an int among the fields of a struct -/
theorem open_cell_intF {fuel : Nat} {v : Value} {x : DataW H × List MemPlace} (h : DataW.trod enc Try.prog W base (fun _ => true) held fuel 3 [v] = some x) : ∃ n, v = .int .i64 n ∧ I64 n := by
  obtain ⟨n, h1, _, h2⟩ := DataW.trod_int Try.underlying3 h
  exact ⟨n, (List.cons.inj h1).1, I64.of_wf h2⟩
theorem open_cell_SIF {fuel : Nat} {v : Value} {x : DataW H × List MemPlace} (h : DataW.trod enc Try.prog W base (fun _ => true) held fuel 22 [v] = some x) (hw : ∀ n ∈ x.1.weights Try.prog 22, n ≤ reachBytes) : ∃ xs, SI W v xs := by
  obtain ⟨v', xs, hcs, hs⟩ := open_cells_SI (d := x.1) (p := x.2) h hw
  have e : v = v' := (List.cons.inj hcs).1
  rw [← e] at hs
  exact ⟨xs, hs⟩
theorem open_Field {v : Value} {d : DataW H} {p : List MemPlace} {bs : Nat} (h : DataW.Trod enc Try.prog W base (fun _ => true) held 24 v d p) (hok : Value.okWide Try.prog W .any bs 24 v)
    (hw : ∀ n ∈ d.weights Try.prog 24, n ≤ reachBytes) : ∃ P M mv Mod, v = .agg #[.int .i64 P, .int .i64 M, mv] ∧ SI W mv Mod := by
  obtain ⟨v0, v1, v2, y0, y1, y2, n, rfl, rfl, rfl, h0, h1, h2⟩ := Go.Joins.open_agg3 Try.underlying24 (by kernel_rfl) (by kernel_rfl) hok h
  obtain ⟨P, rfl, _⟩ := open_cell_intF h0
  obtain ⟨M, rfl, _⟩ := open_cell_intF h1
  have hwe : ∀ k, k ∈ DataW.weightsEach Try.prog [3, 3, 22] [y0.1, y1.1, y2.1] → k ≤ reachBytes := fun k hk => hw k (by
    rw [DataW.weights, Try.underlying24]; exact hk)
  simp only [DataW.weightsEach, List.mem_append] at hwe
  obtain ⟨Mod, hs2⟩ := open_cell_SIF h2 fun k hk => hwe k (by simp [hk])
  exact ⟨P, M, v2, Mod, rfl, hs2⟩
end
end Go.Proofs.Ytdbpbmehcifjpaa

/- math/bits.Mul64, Mul of 1 and n; slices.Repeat of [1]. -/
namespace Go.Proofs.Ytdbpbmehcifjpaa
open Go.RowKit
set_option linter.unusedVariables false
set_option maxRecDepth 100000

theorem mul64_fin : ∀ n : Nat, n < 65 → bits .and .u64 1 4294967295 = 1 ∧ bits .and .u64 0 4294967295 = 0 ∧ (n : Int) / 4294967296 = 0 ∧ bits .and .u64 (n : Int) 4294967295 = (n : Int) := by decide

set_option maxHeartbeats 8000000 in
theorem mul64_one (w : World) (n : Nat) (hn : n < 65) :
    Calls Try.prog 107 #[.int .u64 1, .int .u64 (n : Int)] w fun e w' => e = .returned (.tuple #[.int .u64 0, .int .u64 (n : Int)]) ∧ Below w.heap.size w w' := by
  obtain ⟨h1, h0, h3, h2⟩ := mul64_fin n hn
  go_enter Try.func107, Try.ntmps107
  go_wp2_with fail
  go_ret2
  exact ⟨rfl, bl_refl w⟩

/-- n entries, the first k of them 1 -/
def repL (n k : Nat) : List Int := List.replicate k 1 ++ List.replicate (n - k) 0
theorem repL_len {n k : Nat} (h : k ≤ n) : (repL n k).length = n := by simp [repL]; omega
theorem repL_zero (n : Nat) : repL n 0 = List.replicate n 0 := by simp [repL]
theorem repL_full (n : Nat) : repL n n = List.replicate n 1 := by simp [repL]
theorem repL_splice {n k m : Nat} (h : k + m ≤ n) : splice ((repL n k).map (Value.int .i64)) k (List.replicate m (.int .i64 1)) = (repL n (k + m)).map (Value.int .i64) := by
  have e1 : (repL n k).map (Value.int .i64) = List.replicate k (Value.int .i64 1) ++ List.replicate (n - k) (Value.int .i64 0) := by simp [repL]
  have e2 : (repL n (k + m)).map (Value.int .i64) = (List.replicate k (Value.int .i64 1) ++ List.replicate m (Value.int .i64 1)) ++ List.replicate (n - (k + m)) (Value.int .i64 0) := by simp [repL]
  rw [e1, e2]
  unfold splice
  rw [List.take_left' (by simp), List.length_replicate, ← List.drop_drop, List.drop_left' (by simp), List.drop_replicate, List.append_assoc, Nat.sub_sub]
theorem repL_getD {n k i : Nat} (h : i < k) : (repL n k).getD i 0 = 1 := by
  simp [repL, List.getD, List.getElem?_append, h]

set_option maxHeartbeats 8000000 in
theorem mul_one' (w : World) (n : Nat) (hn : n < 65) :
    Calls Try.prog 82 #[.int .u64 1, .int .u64 (n : Int)] w fun e w' => e = .returned (.tuple #[.int .u64 0, .int .u64 (n : Int)]) ∧ Below w.heap.size w w' := by
  go_enter Try.func82, Try.ntmps82
  go_wp2_with fail
  refine (mul64_one _ n hn).mono ?_
  rintro e w1 ⟨rfl, hb⟩
  have HB := Lib.hid hb; clear hb
  go_wp2_with fail
  go_ret2
  exact ⟨rfl, HB.out⟩

set_option maxHeartbeats 8000000 in
theorem rep_one (w : World) (v : Value) (n : Nat) (h1 : 1 ≤ n) (h64 : n < 65) (hv : SI w v [1]) : Calls Try.prog 50 #[v, .int .i64 (n : Int)] w (RetO w (List.replicate n 1)) := by
  obtain ⟨A, c, rfl, hat⟩ := hv
  obtain ⟨ad, x, rfl, hc, _, hx⟩ := hat.elt0 (by simp)
  obtain rfl : (1 : Int) = x := hx.out
  clear hat hx
  have hmk := fun (w : World) => run_mkI n (by omega) w
  have hwu : IntKind.u64.wrap (n : Int) = (n : Int) := by rw [IntKind.wrap_u64]; omega
  have hwi : IntKind.i64.wrap (n : Int) = (n : Int) := IntWalk.i64_in _ (by omega)
  have hw6 : wrap64 (n : Int) = (n : Int) := by unfold wrap64; omega
  have hni : (n : Int) ≤ 64 := by omega
  go_enter Try.func50, Try.ntmps50
  go_wp2_with fail
  refine (mul_one' _ n h64).mono ?_
  rintro e w1 ⟨rfl, hb1⟩
  have HB1 := Lib.hid hb1
  have hc1 := cell_below hb1 hc
  clear hb1 hc
  have HR0 := Lib.hid (RI.made w1 n)
  have HB0 := Lib.hid (bl_alloc w1 (.cells (madeCells #[.int .i64 0] n) 3))
  go_wp2_with (refine wpList_copy_splice rfl (.tmp 31) (.tmp 32) 22 22 rfl 3 Try.underlying22 sizeInt (some ⟨w1.heap.size, 0, none⟩) (some ad) n n 1 c rfl rfl w1.heap.size 0 ((List.replicate n 0).map (Value.int .i64)) 3 HR0.out [.int .i64 1] (by show 1 = min 1 n; omega) (fun _ => ⟨rfl, ad, rfl, fun j v hj => ?_⟩) (by simp; omega) (fun v hv => by obtain rfl := List.mem_singleton.1 hv; rfl) w1.heap.size w1 HB0.out (Nat.le_refl _) ?_)
  · have hj1 : j < 1 := by
      have := (List.getElem?_eq_some_iff.1 hj).1; simpa using this
    obtain rfl : j = 0 := by omega
    obtain rfl : Value.int .i64 1 = v := by simpa using hj
    rw [add_zero']; exact cell_below (bl_alloc w1 _) hc1
  intro w2 hg2 hb2
  have HB2 := Lib.hid hb2
  have HSP := repL_splice (n := n) (k := 0) (m := 1) (by omega)
  rw [repL_zero] at HSP
  have HR2 : Hid (RI w2 w1.heap.size (repL n 1)) := hid' (by
    have h := hg2.out
    have e : splice (List.replicate n (Value.int .i64 0)) 0 [.int .i64 1] = (repL n 1).map (Value.int .i64) := by simpa using HSP
    rw [e] at h; exact h)
  clear hg2 hb2 HSP HR0 HB0 hc1 hmk
  obtain ⟨g, hg⟩ : ∃ g, g = w1.heap.size := ⟨_, rfl⟩
  have HGE := Lib.hid hg
  rw [← hg] at HR2 HB2 ⊢
  clear hg
  go_wp2_with fail
  go_loopw [8] (fun i wr => ∃ k : Nat, 1 ≤ k ∧ k ≤ n ∧ i = .int .i64 (k : Int) ∧ Hid (RI wr g (repL n k)) ∧ Hid (Below g w1 wr)) (fun i _ => (n - intOf i).toNat)
  case atStart => exact ⟨1, Nat.le_refl _, h1, rfl, HR2, HB2⟩
  case round =>
    clear HR2 HB2
    obtain ⟨k, hk1, hk, rfl, HR, HB⟩ := hrel
    by_cases hlt : k < n
    · have hki : (0 : Int) ≤ (k : Int) := by omega
      have hki2 : (k : Int) ≤ (n : Int) := by omega
      obtain ⟨m, hm⟩ : ∃ m, m = min k (n - k) := ⟨_, rfl⟩
      have HM := Lib.hid hm
      have hm1 : 1 ≤ m := by omega
      have hm2 : k + m ≤ n := by omega
      clear hm
      have HSP := Lib.hid (repL_splice hm2)
      have HGI : Hid (goInt ((List.replicate m (Value.int .i64 1)).length : Int) = .int .i64 (m : Int)) := hid' (by rw [List.length_replicate]; rfl)
      have hkm : IntKind.i64.wrap ((k : Int) + (m : Int)) = ((k + m : Nat) : Int) := by rw [← Int.natCast_add]; exact IntWalk.i64_in _ (by omega)
      have hkm2 : wrap64 ((k : Int) + (m : Int)) = ((k + m : Nat) : Int) := by unfold wrap64; omega
      have HCP : Hid (0 < (List.replicate m (Value.int .i64 1)).length → (if n = k then some (⟨g, 0, none⟩ : Addr) else some ⟨g, k, none⟩) = some ⟨g, k, none⟩ ∧ ∃ ad, (some (⟨g, 0, none⟩ : Addr)) = some ad ∧ ∀ (j : Nat) (v : Value), (List.replicate m (Value.int .i64 1))[j]? = some v → wr.drew.cell? (ad.add j) = some v) := by
        intro _
        refine ⟨by rw [if_neg (by omega)], _, rfl, fun j v hv => ?_⟩
        by_cases hj : j < m
        · have hv2 : v = .int .i64 1 := by
            simp [List.getElem?_replicate, hj] at hv
            exact hv.symm
          have hjk : j < k := by have := HM.out; omega
          have h := HR.out.cell j (by rw [repL_len hk]; omega)
          rw [repL_getD hjk] at h
          rw [hv2]
          have e2 : (⟨g, 0, none⟩ : Addr).add j = ⟨g, j, none⟩ := by
            unfold Addr.add
            by_cases h0 : j = 0 <;> simp [h0]
          rw [e2]; exact h
        · simp [List.getElem?_replicate, hj] at hv
      go_wp2_with fail
      refine Kept.start (S := fun _ => True) (by kernel_rfl) (trivial) (fun hHeld => ?_)
      change Kept _ _ _ _ 10 _ _ _
      refine Kept.take (i := 0) (v := ?_) rfl (by kernel_rfl) (by kernel_rfl) (by kernel_rfl) (fun _ _ _ h => h) (Or.inl ⟨by kernel_rfl, ?_⟩) hHeld ?_
      rotate_left
      · intro w' hSw; (try dsimp only at hSw); first | (go_simp; done) | (go_simp; with_reducible rfl)
      try simp only [List.getElem_toArray, List.getElem_cons_zero, List.getElem_cons_succ, Act.put, List.setIfInBounds_toArray, List.set_cons_zero, List.set_cons_succ]
      refine Kept.take (i := 1) (v := ?_) rfl (by kernel_rfl) (by kernel_rfl) (by kernel_rfl) (fun _ _ _ h => h) (Or.inl ⟨by kernel_rfl, ?_⟩) hHeld ?_
      rotate_left
      · intro w' hSw; (try dsimp only at hSw); first | (go_simp; done) | (go_simp; with_reducible rfl)
      try simp only [List.getElem_toArray, List.getElem_cons_zero, List.getElem_cons_succ, Act.put, List.setIfInBounds_toArray, List.set_cons_zero, List.set_cons_succ]
      refine Kept.take (i := 2) (v := ?_) rfl (by kernel_rfl) (by kernel_rfl) (by kernel_rfl) (fun _ _ _ h => h) (Or.inl ⟨by kernel_rfl, ?_⟩) hHeld ?_
      rotate_left
      · intro w' hSw; (try dsimp only at hSw); first | (go_simp; done) | (go_simp; with_reducible rfl)
      try simp only [List.getElem_toArray, List.getElem_cons_zero, List.getElem_cons_succ, Act.put, List.setIfInBounds_toArray, List.set_cons_zero, List.set_cons_succ]
      refine Kept.take (i := 3) (v := ?_) rfl (by kernel_rfl) (by kernel_rfl) (by kernel_rfl) (fun _ _ _ h => h) (Or.inl ⟨by kernel_rfl, ?_⟩) hHeld ?_
      rotate_left
      · intro w' hSw; (try dsimp only at hSw); first | (go_simp; done) | (go_simp; with_reducible rfl)
      try simp only [List.getElem_toArray, List.getElem_cons_zero, List.getElem_cons_succ, Act.put, List.setIfInBounds_toArray, List.set_cons_zero, List.set_cons_succ]
      refine Kept.take (i := 4) (v := ?_) rfl (by kernel_rfl) (by kernel_rfl) (by kernel_rfl) (fun _ _ _ h => h) (Or.inl ⟨by kernel_rfl, ?_⟩) hHeld ?_
      rotate_left
      · intro w' hSw; (try dsimp only at hSw); first | (go_simp; done) | (go_simp; with_reducible rfl)
      try simp only [List.getElem_toArray, List.getElem_cons_zero, List.getElem_cons_succ, Act.put, List.setIfInBounds_toArray, List.set_cons_zero, List.set_cons_succ]
      refine Kept.take (i := 5) (v := ?_) rfl (by kernel_rfl) (by kernel_rfl) (by kernel_rfl) (fun _ _ _ h => h) (Or.inl ⟨by kernel_rfl, ?_⟩) hHeld ?_
      rotate_left
      · intro w' hSw; (try dsimp only at hSw); first | (go_simp; done) | (go_simp; with_reducible rfl)
      try simp only [List.getElem_toArray, List.getElem_cons_zero, List.getElem_cons_succ, Act.put, List.setIfInBounds_toArray, List.set_cons_zero, List.set_cons_succ]
      refine Kept.take (i := 6) (v := ?_) rfl (by kernel_rfl) (by kernel_rfl) (by kernel_rfl) (fun _ _ _ h => h) (Or.inl ⟨by kernel_rfl, ?_⟩) hHeld ?_
      rotate_left
      · intro w' hSw; (try dsimp only at hSw); first | (go_simp; done) | (go_simp; with_reducible rfl)
      try simp only [List.getElem_toArray, List.getElem_cons_zero, List.getElem_cons_succ, Act.put, List.setIfInBounds_toArray, List.set_cons_zero, List.set_cons_succ]
      refine Kept.only (i := 7) (o := ?op1) (by kernel_rfl) ?ho1 (fun K hK => ?_)
      case ho1 => (conv => lhs; simp only [List.getElem?_toArray, List.getElem?_cons_succ, List.getElem?_cons_zero])
      refine step_copy_splice (by kernel_rfl) (.tmp 41) (.tmp 44) 22 22 (by kernel_rfl) 3 Try.underlying22 sizeInt (if n = k then some ⟨g, 0, none⟩ else some ⟨g, k, none⟩) (some ⟨g, 0, none⟩) (n - k) (n - k) k n (by kernel_rfl) (by kernel_rfl) g k ((repL n k).map (Value.int .i64)) 3 HR.out (List.replicate m (.int .i64 1)) (by rw [List.length_replicate]; exact HM.out) HCP.out (by rw [List.length_replicate, List.length_map, repL_len hk]; omega) (fun v hv => by obtain rfl := List.eq_of_mem_replicate hv; rfl) g w1 HB.out.drew (Nat.le_refl _) ?_; intro w4 hg4 hb4; have HR4 : Hid (RI w4 g (repL n (k + m))) := hid' (show w4.heap[g]? = some (.cells ((repL n (k + m)).map (Value.int .i64)).toArray 3 (0, 0)) from HSP.out ▸ hg4.out); have HB4 := Lib.hid hb4; clear hg4 hb4; rw [HGI.out]
      refine hK.out _ _ (trivial) (fun hHeld2 => ?_)
      clear hK K
      replace hHeld := hHeld2
      clear hHeld2
      try simp only [List.getElem_toArray, List.getElem_cons_zero, List.getElem_cons_succ, Act.put, List.setIfInBounds_toArray, List.set_cons_zero, List.set_cons_succ]
      refine Kept.take (i := 8) (v := ?_) rfl (by kernel_rfl) (by kernel_rfl) (by kernel_rfl) (fun _ _ _ h => h) (Or.inl ⟨by kernel_rfl, ?_⟩) hHeld ?_
      rotate_left
      · intro w' hSw; (try dsimp only at hSw); first | (go_simp; done) | (go_simp; with_reducible rfl)
      try simp only [List.getElem_toArray, List.getElem_cons_zero, List.getElem_cons_succ, Act.put, List.setIfInBounds_toArray, List.set_cons_zero, List.set_cons_succ]
      refine Kept.only (i := 9) (by kernel_rfl) rfl (fun K hK => ?_)
      go_simp
      refine hK.out _ _ hHeld (fun hHeld2 => ?_)
      clear hK K
      clear hHeld2
      refine Kept.done (by kernel_rfl) ?_
      try simp only [List.getElem_toArray, List.getElem_cons_zero, List.getElem_cons_succ, Act.put, List.setIfInBounds_toArray, List.set_cons_zero, List.set_cons_succ]
      clear hHeld
      go_wp2_with fail
      exact ⟨⟨k + m, by omega, hm2, rfl, HR4, HB4⟩, by simp only [intOf]; omega⟩
    · obtain rfl : n = k := by omega
      rw [repL_full] at HR
      go_wp2_with fail
      go_ret
      have hw1 : w.heap.size ≤ g := by rw [HGE.out]; exact HB1.out.size
      have ho := HR.out.oi (B := w.heap.size) hw1 (by rw [List.length_replicate]; omega)
      rw [List.length_replicate] at ho
      exact ⟨_, rfl, ho, HB1.out.trans ((HB.out.mono hw1))⟩
end Go.Proofs.Ytdbpbmehcifjpaa

/- ref12.Parity, Dual; classic.Parity, ref15.Parity over a code that is there. -/
namespace Go.Proofs.Ytdbpbmehcifjpaa
open Go.RowKit
set_option linter.unusedVariables false
set_option maxRecDepth 100000

set_option maxHeartbeats 8000000 in
theorem rPar_ok (w : World) (P M : Int) (n : Nat) (mv gv : Value) (Mod : List Int) (gen : List (List Int)) (hm : SI w mv Mod) (hg : SS w gv gen) (hE : codeE P M Mod n gen = 0) :
    Calls Try.prog 75 #[.agg #[.int .i64 P, .int .i64 M, mv, .int .i64 (n : Int), gv]] w (RetNu w (nullL (refOps P M Mod) gen n)) := by
  obtain ⟨hf, _, h64, h256, hR, _⟩ := codeE_zero hE
  rw [Int.toNat_natCast] at hR
  have HN := Lib.hid (fun (w' : World) (hb : Below w.heap.size w w') => rNull_any w' P M n mv gv Mod gen (hm.below hb (Nat.le_refl _)) (hg.below hb (Nat.le_refl _)) (ref_fld hf) hf.1 hf.2.2.1 hR (by omega) (by omega))
  obtain ⟨GA, gc, rfl, _⟩ := hg
  generalize gen.length = gl at *
  clear hm hE hf hR h64 h256
  have HF := Lib.hid (CBox.mk' w P M mv n (.slice GA gl gc))
  go_enter Try.func75, Try.ntmps75
  go_upto_region 1 with fail
  generalize w.alloc (.cells #[.int .i64 P, .int .i64 M, mv, .int .i64 (n : Int), .slice GA gl gc] 27) = w0 at *
  have c0 := HF.out.c0; have c1 := HF.out.c1; have c2 := HF.out.c2; have c3 := HF.out.c3; have c4 := HF.out.c4
  go_wp2_with fail
  refine (HN.out w0 HF.out.bel).mono ?_
  rintro e w1 ⟨u, rfl, hx, ho, hb1⟩
  have hs := HF.out.bel.size
  have HX := Lib.hid (hx.mono hs); have HO := Lib.hid ((ho.names (Y := fun g => g < w.heap.size) (fun g _ h => Nat.lt_of_lt_of_le h hs)).mono hs)
  have HB := Lib.hid (bl_trans HF.out.bel hb1)
  clear hx ho hb1 c0 c1 c2 c3 c4
  go_wp2_with fail
  go_ret
  exact ⟨_, rfl, HX.out, HO.out, HB.out⟩

set_option maxHeartbeats 16000000 in
theorem rCDual_ok (w : World) (P M : Int) (n : Nat) (mv gv : Value) (Mod : List Int) (gen : List (List Int)) (hm : SI w mv Mod) (hg : SS w gv gen) (hE : codeE P M Mod n gen = 0) :
    Calls Try.prog 45 #[.agg #[.int .i64 P, .int .i64 M, mv, .int .i64 (n : Int), gv]] w (RetCE w P M Mod n (nullL (refOps P M Mod) gen n) 0) := by
  have HCK := Lib.hid (fun (w' : World) (hb : Below w.heap.size w w') => rCCheck_any w' P M n mv gv Mod gen (hm.below hb (Nat.le_refl _)) (hg.below hb (Nat.le_refl _)))
  rw [hE] at HCK
  obtain ⟨hf, _, h64, h256, hR, _⟩ := codeE_zero hE
  rw [Int.toNat_natCast] at hR
  have hO := ref_fld hf
  have hC := Cn.null hO hR
  have hCl := hC.le
  have HPA := Lib.hid (fun (w' : World) (hb : Below w.heap.size w w') => rPar_ok w' P M n mv gv Mod gen (hm.below hb (Nat.le_refl _)) (hg.below hb (Nat.le_refl _)) hE)
  have HMK := Lib.hid (fun (w' : World) (u : Value) (hb : Below w.heap.size w w') (hs : SS w' u (nullL (refOps P M Mod) gen n)) => rMake_any w' P M n mv u Mod _ (hm.below hb (Nat.le_refl _)) hs hf.1 hf.2.2.1 hC.rows (by omega) (by omega))
  rw [hC.self hO] at HMK
  unfold RetC at HMK
  obtain ⟨GA, gc, rfl, _⟩ := hg
  generalize gen.length = gl at *
  clear hm hE hf hR hO hC hCl h64 h256
  generalize nullL (refOps P M Mod) gen n = D at *
  obtain ⟨w1, e1, hq⟩ := CCQ.mk' w P M mv n (.slice GA gl gc)
  have HQ := Lib.hid hq; have HE1 := Lib.hid e1; clear hq e1
  go_enter Try.func45, Try.ntmps45
  go_upto_region 1 with fail
  rw [HE1.out]
  clear HE1
  have c0 := HQ.out.cb.c0; have c1 := HQ.out.cb.c1; have c2 := HQ.out.cb.c2; have c3 := HQ.out.cb.c3; have c4 := HQ.out.cb.c4
  go_wp2_with fail
  refine (HCK.out w1 HQ.out.cb.bel).mono ?_
  rintro e w2 ⟨rfl, hb2⟩
  have HQ2 := Lib.hid (HQ.out.on hb2)
  clear hb2 c0 c1 c2 c3 c4
  have c0 := HQ2.out.cb.c0; have c1 := HQ2.out.cb.c1; have c2 := HQ2.out.cb.c2; have c3 := HQ2.out.cb.c3; have c4 := HQ2.out.cb.c4
  go_upto_region 4 with fail
  refine Kept.start (S := fun w' => w'.cell? ⟨w.heap.size, 0, none⟩ = some (.int .i64 P) ∧ w'.cell? ⟨w.heap.size, 1, none⟩ = some (.int .i64 M) ∧ w'.cell? ⟨w.heap.size, 2, none⟩ = some mv ∧ w'.cell? ⟨w.heap.size, 3, none⟩ = some (.int .i64 (n : Int)) ∧ w'.cell? ⟨w.heap.size, 4, none⟩ = some (.slice GA gl gc)) (by kernel_rfl) (⟨c0, c1, c2, c3, c4⟩) (fun hHeld => ?_)
  change Kept _ _ _ _ 9 _ _ _
  refine Kept.take (i := 0) (v := ?_) rfl (by kernel_rfl) (by kernel_rfl) (by kernel_rfl) (fun _ _ _ h => h) (Or.inl ⟨by kernel_rfl, ?_⟩) hHeld ?_
  rotate_left
  · intro w' hSw; (try dsimp only at hSw); first | (go_simp; done) | (go_simp; with_reducible rfl)
  try simp only [List.getElem_toArray, List.getElem_cons_zero, List.getElem_cons_succ, Act.put, List.setIfInBounds_toArray, List.set_cons_zero, List.set_cons_succ]
  refine Kept.take (i := 1) (v := ?_) rfl (by kernel_rfl) (by kernel_rfl) (by kernel_rfl) (fun _ _ _ h => h) (Or.inl ⟨by kernel_rfl, ?_⟩) hHeld ?_
  rotate_left
  · intro w' hSw; (try dsimp only at hSw); first | (go_simp; done) | (go_simp; with_reducible rfl)
  try simp only [List.getElem_toArray, List.getElem_cons_zero, List.getElem_cons_succ, Act.put, List.setIfInBounds_toArray, List.set_cons_zero, List.set_cons_succ]
  refine Kept.take (i := 2) (v := ?_) rfl (by kernel_rfl) (by kernel_rfl) (by kernel_rfl) (fun _ _ _ h => h) (Or.inl ⟨by kernel_rfl, ?_⟩) hHeld ?_
  rotate_left
  · intro w' hSw; (try dsimp only at hSw); first | (go_simp; done) | (go_simp; with_reducible rfl)
  try simp only [List.getElem_toArray, List.getElem_cons_zero, List.getElem_cons_succ, Act.put, List.setIfInBounds_toArray, List.set_cons_zero, List.set_cons_succ]
  refine Kept.take (i := 4) (v := ?_) rfl (by kernel_rfl) (by kernel_rfl) (by kernel_rfl) (fun _ _ _ h => h) (Or.inl ⟨by kernel_rfl, ?_⟩) hHeld ?_
  rotate_left
  · intro w' hSw; (try dsimp only at hSw); first | (go_simp; done) | (go_simp; with_reducible rfl)
  try simp only [List.getElem_toArray, List.getElem_cons_zero, List.getElem_cons_succ, Act.put, List.setIfInBounds_toArray, List.set_cons_zero, List.set_cons_succ]
  refine Kept.take (i := 5) (v := ?_) rfl (by kernel_rfl) (by kernel_rfl) (by kernel_rfl) (fun _ _ _ h => h) (Or.inl ⟨by kernel_rfl, ?_⟩) hHeld ?_
  rotate_left
  · intro w' hSw; (try dsimp only at hSw); first | (go_simp; done) | (go_simp; with_reducible rfl)
  try simp only [List.getElem_toArray, List.getElem_cons_zero, List.getElem_cons_succ, Act.put, List.setIfInBounds_toArray, List.set_cons_zero, List.set_cons_succ]
  refine Kept.only (i := 3) (by kernel_rfl) rfl (fun K hK => ?_)
  go_simp
  refine (HPA.out _ (bl_trans HQ2.out.cb.bel (bl_drew w2))).mono ?_; rintro e w3 ⟨u3, rfl, hx3, _, hb3⟩; have HX3 := Lib.hid hx3.out; have HQ3 := Lib.hid (HQ2.out.on (bl_trans (bl_drew w2) hb3)); have hs3 := (bl_trans (bl_drew w2) hb3).size; clear hx3 hb3
  refine hK.out _ _ (⟨HQ3.out.cb.c0, HQ3.out.cb.c1, HQ3.out.cb.c2, HQ3.out.cb.c3, HQ3.out.cb.c4⟩) (fun hHeld2 => ?_)
  clear hK K
  replace hHeld := hHeld2
  clear hHeld2
  try simp only [List.getElem_toArray, List.getElem_cons_zero, List.getElem_cons_succ, Act.put, List.setIfInBounds_toArray, List.set_cons_zero, List.set_cons_succ]
  refine Kept.only (i := 6) (by kernel_rfl) rfl (fun K hK => ?_)
  go_simp
  refine (HMK.out w3 u3 HQ3.out.cb.bel HX3.out).mono ?_; rintro e w4 ⟨u4, g4, rfl, hx4, hb4⟩; obtain ⟨⟨MA, mc, rfl, _⟩, ⟨DA, dc, rfl, _⟩⟩ := hx4.out; have HX4 : Hid (Sep w3.heap.size w4 fun w9 => SI w9 (.slice MA Mod.length mc) Mod ∧ SS w9 (.slice DA D.length dc) D) := hid' hx4; have HQ4 := Lib.hid (HQ3.out.on hb4); clear hx4 hb4; generalize D.length = dl at *; generalize Mod.length = ml at *
  refine hK.out _ _ (⟨HQ4.out.cb.c0, HQ4.out.cb.c1, HQ4.out.cb.c2, HQ4.out.cb.c3, HQ4.out.cb.c4⟩) (fun hHeld2 => ?_)
  clear hK K
  replace hHeld := hHeld2
  clear hHeld2
  try simp only [List.getElem_toArray, List.getElem_cons_zero, List.getElem_cons_succ, Act.put, List.setIfInBounds_toArray, List.set_cons_zero, List.set_cons_succ]
  refine Kept.only (i := 7) (o := ?op1) (by kernel_rfl) ?ho1 (fun K hK => ?_)
  case ho1 => (conv => lhs; simp only [List.getElem?_toArray, List.getElem?_cons_succ, List.getElem?_cons_zero])
  obtain ⟨y0, y1, y2, y3, y4, f0, f1, f2, f3, f4⟩ := HQ4.out.q.five; go_simp; obtain ⟨w5, hz, HL⟩ := lay5 (x := .int .i64 P) (y := .int .i64 M) (z := .slice MA ml mc) (u := .int .i64 (n : Int)) (v := .slice DA dl dc) HQ4.out.q; rw [hz]; have q0 := HL.c0; have q1 := HL.c1; have q2 := HL.c2; have q3 := HL.c3; have q4 := HL.c4; have hql := HQ2.out.q.lt; have HC5 := Lib.hid (HQ4.out.cb.blk.grown HL.gr (by intro e; have := Option.some.inj e; omega)); have HX5 := Lib.hid (HX4.out.grown HL.gr (by rintro b e; cases e; omega)); have HBZ := Lib.hid (HL.below HQ4.out.cb.bel HQ4.out.cb.bel.size (by omega)); clear hz y0 y1 y2 y3 y4 f0 f1 f2 f3 f4 HL
  refine hK.out _ _ (⟨HC5.out.cell 0, HC5.out.cell 1, HC5.out.cell 2, HC5.out.cell 3, HC5.out.cell 4⟩) (fun hHeld2 => ?_)
  clear hK K
  replace hHeld := hHeld2
  clear hHeld2
  try simp only [List.getElem_toArray, List.getElem_cons_zero, List.getElem_cons_succ, Act.put, List.setIfInBounds_toArray, List.set_cons_zero, List.set_cons_succ]
  refine Kept.only (i := 8) (by kernel_rfl) rfl (fun K hK => ?_)
  go_simp
  refine hK.out _ _ hHeld (fun hHeld2 => ?_)
  clear hK K
  clear hHeld2
  refine Kept.done (by kernel_rfl) ?_
  try simp only [List.getElem_toArray, List.getElem_cons_zero, List.getElem_cons_succ, Act.put, List.setIfInBounds_toArray, List.set_cons_zero, List.set_cons_succ]
  clear hHeld
  clear c0 c1 c2 c3 c4
  go_wp2_with fail
  refine bodyPost_ret (v := .tuple #[.agg #[.int .i64 P, .int .i64 M, .slice MA ml mc, .int .i64 (n : Int), .slice DA dl dc], .int .i64 0]) (by simp [results, Try.results45, go_sem, q0, q1, q2, q3, q4]) rfl ?_
  have hsz := HQ3.out.cb.bel.size
  exact ⟨_, _, rfl, HX5.out.mono hsz, HBZ.out⟩
end Go.Proofs.Ytdbpbmehcifjpaa

/- classic.Repetition, ref15.Repetition, classic.Parity, ref15.Parity. Printed by a program (gen_rep3.py). -/
namespace Go.Proofs.Ytdbpbmehcifjpaa
open Go.RowKit
set_option linter.unusedVariables false
set_option maxRecDepth 100000

/-- the box of a field, and behind it the place for a code -/
structure FCQ (w w1 : World) (P M : Int) (mv : Value) : Prop where
  fb : FBox w w1 P M mv
  q : Blk w1 (w.heap.size + 1) 27 [.int .i64 0, .int .i64 0, .slice none 0 0, .int .i64 0, .slice none 0 0]
theorem FCQ.on {w w1 w2 : World} {P M : Int} {mv : Value} (h : FCQ w w1 P M mv) (hb : Below w1.heap.size w1 w2) : FCQ w w2 P M mv := ⟨h.fb.on hb, h.q.belowS hb⟩
theorem FCQ.mk' (w : World) (P M : Int) (mv : Value) : ∃ w1, (w.alloc (.cells #[.int .i64 P, .int .i64 M, mv] 24)).alloc (.cells #[.int .i64 0, .int .i64 0, .slice none 0 0, .int .i64 0, .slice none 0 0] 27) = w1 ∧ FCQ w w1 P M mv := by
  refine ⟨_, rfl, (FBox.mk' w P M mv).on (bl_alloc _ _), ?_⟩
  have := Blk.new (w.alloc (.cells #[.int .i64 P, .int .i64 M, mv] 24)) 27 [.int .i64 0, .int .i64 0, .slice none 0 0, .int .i64 0, .slice none 0 0]
  rw [World.size_alloc] at this
  exact this
theorem SS.one {w : World} {g : Nat} {u0 : Value} {x0 : List Int} (h : Blk w g 22 [u0]) (h0 : SI w u0 x0) : SS w (.slice (some ⟨g, 0, none⟩) 1 1) [x0] := by
  refine ⟨some ⟨g, 0, none⟩, 1, rfl, by simp, by simp, fun k hk => ?_⟩
  match k, hk with
  | 0, _ => exact ⟨⟨g, 0, none⟩, u0, rfl, by have := h.cell 0; simpa [Addr.add] using this, h0⟩
/-- the error of Repetition -/
noncomputable def repE (P M : Int) (Mod : List Int) (n : Int) : Int := if checkF P M Mod ≠ 0 then 1 else if 1 ≤ n ∧ n ≤ 64 then 0 else 4
theorem ones_rows {P M : Int} {Mod : List Int} (hf : FieldP P M Mod) (n : Nat) : Rows (orderF P M) n [List.replicate n 1] := fun k hk => by
  match k, hk with
  | 0, _ =>
    refine ⟨by simp, fun i => ?_⟩
    have h2 := one_lt_order hf.1
    by_cases hi : i < n
    · simp [List.getD, List.getElem?_replicate, hi]; omega
    · simp [List.getD, List.getElem?_replicate, hi]; omega
theorem ones_si (n k : Nat) : I64 ((List.replicate n (1 : Int)).getD k 0) := by
  by_cases hi : k < n
  · simp [List.getD, List.getElem?_replicate, hi]; exact I64.one
  · simp [List.getD, List.getElem?_replicate, hi]; exact I64.zero
theorem repL_set {n k : Nat} (h : k < n) : (repL n k).set k 1 = repL n (k + 1) := by
  unfold repL
  rw [List.set_append_right k 1 (by simp), List.length_replicate, Nat.sub_self]
  obtain ⟨m, hm⟩ : ∃ m, n - k = m + 1 := ⟨n - k - 1, by omega⟩
  rw [hm, List.replicate_succ, List.set_cons_zero, show n - (k + 1) = m by omega, List.replicate_succ' (n := k)]
  simp
/-- the repetition code -/
noncomputable def repC (P M : Int) (Mod : List Int) (n : Nat) : List (List Int) := canonL (refOps P M Mod) [List.replicate n 1] n

set_option maxHeartbeats 8000000 in
theorem cRep_fld (w : World) (P M n : Int) (mv : Value) (Mod : List Int) (hm : SI w mv Mod) (hf : ¬ FieldP P M Mod) :
    Calls Try.prog 21 #[.agg #[.int .i64 P, .int .i64 M, mv], .int .i64 n] w (RetCE w 0 0 [] 0 [] 1) := by
  have HK : Hid (checkF P M Mod = 1) := checkF_bad hf
  obtain ⟨w1, e1, hq⟩ := FCQ.mk' w P M mv
  have HQ := Lib.hid hq; have HE1 := Lib.hid e1; clear hq e1
  go_enter Try.func21, Try.ntmps21
  go_upto_region 1 with fail
  rw [HE1.out]
  clear HE1
  have c0 := HQ.out.fb.c0; have c1 := HQ.out.fb.c1; have c2 := HQ.out.fb.c2
  go_wp2_with fail
  refine (fcheck_any w1 P M mv Mod (hm.below HQ.out.fb.bel (Nat.le_refl _))).mono ?_
  rintro e w2 ⟨rfl, hb2⟩
  have HQ2 := Lib.hid (HQ.out.on hb2)
  clear hb2 c0 c1 c2
  rw [HK.out]
  obtain ⟨d0, d1, d2, d3, d4, f0, f1, f2, f3, f4⟩ := HQ2.out.q.five
  go_wp2_with fail
  obtain ⟨w9, h9, HL⟩ := lay5 (x := .int .i64 0) (y := .int .i64 0) (z := .slice none 0 0) (u := .int .i64 0) (v := .slice none 0 0) HQ2.out.q
  rw [h9]
  have q0 := HL.c0; have q1 := HL.c1; have q2 := HL.c2; have q3 := HL.c3; have q4 := HL.c4
  refine bodyPost_ret (v := .tuple #[.agg #[.int .i64 0, .int .i64 0, .slice none 0 0, .int .i64 0, .slice none 0 0], .int .i64 1]) (by simp [results, Try.results21, go_sem, q0, q1, q2, q3, q4]) rfl ?_
  exact ⟨_, _, rfl, (SI.nilSep _ _).and (SS.nilSep _ _), HL.below HQ2.out.fb.bel HQ2.out.fb.bel.size (by omega)⟩

set_option maxHeartbeats 8000000 in
theorem cRep_len (w : World) (P M n : Int) (mv : Value) (Mod : List Int) (hm : SI w mv Mod) (hf : FieldP P M Mod) (hn : n < 1 ∨ 64 < n) :
    Calls Try.prog 21 #[.agg #[.int .i64 P, .int .i64 M, mv], .int .i64 n] w (RetCE w 0 0 [] 0 [] 4) := by
  have HK : Hid (checkF P M Mod = 0) := checkF_ok hf
  have HNN := Lib.hid hn
  clear hf hn
  obtain ⟨w1, e1, hq⟩ := FCQ.mk' w P M mv
  have HQ := Lib.hid hq; have HE1 := Lib.hid e1; clear hq e1
  go_enter Try.func21, Try.ntmps21
  go_upto_region 1 with fail
  rw [HE1.out]
  clear HE1
  have c0 := HQ.out.fb.c0; have c1 := HQ.out.fb.c1; have c2 := HQ.out.fb.c2
  go_wp2_with fail
  refine (fcheck_any w1 P M mv Mod (hm.below HQ.out.fb.bel (Nat.le_refl _))).mono ?_
  rintro e w2 ⟨rfl, hb2⟩
  have HQ2 := Lib.hid (HQ.out.on hb2)
  clear hb2 c0 c1 c2
  rw [HK.out]
  obtain ⟨d0, d1, d2, d3, d4, f0, f1, f2, f3, f4⟩ := HQ2.out.q.five
  rcases HNN.out with h | h
  case' inr => have h1 : ¬ n < 1 := by omega
  all_goals
    go_wp2_with fail
    obtain ⟨w9, h9, HL⟩ := lay5 (x := .int .i64 0) (y := .int .i64 0) (z := .slice none 0 0) (u := .int .i64 0) (v := .slice none 0 0) HQ2.out.q
    rw [h9]
    have q0 := HL.c0; have q1 := HL.c1; have q2 := HL.c2; have q3 := HL.c3; have q4 := HL.c4
    refine bodyPost_ret (v := .tuple #[.agg #[.int .i64 0, .int .i64 0, .slice none 0 0, .int .i64 0, .slice none 0 0], .int .i64 4]) (by simp [results, Try.results21, go_sem, q0, q1, q2, q3, q4]) rfl ?_
    exact ⟨_, _, rfl, (SI.nilSep _ _).and (SS.nilSep _ _), HL.below HQ2.out.fb.bel HQ2.out.fb.bel.size (by omega)⟩

set_option maxHeartbeats 16000000 in
theorem cRep_ok (w : World) (P M : Int) (n : Nat) (mv : Value) (Mod : List Int) (hm : SI w mv Mod) (hf : FieldP P M Mod) (h1 : 1 ≤ n) (h64 : n ≤ 64) :
    Calls Try.prog 21 #[.agg #[.int .i64 P, .int .i64 M, mv], .int .i64 (n : Int)] w (RetCE w P M Mod n (repC P M Mod n) 0) := by
  have HK : Hid (checkF P M Mod = 0) := checkF_ok hf
  have HNEW := Lib.hid (fun (w' : World) (rv : Value) (hb : Below w.heap.size w w') (hs : SS w' rv [List.replicate n 1]) => cNew_ok w' P M n mv rv Mod _ (hm.below hb (Nat.le_refl _)) hs (matE_mk hf (by omega) (by simp) (ones_rows hf n)) h1 h64)
  have H1 := Lib.hid h1; have H64 := Lib.hid h64
  have hn1 : ¬ (n : Int) < 1 := by omega
  have hn2 : ¬ (64 : Int) < (n : Int) := by omega
  clear hf h1 h64
  unfold RetCE at HNEW
  have e9 : canonL (refOps P M Mod) [List.replicate n 1] n = repC P M Mod n := rfl
  rw [e9] at HNEW
  clear e9
  generalize repC P M Mod n = C at *
  obtain ⟨w1, e1, hq⟩ := FCQ.mk' w P M mv
  have HQ := Lib.hid hq; have HE1 := Lib.hid e1; clear hq e1
  go_enter Try.func21, Try.ntmps21
  go_upto_region 1 with fail
  rw [HE1.out]
  clear HE1
  have c0 := HQ.out.fb.c0; have c1 := HQ.out.fb.c1; have c2 := HQ.out.fb.c2
  go_wp2_with fail
  refine (fcheck_any w1 P M mv Mod (hm.below HQ.out.fb.bel (Nat.le_refl _))).mono ?_
  rintro e w2 ⟨rfl, hb2⟩
  have HQ2 := Lib.hid (HQ.out.on hb2)
  clear hb2 c0 c1 c2
  rw [HK.out]
  go_wp2_with fail
  have h1' := H1.out; have h64' := H64.out
  refine (rep_one _ _ n h1' (by omega) (SI.lit w2 [1] (by simp) (fun k => ones_si 1 k))).mono ?_
  rintro e w3 ⟨u3, rfl, ho3, hb3⟩
  obtain ⟨UA, uc, rfl⟩ := ho3.form'
  rw [List.length_replicate] at ho3 ⊢
  clear h1' h64'
  have hbl := bl_alloc w2 (.cells #[.int .i64 1] 3)
  have HQ3 := Lib.hid (HQ2.out.on (bl_trans hbl hb3))
  have HO3 := Lib.hid (ho3.si (by rw [List.length_replicate]; have := H64.out; omega) (ones_si n))
  clear ho3 hb3 hbl
  have c0 := HQ3.out.fb.c0; have c1 := HQ3.out.fb.c1; have c2 := HQ3.out.fb.c2
  go_wp2_with fail
  obtain ⟨w4, g4, e4, e5, h4, hb4⟩ := mk_box w3 22 [.slice UA n uc]
  rw [e4, e5]
  have HQ4 := Lib.hid (HQ3.out.on hb4)
  have HS4 := Lib.hid (SS.one h4 (HO3.out.below hb4 (Nat.le_refl _)))
  clear e4 e5 h4 hb4 c0 c1 c2
  refine (HNEW.out w4 _ HQ4.out.fb.bel HS4.out).mono ?_
  rintro e w5 ⟨u5, g5, rfl, hx5, hb5⟩
  obtain ⟨⟨MA, mc, rfl, _⟩, ⟨DA, dc, rfl, _⟩⟩ := hx5.out
  have HX5 : Hid (Sep w4.heap.size w5 fun w9 => SI w9 (.slice MA Mod.length mc) Mod ∧ SS w9 (.slice DA C.length dc) C) := hid' hx5
  have HQ5 := Lib.hid (HQ4.out.on hb5)
  clear hx5 hb5
  generalize C.length = dl at *
  generalize Mod.length = ml at *
  obtain ⟨d0, d1, d2, d3, d4, f0, f1, f2, f3, f4⟩ := HQ5.out.q.five
  go_wp2_with fail
  obtain ⟨w9, h9, HL⟩ := lay5 (x := .int .i64 P) (y := .int .i64 M) (z := .slice MA ml mc) (u := .int .i64 (n : Int)) (v := .slice DA dl dc) HQ5.out.q
  rw [h9]
  have q0 := HL.c0; have q1 := HL.c1; have q2 := HL.c2; have q3 := HL.c3; have q4 := HL.c4
  have hql := HQ4.out.q.lt
  refine bodyPost_ret (v := .tuple #[.agg #[.int .i64 P, .int .i64 M, .slice MA ml mc, .int .i64 (n : Int), .slice DA dl dc], .int .i64 0]) (by simp [results, Try.results21, go_sem, q0, q1, q2, q3, q4]) rfl ?_
  exact ⟨_, _, rfl, (HX5.out.grown HL.gr (by rintro b e; cases e; omega)).mono HQ4.out.fb.bel.size, HL.below HQ5.out.fb.bel HQ5.out.fb.bel.size (by omega)⟩

set_option maxHeartbeats 8000000 in
theorem rRep_fld (w : World) (P M n : Int) (mv : Value) (Mod : List Int) (hm : SI w mv Mod) (hf : ¬ FieldP P M Mod) :
    Calls Try.prog 22 #[.agg #[.int .i64 P, .int .i64 M, mv], .int .i64 n] w (RetCE w 0 0 [] 0 [] 1) := by
  have HK : Hid (checkF P M Mod = 1) := checkF_bad hf
  obtain ⟨w1, e1, hq⟩ := FCQ.mk' w P M mv
  have HQ := Lib.hid hq; have HE1 := Lib.hid e1; clear hq e1
  go_enter Try.func22, Try.ntmps22
  go_upto_region 1 with fail
  rw [HE1.out]
  clear HE1
  have c0 := HQ.out.fb.c0; have c1 := HQ.out.fb.c1; have c2 := HQ.out.fb.c2
  go_wp2_with fail
  refine (rCheck_any w1 P M mv Mod (hm.below HQ.out.fb.bel (Nat.le_refl _))).mono ?_
  rintro e w2 ⟨rfl, hb2⟩
  have HQ2 := Lib.hid (HQ.out.on hb2)
  clear hb2 c0 c1 c2
  rw [HK.out]
  obtain ⟨d0, d1, d2, d3, d4, f0, f1, f2, f3, f4⟩ := HQ2.out.q.five
  go_wp2_with fail
  obtain ⟨w9, h9, HL⟩ := lay5 (x := .int .i64 0) (y := .int .i64 0) (z := .slice none 0 0) (u := .int .i64 0) (v := .slice none 0 0) HQ2.out.q
  rw [h9]
  have q0 := HL.c0; have q1 := HL.c1; have q2 := HL.c2; have q3 := HL.c3; have q4 := HL.c4
  refine bodyPost_ret (v := .tuple #[.agg #[.int .i64 0, .int .i64 0, .slice none 0 0, .int .i64 0, .slice none 0 0], .int .i64 1]) (by simp [results, Try.results22, go_sem, q0, q1, q2, q3, q4]) rfl ?_
  exact ⟨_, _, rfl, (SI.nilSep _ _).and (SS.nilSep _ _), HL.below HQ2.out.fb.bel HQ2.out.fb.bel.size (by omega)⟩

set_option maxHeartbeats 8000000 in
theorem rRep_len (w : World) (P M n : Int) (mv : Value) (Mod : List Int) (hm : SI w mv Mod) (hf : FieldP P M Mod) (hn : n < 1 ∨ 64 < n) :
    Calls Try.prog 22 #[.agg #[.int .i64 P, .int .i64 M, mv], .int .i64 n] w (RetCE w 0 0 [] 0 [] 4) := by
  have HK : Hid (checkF P M Mod = 0) := checkF_ok hf
  have HNN := Lib.hid hn
  clear hf hn
  obtain ⟨w1, e1, hq⟩ := FCQ.mk' w P M mv
  have HQ := Lib.hid hq; have HE1 := Lib.hid e1; clear hq e1
  go_enter Try.func22, Try.ntmps22
  go_upto_region 1 with fail
  rw [HE1.out]
  clear HE1
  have c0 := HQ.out.fb.c0; have c1 := HQ.out.fb.c1; have c2 := HQ.out.fb.c2
  go_wp2_with fail
  refine (rCheck_any w1 P M mv Mod (hm.below HQ.out.fb.bel (Nat.le_refl _))).mono ?_
  rintro e w2 ⟨rfl, hb2⟩
  have HQ2 := Lib.hid (HQ.out.on hb2)
  clear hb2 c0 c1 c2
  rw [HK.out]
  obtain ⟨d0, d1, d2, d3, d4, f0, f1, f2, f3, f4⟩ := HQ2.out.q.five
  rcases HNN.out with h | h
  case' inr => have h1 : ¬ n < 1 := by omega
  all_goals
    go_wp2_with fail
    obtain ⟨w9, h9, HL⟩ := lay5 (x := .int .i64 0) (y := .int .i64 0) (z := .slice none 0 0) (u := .int .i64 0) (v := .slice none 0 0) HQ2.out.q
    rw [h9]
    have q0 := HL.c0; have q1 := HL.c1; have q2 := HL.c2; have q3 := HL.c3; have q4 := HL.c4
    refine bodyPost_ret (v := .tuple #[.agg #[.int .i64 0, .int .i64 0, .slice none 0 0, .int .i64 0, .slice none 0 0], .int .i64 4]) (by simp [results, Try.results22, go_sem, q0, q1, q2, q3, q4]) rfl ?_
    exact ⟨_, _, rfl, (SI.nilSep _ _).and (SS.nilSep _ _), HL.below HQ2.out.fb.bel HQ2.out.fb.bel.size (by omega)⟩

set_option maxHeartbeats 16000000 in
theorem rRep_ok (w : World) (P M : Int) (n : Nat) (mv : Value) (Mod : List Int) (hm : SI w mv Mod) (hf : FieldP P M Mod) (h1 : 1 ≤ n) (h64 : n ≤ 64) :
    Calls Try.prog 22 #[.agg #[.int .i64 P, .int .i64 M, mv], .int .i64 (n : Int)] w (RetCE w P M Mod n (repC P M Mod n) 0) := by
  have HK : Hid (checkF P M Mod = 0) := checkF_ok hf
  have HNEW := Lib.hid (fun (w' : World) (rv : Value) (hb : Below w.heap.size w w') (hs : SS w' rv [List.replicate n 1]) => rMake_any w' P M n mv rv Mod _ (hm.below hb (Nat.le_refl _)) hs hf.1 hf.2.2.1 (ones_rows hf n) (by omega) (by simp))
  have H1 := Lib.hid h1; have H64 := Lib.hid h64
  have hn1 : ¬ (n : Int) < 1 := by omega
  have hn2 : ¬ (64 : Int) < (n : Int) := by omega
  clear hf h1
  unfold RetC at HNEW
  have e9 : canonL (refOps P M Mod) [List.replicate n 1] n = repC P M Mod n := rfl
  rw [e9] at HNEW
  clear e9
  generalize repC P M Mod n = C at *
  have hmk := fun (w : World) => run_mkI n (by omega) w
  clear h64
  obtain ⟨w1, e1, hq⟩ := FCQ.mk' w P M mv
  have HQ := Lib.hid hq; have HE1 := Lib.hid e1; clear hq e1
  go_enter Try.func22, Try.ntmps22
  go_upto_region 1 with fail
  rw [HE1.out]
  clear HE1
  have c0 := HQ.out.fb.c0; have c1 := HQ.out.fb.c1; have c2 := HQ.out.fb.c2
  go_wp2_with fail
  refine (rCheck_any w1 P M mv Mod (hm.below HQ.out.fb.bel (Nat.le_refl _))).mono ?_
  rintro e w2 ⟨rfl, hb2⟩
  have HQ2 := Lib.hid (HQ.out.on hb2)
  clear hb2 c0 c1 c2
  rw [HK.out]
  have HR0 := Lib.hid (RI.made w2 n)
  have HB0 := Lib.hid (bl_alloc w2 (.cells (madeCells #[.int .i64 0] n) 3))
  go_wp2_with fail
  clear hmk
  rw [← repL_zero] at HR0
  obtain ⟨g, hg⟩ : ∃ g, g = w2.heap.size := ⟨_, rfl⟩
  have HGE := Lib.hid hg
  rw [← hg] at HR0 ⊢
  clear hg
  go_loopw [7] (fun i wr => ∃ k : Nat, k ≤ n ∧ i = .int .i64 (k : Int) ∧ Hid (RI wr g (repL n k)) ∧ Hid (Below w2.heap.size w2 wr)) (fun i _ => n - (intOf i).toNat)
  case atStart => exact ⟨0, Nat.zero_le _, rfl, HR0, HB0⟩
  case round =>
    clear HR0 HB0
    obtain ⟨k, hk, rfl, HR, HB⟩ := hrel
    by_cases hlt : k < n
    · have u0 := HR.out.cell k (by rw [repL_len hk]; exact hlt)
      generalize hz : (repL n k).getD k 0 = z0 at u0
      clear hz
      have uf := HR.out.frozen k
      have HR2 := Lib.hid (HR.out.set k 1)
      rw [repL_set hlt] at HR2
      have HB2 := Lib.hid (HB.out.setCell (p := ⟨g, k, none⟩) (by rw [HGE.out]; exact Nat.le_refl _) (.int .i64 1))
      go_wp2_with fail
      exact ⟨⟨k + 1, by omega, by push_cast; rfl, HR2, HB2⟩, by simp only [intOf]; omega⟩
    · obtain rfl : n = k := by omega
      rw [repL_full] at HR
      have hn64 := H64.out
      have hsi := HR.out.si (by rw [List.length_replicate]; omega) (ones_si n)
      rw [List.length_replicate] at hsi
      have HO3 := Lib.hid hsi
      have HQ3 := Lib.hid (HQ2.out.on HB.out)
      clear hsi
      have c0 := HQ3.out.fb.c0; have c1 := HQ3.out.fb.c1; have c2 := HQ3.out.fb.c2
      go_wp2_with fail
      obtain ⟨w4, g4, e4, e5, h4, hb4⟩ := mk_box wr 22 [.slice (some ⟨g, 0, none⟩) n n]
      rw [e4, e5]
      have HQ4 := Lib.hid (HQ3.out.on hb4)
      have HS4 := Lib.hid (SS.one h4 (HO3.out.below hb4 (Nat.le_refl _)))
      clear e4 e5 h4 hb4 c0 c1 c2
      refine (HNEW.out w4 _ HQ4.out.fb.bel HS4.out).mono ?_
      rintro e w5 ⟨u5, g5, rfl, hx5, hb5⟩
      obtain ⟨⟨MA, mc, rfl, _⟩, ⟨DA, dc, rfl, _⟩⟩ := hx5.out
      have HX5 : Hid (Sep w4.heap.size w5 fun w9 => SI w9 (.slice MA Mod.length mc) Mod ∧ SS w9 (.slice DA C.length dc) C) := hid' hx5
      have HQ5 := Lib.hid (HQ4.out.on hb5)
      clear hx5 hb5
      generalize C.length = dl at *
      generalize Mod.length = ml at *
      obtain ⟨d0, d1, d2, d3, d4, f0, f1, f2, f3, f4⟩ := HQ5.out.q.five
      go_wp2_with fail
      obtain ⟨w9, h9, HL⟩ := lay5 (x := .int .i64 P) (y := .int .i64 M) (z := .slice MA ml mc) (u := .int .i64 (n : Int)) (v := .slice DA dl dc) HQ5.out.q
      rw [h9]
      have q0 := HL.c0; have q1 := HL.c1; have q2 := HL.c2; have q3 := HL.c3; have q4 := HL.c4
      have hql := HQ4.out.q.lt
      refine bodyPost_ret (v := .tuple #[.agg #[.int .i64 P, .int .i64 M, .slice MA ml mc, .int .i64 (n : Int), .slice DA dl dc], .int .i64 0]) (by simp [results, Try.results22, go_sem, q0, q1, q2, q3, q4]) rfl ?_
      exact ⟨_, _, rfl, (HX5.out.grown HL.gr (by rintro b e; cases e; omega)).mono HQ4.out.fb.bel.size, HL.below HQ5.out.fb.bel HQ5.out.fb.bel.size (by omega)⟩
end Go.Proofs.Ytdbpbmehcifjpaa

/- classic.Parity, ref15.Parity, classic.Hamming, ref15.Hamming: the dual code of what another function gives. Printed by a program (gen_rep4.py). -/
namespace Go.Proofs.Ytdbpbmehcifjpaa
open Go.RowKit
set_option linter.unusedVariables false
set_option maxRecDepth 100000

set_option maxHeartbeats 8000000 in
theorem cPar_no (w : World) (P M n er : Int) (mv : Value) (he : er ≠ 0) (hR : ∀ w', Below w.heap.size w w' → Calls Try.prog 21 #[.agg #[.int .i64 P, .int .i64 M, mv], .int .i64 n] w' (RetCE w' 0 0 [] 0 [] er)) :
    Calls Try.prog 23 #[.agg #[.int .i64 P, .int .i64 M, mv], .int .i64 n] w (RetCE w 0 0 [] 0 [] er) := by
  have hb1 : (er != 0) = true := by rw [bne_iff_ne]; exact he
  obtain ⟨w1, e1, hq⟩ := FCQ.mk' w P M mv
  have HQ := Lib.hid hq; have HE1 := Lib.hid e1; clear hq e1
  go_enter Try.func23, Try.ntmps23
  go_upto_region 1 with fail
  rw [HE1.out]
  clear HE1
  have c0 := HQ.out.fb.c0; have c1 := HQ.out.fb.c1; have c2 := HQ.out.fb.c2
  go_wp2_with fail
  refine (hR w1 HQ.out.fb.bel).mono ?_
  rintro e w2 ⟨u2, g2, rfl, hx2, hb2⟩
  have HQ2 := Lib.hid (HQ.out.on hb2)
  obtain ⟨⟨MA, mc, rfl, _⟩, ⟨GA, gc, rfl, _⟩⟩ := hx2.out
  clear c0 c1 c2
  clear hx2 hb2
  go_upto_region 2 with fail
  obtain ⟨z2, g, e1, e2, hbx, hbz⟩ := mk_box w2 27 [.int .i64 0, .int .i64 0, .slice MA 0 mc, .int .i64 0, .slice GA 0 gc]
  rw [e1, e2]
  have HQ3 := Lib.hid (HQ2.out.on hbz)
  clear e1 e2 hbx hbz
  obtain ⟨d0, d1, d2, d3, d4, f0, f1, f2, f3, f4⟩ := HQ3.out.q.five
  go_wp2_with fail
  obtain ⟨w9, h9, HL⟩ := lay5 (x := .int .i64 0) (y := .int .i64 0) (z := .slice none 0 0) (u := .int .i64 0) (v := .slice none 0 0) HQ3.out.q
  rw [h9]
  have q0 := HL.c0; have q1 := HL.c1; have q2 := HL.c2; have q3 := HL.c3; have q4 := HL.c4
  refine bodyPost_ret (v := .tuple #[.agg #[.int .i64 0, .int .i64 0, .slice none 0 0, .int .i64 0, .slice none 0 0], .int .i64 er]) (by simp [results, Try.results23, go_sem, q0, q1, q2, q3, q4]) rfl ?_
  exact ⟨_, _, rfl, (SI.nilSep _ _).and (SS.nilSep _ _), HL.below HQ3.out.fb.bel HQ3.out.fb.bel.size (by omega)⟩

set_option maxHeartbeats 8000000 in
theorem cPar_ok (w : World) (P M n : Int) (N : Nat) (mv : Value) (Mod : List Int) (C D : List (List Int)) (hR : ∀ w', Below w.heap.size w w' → Calls Try.prog 21 #[.agg #[.int .i64 P, .int .i64 M, mv], .int .i64 n] w' (RetCE w' P M Mod N C 0))
    (hD : ∀ (w' : World) (u1 u2 : Value), SI w' u1 Mod → SS w' u2 C → Calls Try.prog 15 #[.agg #[.int .i64 P, .int .i64 M, u1, .int .i64 (N : Int), u2]] w' (RetCE w' P M Mod N D 0)) :
    Calls Try.prog 23 #[.agg #[.int .i64 P, .int .i64 M, mv], .int .i64 n] w (RetCE w P M Mod N D 0) := by
  have HD := Lib.hid hD; clear hD
  obtain ⟨w1, e1, hq⟩ := FCQ.mk' w P M mv
  have HQ := Lib.hid hq; have HE1 := Lib.hid e1; clear hq e1
  go_enter Try.func23, Try.ntmps23
  go_upto_region 1 with fail
  rw [HE1.out]
  clear HE1
  have c0 := HQ.out.fb.c0; have c1 := HQ.out.fb.c1; have c2 := HQ.out.fb.c2
  go_wp2_with fail
  refine (hR w1 HQ.out.fb.bel).mono ?_
  rintro e w2 ⟨u2, g2, rfl, hx2, hb2⟩
  have HQ2 := Lib.hid (HQ.out.on hb2)
  obtain ⟨⟨MA, mc, rfl, _⟩, ⟨GA, gc, rfl, _⟩⟩ := hx2.out
  clear c0 c1 c2
  have HX2 : Hid (Sep w1.heap.size w2 fun w9 => SI w9 (.slice MA Mod.length mc) Mod ∧ SS w9 (.slice GA C.length gc) C) := hid' hx2
  clear hx2 hb2
  generalize hml : Mod.length = ml at *
  generalize hcl : C.length = cl at *
  clear hml hcl
  go_upto_region 2 with fail
  obtain ⟨z2, g, e1, e2, hbx, hbz⟩ := mk_box w2 27 [.int .i64 P, .int .i64 M, .slice MA ml mc, .int .i64 (N : Int), .slice GA cl gc]
  rw [e1, e2]
  have HX3 := Lib.hid (HX2.out.on hbz).out
  have HQ3 := Lib.hid (HQ2.out.on hbz)
  have c0 : z2.cell? ⟨g, 0, none⟩ = some (.int .i64 P) := hbx.cell 0
  have c1 : z2.cell? ⟨g, 1, none⟩ = some (.int .i64 M) := hbx.cell 1
  have c2 : z2.cell? ⟨g, 2, none⟩ = some (.slice MA ml mc) := hbx.cell 2
  have c3 : z2.cell? ⟨g, 3, none⟩ = some (.int .i64 (N : Int)) := hbx.cell 3
  have c4 : z2.cell? ⟨g, 4, none⟩ = some (.slice GA cl gc) := hbx.cell 4
  clear e1 e2 hbx hbz
  go_wp2_with fail
  refine (HD.out z2 _ _ HX3.out.1 HX3.out.2).mono ?_
  rintro e w5 ⟨u5, g5, rfl, hx5, hb5⟩
  obtain ⟨⟨UA, uc, rfl, _⟩, ⟨DA, dc, rfl, _⟩⟩ := hx5.out
  have HX5 : Hid (Sep z2.heap.size w5 fun w9 => SI w9 (.slice UA Mod.length uc) Mod ∧ SS w9 (.slice DA D.length dc) D) := hid' hx5
  have HQ5 := Lib.hid (HQ3.out.on hb5)
  clear hx5 hb5 c0 c1 c2 c3 c4
  generalize D.length = dl at *
  generalize Mod.length = ml2 at *
  obtain ⟨d0, d1, d2, d3, d4, f0, f1, f2, f3, f4⟩ := HQ5.out.q.five
  go_wp2_with fail
  obtain ⟨w9, h9, HL⟩ := lay5 (x := .int .i64 P) (y := .int .i64 M) (z := .slice UA ml2 uc) (u := .int .i64 (N : Int)) (v := .slice DA dl dc) HQ5.out.q
  rw [h9]
  have q0 := HL.c0; have q1 := HL.c1; have q2 := HL.c2; have q3 := HL.c3; have q4 := HL.c4
  have hql := HQ3.out.q.lt
  refine bodyPost_ret (v := .tuple #[.agg #[.int .i64 P, .int .i64 M, .slice UA ml2 uc, .int .i64 (N : Int), .slice DA dl dc], .int .i64 0]) (by simp [results, Try.results23, go_sem, q0, q1, q2, q3, q4]) rfl ?_
  exact ⟨_, _, rfl, (HX5.out.grown HL.gr (by rintro b e; cases e; omega)).mono HQ3.out.fb.bel.size, HL.below HQ5.out.fb.bel HQ5.out.fb.bel.size (by omega)⟩

set_option maxHeartbeats 8000000 in
theorem rPar15_no (w : World) (P M n er : Int) (mv : Value) (he : er ≠ 0) (hR : ∀ w', Below w.heap.size w w' → Calls Try.prog 22 #[.agg #[.int .i64 P, .int .i64 M, mv], .int .i64 n] w' (RetCE w' 0 0 [] 0 [] er)) :
    Calls Try.prog 24 #[.agg #[.int .i64 P, .int .i64 M, mv], .int .i64 n] w (RetCE w 0 0 [] 0 [] er) := by
  have hb1 : (er != 0) = true := by rw [bne_iff_ne]; exact he
  obtain ⟨w1, e1, hq⟩ := FCQ.mk' w P M mv
  have HQ := Lib.hid hq; have HE1 := Lib.hid e1; clear hq e1
  go_enter Try.func24, Try.ntmps24
  go_upto_region 1 with fail
  rw [HE1.out]
  clear HE1
  have c0 := HQ.out.fb.c0; have c1 := HQ.out.fb.c1; have c2 := HQ.out.fb.c2
  go_wp2_with fail
  refine (hR w1 HQ.out.fb.bel).mono ?_
  rintro e w2 ⟨u2, g2, rfl, hx2, hb2⟩
  have HQ2 := Lib.hid (HQ.out.on hb2)
  obtain ⟨⟨MA, mc, rfl, _⟩, ⟨GA, gc, rfl, _⟩⟩ := hx2.out
  clear c0 c1 c2
  clear hx2 hb2
  go_upto_region 2 with fail
  obtain ⟨z2, g, e1, e2, hbx, hbz⟩ := mk_box w2 27 [.int .i64 0, .int .i64 0, .slice MA 0 mc, .int .i64 0, .slice GA 0 gc]
  rw [e1, e2]
  have HQ3 := Lib.hid (HQ2.out.on hbz)
  clear e1 e2 hbx hbz
  obtain ⟨d0, d1, d2, d3, d4, f0, f1, f2, f3, f4⟩ := HQ3.out.q.five
  go_wp2_with fail
  obtain ⟨w9, h9, HL⟩ := lay5 (x := .int .i64 0) (y := .int .i64 0) (z := .slice none 0 0) (u := .int .i64 0) (v := .slice none 0 0) HQ3.out.q
  rw [h9]
  have q0 := HL.c0; have q1 := HL.c1; have q2 := HL.c2; have q3 := HL.c3; have q4 := HL.c4
  refine bodyPost_ret (v := .tuple #[.agg #[.int .i64 0, .int .i64 0, .slice none 0 0, .int .i64 0, .slice none 0 0], .int .i64 er]) (by simp [results, Try.results24, go_sem, q0, q1, q2, q3, q4]) rfl ?_
  exact ⟨_, _, rfl, (SI.nilSep _ _).and (SS.nilSep _ _), HL.below HQ3.out.fb.bel HQ3.out.fb.bel.size (by omega)⟩

set_option maxHeartbeats 8000000 in
theorem rPar15_ok (w : World) (P M n : Int) (N : Nat) (mv : Value) (Mod : List Int) (C D : List (List Int)) (hR : ∀ w', Below w.heap.size w w' → Calls Try.prog 22 #[.agg #[.int .i64 P, .int .i64 M, mv], .int .i64 n] w' (RetCE w' P M Mod N C 0))
    (hD : ∀ (w' : World) (u1 u2 : Value), SI w' u1 Mod → SS w' u2 C → Calls Try.prog 45 #[.agg #[.int .i64 P, .int .i64 M, u1, .int .i64 (N : Int), u2]] w' (RetCE w' P M Mod N D 0)) :
    Calls Try.prog 24 #[.agg #[.int .i64 P, .int .i64 M, mv], .int .i64 n] w (RetCE w P M Mod N D 0) := by
  have HD := Lib.hid hD; clear hD
  obtain ⟨w1, e1, hq⟩ := FCQ.mk' w P M mv
  have HQ := Lib.hid hq; have HE1 := Lib.hid e1; clear hq e1
  go_enter Try.func24, Try.ntmps24
  go_upto_region 1 with fail
  rw [HE1.out]
  clear HE1
  have c0 := HQ.out.fb.c0; have c1 := HQ.out.fb.c1; have c2 := HQ.out.fb.c2
  go_wp2_with fail
  refine (hR w1 HQ.out.fb.bel).mono ?_
  rintro e w2 ⟨u2, g2, rfl, hx2, hb2⟩
  have HQ2 := Lib.hid (HQ.out.on hb2)
  obtain ⟨⟨MA, mc, rfl, _⟩, ⟨GA, gc, rfl, _⟩⟩ := hx2.out
  clear c0 c1 c2
  have HX2 : Hid (Sep w1.heap.size w2 fun w9 => SI w9 (.slice MA Mod.length mc) Mod ∧ SS w9 (.slice GA C.length gc) C) := hid' hx2
  clear hx2 hb2
  generalize hml : Mod.length = ml at *
  generalize hcl : C.length = cl at *
  clear hml hcl
  go_upto_region 2 with fail
  obtain ⟨z2, g, e1, e2, hbx, hbz⟩ := mk_box w2 27 [.int .i64 P, .int .i64 M, .slice MA ml mc, .int .i64 (N : Int), .slice GA cl gc]
  rw [e1, e2]
  have HX3 := Lib.hid (HX2.out.on hbz).out
  have HQ3 := Lib.hid (HQ2.out.on hbz)
  have c0 : z2.cell? ⟨g, 0, none⟩ = some (.int .i64 P) := hbx.cell 0
  have c1 : z2.cell? ⟨g, 1, none⟩ = some (.int .i64 M) := hbx.cell 1
  have c2 : z2.cell? ⟨g, 2, none⟩ = some (.slice MA ml mc) := hbx.cell 2
  have c3 : z2.cell? ⟨g, 3, none⟩ = some (.int .i64 (N : Int)) := hbx.cell 3
  have c4 : z2.cell? ⟨g, 4, none⟩ = some (.slice GA cl gc) := hbx.cell 4
  clear e1 e2 hbx hbz
  go_wp2_with fail
  refine (HD.out z2 _ _ HX3.out.1 HX3.out.2).mono ?_
  rintro e w5 ⟨u5, g5, rfl, hx5, hb5⟩
  obtain ⟨⟨UA, uc, rfl, _⟩, ⟨DA, dc, rfl, _⟩⟩ := hx5.out
  have HX5 : Hid (Sep z2.heap.size w5 fun w9 => SI w9 (.slice UA Mod.length uc) Mod ∧ SS w9 (.slice DA D.length dc) D) := hid' hx5
  have HQ5 := Lib.hid (HQ3.out.on hb5)
  clear hx5 hb5 c0 c1 c2 c3 c4
  generalize D.length = dl at *
  generalize Mod.length = ml2 at *
  obtain ⟨d0, d1, d2, d3, d4, f0, f1, f2, f3, f4⟩ := HQ5.out.q.five
  go_wp2_with fail
  obtain ⟨w9, h9, HL⟩ := lay5 (x := .int .i64 P) (y := .int .i64 M) (z := .slice UA ml2 uc) (u := .int .i64 (N : Int)) (v := .slice DA dl dc) HQ5.out.q
  rw [h9]
  have q0 := HL.c0; have q1 := HL.c1; have q2 := HL.c2; have q3 := HL.c3; have q4 := HL.c4
  have hql := HQ3.out.q.lt
  refine bodyPost_ret (v := .tuple #[.agg #[.int .i64 P, .int .i64 M, .slice UA ml2 uc, .int .i64 (N : Int), .slice DA dl dc], .int .i64 0]) (by simp [results, Try.results24, go_sem, q0, q1, q2, q3, q4]) rfl ?_
  exact ⟨_, _, rfl, (HX5.out.grown HL.gr (by rintro b e; cases e; omega)).mono HQ3.out.fb.bel.size, HL.below HQ5.out.fb.bel HQ5.out.fb.bel.size (by omega)⟩

set_option maxHeartbeats 8000000 in
theorem cHam_no (w : World) (P M n er : Int) (mv : Value) (he : er ≠ 0) (hR : ∀ w', Below w.heap.size w w' → Calls Try.prog 19 #[.agg #[.int .i64 P, .int .i64 M, mv], .int .i64 n] w' (RetCE w' 0 0 [] 0 [] er)) :
    Calls Try.prog 17 #[.agg #[.int .i64 P, .int .i64 M, mv], .int .i64 n] w (RetCE w 0 0 [] 0 [] er) := by
  have hb1 : (er != 0) = true := by rw [bne_iff_ne]; exact he
  obtain ⟨w1, e1, hq⟩ := FCQ.mk' w P M mv
  have HQ := Lib.hid hq; have HE1 := Lib.hid e1; clear hq e1
  go_enter Try.func17, Try.ntmps17
  go_upto_region 1 with fail
  rw [HE1.out]
  clear HE1
  have c0 := HQ.out.fb.c0; have c1 := HQ.out.fb.c1; have c2 := HQ.out.fb.c2
  go_wp2_with fail
  refine (hR w1 HQ.out.fb.bel).mono ?_
  rintro e w2 ⟨u2, g2, rfl, hx2, hb2⟩
  have HQ2 := Lib.hid (HQ.out.on hb2)
  obtain ⟨⟨MA, mc, rfl, _⟩, ⟨GA, gc, rfl, _⟩⟩ := hx2.out
  clear c0 c1 c2
  clear hx2 hb2
  go_upto_region 2 with fail
  obtain ⟨z2, g, e1, e2, hbx, hbz⟩ := mk_box w2 27 [.int .i64 0, .int .i64 0, .slice MA 0 mc, .int .i64 0, .slice GA 0 gc]
  rw [e1, e2]
  have HQ3 := Lib.hid (HQ2.out.on hbz)
  clear e1 e2 hbx hbz
  obtain ⟨d0, d1, d2, d3, d4, f0, f1, f2, f3, f4⟩ := HQ3.out.q.five
  go_wp2_with fail
  obtain ⟨w9, h9, HL⟩ := lay5 (x := .int .i64 0) (y := .int .i64 0) (z := .slice none 0 0) (u := .int .i64 0) (v := .slice none 0 0) HQ3.out.q
  rw [h9]
  have q0 := HL.c0; have q1 := HL.c1; have q2 := HL.c2; have q3 := HL.c3; have q4 := HL.c4
  refine bodyPost_ret (v := .tuple #[.agg #[.int .i64 0, .int .i64 0, .slice none 0 0, .int .i64 0, .slice none 0 0], .int .i64 er]) (by simp [results, Try.results17, go_sem, q0, q1, q2, q3, q4]) rfl ?_
  exact ⟨_, _, rfl, (SI.nilSep _ _).and (SS.nilSep _ _), HL.below HQ3.out.fb.bel HQ3.out.fb.bel.size (by omega)⟩

set_option maxHeartbeats 8000000 in
theorem cHam_ok (w : World) (P M n : Int) (N : Nat) (mv : Value) (Mod : List Int) (C D : List (List Int)) (hR : ∀ w', Below w.heap.size w w' → Calls Try.prog 19 #[.agg #[.int .i64 P, .int .i64 M, mv], .int .i64 n] w' (RetCE w' P M Mod N C 0))
    (hD : ∀ (w' : World) (u1 u2 : Value), SI w' u1 Mod → SS w' u2 C → Calls Try.prog 15 #[.agg #[.int .i64 P, .int .i64 M, u1, .int .i64 (N : Int), u2]] w' (RetCE w' P M Mod N D 0)) :
    Calls Try.prog 17 #[.agg #[.int .i64 P, .int .i64 M, mv], .int .i64 n] w (RetCE w P M Mod N D 0) := by
  have HD := Lib.hid hD; clear hD
  obtain ⟨w1, e1, hq⟩ := FCQ.mk' w P M mv
  have HQ := Lib.hid hq; have HE1 := Lib.hid e1; clear hq e1
  go_enter Try.func17, Try.ntmps17
  go_upto_region 1 with fail
  rw [HE1.out]
  clear HE1
  have c0 := HQ.out.fb.c0; have c1 := HQ.out.fb.c1; have c2 := HQ.out.fb.c2
  go_wp2_with fail
  refine (hR w1 HQ.out.fb.bel).mono ?_
  rintro e w2 ⟨u2, g2, rfl, hx2, hb2⟩
  have HQ2 := Lib.hid (HQ.out.on hb2)
  obtain ⟨⟨MA, mc, rfl, _⟩, ⟨GA, gc, rfl, _⟩⟩ := hx2.out
  clear c0 c1 c2
  have HX2 : Hid (Sep w1.heap.size w2 fun w9 => SI w9 (.slice MA Mod.length mc) Mod ∧ SS w9 (.slice GA C.length gc) C) := hid' hx2
  clear hx2 hb2
  generalize hml : Mod.length = ml at *
  generalize hcl : C.length = cl at *
  clear hml hcl
  go_upto_region 2 with fail
  obtain ⟨z2, g, e1, e2, hbx, hbz⟩ := mk_box w2 27 [.int .i64 P, .int .i64 M, .slice MA ml mc, .int .i64 (N : Int), .slice GA cl gc]
  rw [e1, e2]
  have HX3 := Lib.hid (HX2.out.on hbz).out
  have HQ3 := Lib.hid (HQ2.out.on hbz)
  have c0 : z2.cell? ⟨g, 0, none⟩ = some (.int .i64 P) := hbx.cell 0
  have c1 : z2.cell? ⟨g, 1, none⟩ = some (.int .i64 M) := hbx.cell 1
  have c2 : z2.cell? ⟨g, 2, none⟩ = some (.slice MA ml mc) := hbx.cell 2
  have c3 : z2.cell? ⟨g, 3, none⟩ = some (.int .i64 (N : Int)) := hbx.cell 3
  have c4 : z2.cell? ⟨g, 4, none⟩ = some (.slice GA cl gc) := hbx.cell 4
  clear e1 e2 hbx hbz
  go_wp2_with fail
  refine (HD.out z2 _ _ HX3.out.1 HX3.out.2).mono ?_
  rintro e w5 ⟨u5, g5, rfl, hx5, hb5⟩
  obtain ⟨⟨UA, uc, rfl, _⟩, ⟨DA, dc, rfl, _⟩⟩ := hx5.out
  have HX5 : Hid (Sep z2.heap.size w5 fun w9 => SI w9 (.slice UA Mod.length uc) Mod ∧ SS w9 (.slice DA D.length dc) D) := hid' hx5
  have HQ5 := Lib.hid (HQ3.out.on hb5)
  clear hx5 hb5 c0 c1 c2 c3 c4
  generalize D.length = dl at *
  generalize Mod.length = ml2 at *
  obtain ⟨d0, d1, d2, d3, d4, f0, f1, f2, f3, f4⟩ := HQ5.out.q.five
  go_wp2_with fail
  obtain ⟨w9, h9, HL⟩ := lay5 (x := .int .i64 P) (y := .int .i64 M) (z := .slice UA ml2 uc) (u := .int .i64 (N : Int)) (v := .slice DA dl dc) HQ5.out.q
  rw [h9]
  have q0 := HL.c0; have q1 := HL.c1; have q2 := HL.c2; have q3 := HL.c3; have q4 := HL.c4
  have hql := HQ3.out.q.lt
  refine bodyPost_ret (v := .tuple #[.agg #[.int .i64 P, .int .i64 M, .slice UA ml2 uc, .int .i64 (N : Int), .slice DA dl dc], .int .i64 0]) (by simp [results, Try.results17, go_sem, q0, q1, q2, q3, q4]) rfl ?_
  exact ⟨_, _, rfl, (HX5.out.grown HL.gr (by rintro b e; cases e; omega)).mono HQ3.out.fb.bel.size, HL.below HQ5.out.fb.bel HQ5.out.fb.bel.size (by omega)⟩

set_option maxHeartbeats 8000000 in
theorem rHam15_no (w : World) (P M n er : Int) (mv : Value) (he : er ≠ 0) (hR : ∀ w', Below w.heap.size w w' → Calls Try.prog 20 #[.agg #[.int .i64 P, .int .i64 M, mv], .int .i64 n] w' (RetCE w' 0 0 [] 0 [] er)) :
    Calls Try.prog 18 #[.agg #[.int .i64 P, .int .i64 M, mv], .int .i64 n] w (RetCE w 0 0 [] 0 [] er) := by
  have hb1 : (er != 0) = true := by rw [bne_iff_ne]; exact he
  obtain ⟨w1, e1, hq⟩ := FCQ.mk' w P M mv
  have HQ := Lib.hid hq; have HE1 := Lib.hid e1; clear hq e1
  go_enter Try.func18, Try.ntmps18
  go_upto_region 1 with fail
  rw [HE1.out]
  clear HE1
  have c0 := HQ.out.fb.c0; have c1 := HQ.out.fb.c1; have c2 := HQ.out.fb.c2
  go_wp2_with fail
  refine (hR w1 HQ.out.fb.bel).mono ?_
  rintro e w2 ⟨u2, g2, rfl, hx2, hb2⟩
  have HQ2 := Lib.hid (HQ.out.on hb2)
  obtain ⟨⟨MA, mc, rfl, _⟩, ⟨GA, gc, rfl, _⟩⟩ := hx2.out
  clear c0 c1 c2
  clear hx2 hb2
  go_upto_region 2 with fail
  obtain ⟨z2, g, e1, e2, hbx, hbz⟩ := mk_box w2 27 [.int .i64 0, .int .i64 0, .slice MA 0 mc, .int .i64 0, .slice GA 0 gc]
  rw [e1, e2]
  have HQ3 := Lib.hid (HQ2.out.on hbz)
  clear e1 e2 hbx hbz
  obtain ⟨d0, d1, d2, d3, d4, f0, f1, f2, f3, f4⟩ := HQ3.out.q.five
  go_wp2_with fail
  obtain ⟨w9, h9, HL⟩ := lay5 (x := .int .i64 0) (y := .int .i64 0) (z := .slice none 0 0) (u := .int .i64 0) (v := .slice none 0 0) HQ3.out.q
  rw [h9]
  have q0 := HL.c0; have q1 := HL.c1; have q2 := HL.c2; have q3 := HL.c3; have q4 := HL.c4
  refine bodyPost_ret (v := .tuple #[.agg #[.int .i64 0, .int .i64 0, .slice none 0 0, .int .i64 0, .slice none 0 0], .int .i64 er]) (by simp [results, Try.results18, go_sem, q0, q1, q2, q3, q4]) rfl ?_
  exact ⟨_, _, rfl, (SI.nilSep _ _).and (SS.nilSep _ _), HL.below HQ3.out.fb.bel HQ3.out.fb.bel.size (by omega)⟩

set_option maxHeartbeats 8000000 in
theorem rHam15_ok (w : World) (P M n : Int) (N : Nat) (mv : Value) (Mod : List Int) (C D : List (List Int)) (hR : ∀ w', Below w.heap.size w w' → Calls Try.prog 20 #[.agg #[.int .i64 P, .int .i64 M, mv], .int .i64 n] w' (RetCE w' P M Mod N C 0))
    (hD : ∀ (w' : World) (u1 u2 : Value), SI w' u1 Mod → SS w' u2 C → Calls Try.prog 45 #[.agg #[.int .i64 P, .int .i64 M, u1, .int .i64 (N : Int), u2]] w' (RetCE w' P M Mod N D 0)) :
    Calls Try.prog 18 #[.agg #[.int .i64 P, .int .i64 M, mv], .int .i64 n] w (RetCE w P M Mod N D 0) := by
  have HD := Lib.hid hD; clear hD
  obtain ⟨w1, e1, hq⟩ := FCQ.mk' w P M mv
  have HQ := Lib.hid hq; have HE1 := Lib.hid e1; clear hq e1
  go_enter Try.func18, Try.ntmps18
  go_upto_region 1 with fail
  rw [HE1.out]
  clear HE1
  have c0 := HQ.out.fb.c0; have c1 := HQ.out.fb.c1; have c2 := HQ.out.fb.c2
  go_wp2_with fail
  refine (hR w1 HQ.out.fb.bel).mono ?_
  rintro e w2 ⟨u2, g2, rfl, hx2, hb2⟩
  have HQ2 := Lib.hid (HQ.out.on hb2)
  obtain ⟨⟨MA, mc, rfl, _⟩, ⟨GA, gc, rfl, _⟩⟩ := hx2.out
  clear c0 c1 c2
  have HX2 : Hid (Sep w1.heap.size w2 fun w9 => SI w9 (.slice MA Mod.length mc) Mod ∧ SS w9 (.slice GA C.length gc) C) := hid' hx2
  clear hx2 hb2
  generalize hml : Mod.length = ml at *
  generalize hcl : C.length = cl at *
  clear hml hcl
  go_upto_region 2 with fail
  obtain ⟨z2, g, e1, e2, hbx, hbz⟩ := mk_box w2 27 [.int .i64 P, .int .i64 M, .slice MA ml mc, .int .i64 (N : Int), .slice GA cl gc]
  rw [e1, e2]
  have HX3 := Lib.hid (HX2.out.on hbz).out
  have HQ3 := Lib.hid (HQ2.out.on hbz)
  have c0 : z2.cell? ⟨g, 0, none⟩ = some (.int .i64 P) := hbx.cell 0
  have c1 : z2.cell? ⟨g, 1, none⟩ = some (.int .i64 M) := hbx.cell 1
  have c2 : z2.cell? ⟨g, 2, none⟩ = some (.slice MA ml mc) := hbx.cell 2
  have c3 : z2.cell? ⟨g, 3, none⟩ = some (.int .i64 (N : Int)) := hbx.cell 3
  have c4 : z2.cell? ⟨g, 4, none⟩ = some (.slice GA cl gc) := hbx.cell 4
  clear e1 e2 hbx hbz
  go_wp2_with fail
  refine (HD.out z2 _ _ HX3.out.1 HX3.out.2).mono ?_
  rintro e w5 ⟨u5, g5, rfl, hx5, hb5⟩
  obtain ⟨⟨UA, uc, rfl, _⟩, ⟨DA, dc, rfl, _⟩⟩ := hx5.out
  have HX5 : Hid (Sep z2.heap.size w5 fun w9 => SI w9 (.slice UA Mod.length uc) Mod ∧ SS w9 (.slice DA D.length dc) D) := hid' hx5
  have HQ5 := Lib.hid (HQ3.out.on hb5)
  clear hx5 hb5 c0 c1 c2 c3 c4
  generalize D.length = dl at *
  generalize Mod.length = ml2 at *
  obtain ⟨d0, d1, d2, d3, d4, f0, f1, f2, f3, f4⟩ := HQ5.out.q.five
  go_wp2_with fail
  obtain ⟨w9, h9, HL⟩ := lay5 (x := .int .i64 P) (y := .int .i64 M) (z := .slice UA ml2 uc) (u := .int .i64 (N : Int)) (v := .slice DA dl dc) HQ5.out.q
  rw [h9]
  have q0 := HL.c0; have q1 := HL.c1; have q2 := HL.c2; have q3 := HL.c3; have q4 := HL.c4
  have hql := HQ3.out.q.lt
  refine bodyPost_ret (v := .tuple #[.agg #[.int .i64 P, .int .i64 M, .slice UA ml2 uc, .int .i64 (N : Int), .slice DA dl dc], .int .i64 0]) (by simp [results, Try.results18, go_sem, q0, q1, q2, q3, q4]) rfl ?_
  exact ⟨_, _, rfl, (HX5.out.grown HL.gr (by rintro b e; cases e; omega)).mono HQ3.out.fb.bel.size, HL.below HQ5.out.fb.bel HQ5.out.fb.bel.size (by omega)⟩
end Go.Proofs.Ytdbpbmehcifjpaa

/- The law ClassicRepetition returns true for every input. Printed by a program (gen_lrep.py). -/
namespace Go.Proofs.Ytdbpbmehcifjpaa
open Go.RowKit
set_option linter.unusedVariables false
set_option maxRecDepth 100000

theorem rep_code {P M : Int} {Mod : List Int} (hf : FieldP P M Mod) {n : Nat} (h1 : 1 ≤ n) (h64 : n ≤ 64) : codeE P M Mod (n : Int) (repC P M Mod n) = 0 := by
  have hC : Cn (refOps P M Mod) (orderF P M) n (repC P M Mod n) := Cn.canon (ref_fld hf) (ones_rows hf n)
  unfold codeE
  rw [if_neg (by rw [checkF_ok hf]; simp), if_pos (by omega)]
  exact hC.spaceE hf (by omega)

set_option maxHeartbeats 32000000 in
theorem lawRep_gen (w : World) (P M n : Int) (mv : Value) (P1 M1 N1 er : Int) (Mod1 : List Int) (C D : List (List Int))
    (hC : ∀ w', Below w.heap.size w w' → Calls Try.prog 21 #[.agg #[.int .i64 P, .int .i64 M, mv], .int .i64 n] w' (RetCE w' P1 M1 Mod1 N1 C er))
    (hR : ∀ w', Below w.heap.size w w' → Calls Try.prog 22 #[.agg #[.int .i64 P, .int .i64 M, mv], .int .i64 n] w' (RetCE w' P1 M1 Mod1 N1 C er))
    (hP : ∀ w', Below w.heap.size w w' → Calls Try.prog 23 #[.agg #[.int .i64 P, .int .i64 M, mv], .int .i64 n] w' (RetCE w' P1 M1 Mod1 N1 D er))
    (hQ : ∀ w', Below w.heap.size w w' → Calls Try.prog 24 #[.agg #[.int .i64 P, .int .i64 M, mv], .int .i64 n] w' (RetCE w' P1 M1 Mod1 N1 D er))
    (hU : er = 0 → ∀ (w' : World) (u1 u2 : Value), SI w' u1 Mod1 → SS w' u2 C → Calls Try.prog 15 #[.agg #[.int .i64 P1, .int .i64 M1, u1, .int .i64 N1, u2]] w' (RetCE w' P1 M1 Mod1 N1 D 0)) :
    Calls Try.prog 6 #[.agg #[.int .i64 P, .int .i64 M, mv], .int .i64 n] w (RetB w true) := by
  have HC := Lib.hid hC; have HR := Lib.hid hR; have HP := Lib.hid hP; have HQ := Lib.hid hQ; have HU := Lib.hid hU
  clear hC hR hP hQ hU
  have HF := Lib.hid (FBox.mk' w P M mv)
  go_enter Try.func6, Try.ntmps6
  go_upto_region 1 with fail
  generalize w.alloc (.cells #[.int .i64 P, .int .i64 M, mv] 24) = w0 at *
  have T0 := Lib.hid HF.out.blk; have HB := Lib.hid HF.out.bel
  clear HF
  have cT00 : w0.cell? ⟨w.heap.size, 0, none⟩ = some (.int .i64 P) := T0.out.cell 0
  have cT01 : w0.cell? ⟨w.heap.size, 1, none⟩ = some (.int .i64 M) := T0.out.cell 1
  have cT02 : w0.cell? ⟨w.heap.size, 2, none⟩ = some (mv) := T0.out.cell 2
  go_wp2_with fail
  refine (HC.out _ HB.out).mono ?_
  rintro e y1 ⟨u, gg, rfl, hx, hb1⟩
  clear cT00 cT01 cT02
  replace T0 := Lib.hid (T0.out.belowS hb1)
  replace HB := Lib.hid (bl_trans HB.out hb1)
  obtain ⟨⟨MA, mA, rfl, _⟩, ⟨GA, cA, rfl, _⟩⟩ := hx.out
  have XMA := Lib.hid hx.out.1; have XGA := Lib.hid hx.out.2; clear hx
  change Hid (SI _ (.slice MA Mod1.length mA) Mod1) at XMA
  change Hid (SS _ (.slice GA C.length cA) C) at XGA
  go_upto_region 2 with fail
  obtain ⟨z1, gA, e1, e2, hbx, hbz⟩ := mk_box y1 27 [.int .i64 P1, .int .i64 M1, .slice MA Mod1.length mA, .int .i64 N1, .slice GA C.length cA]
  rw [e1, e2]
  clear e1
  replace T0 := Lib.hid (T0.out.belowS hbz)
  replace XMA := Lib.hid (XMA.out.below hbz (Nat.le_refl _))
  replace XGA := Lib.hid (XGA.out.below hbz (Nat.le_refl _))
  replace HB := Lib.hid (bl_trans HB.out hbz)
  have TA := Lib.hid hbx; clear hbx hbz e2
  have cT00 : z1.cell? ⟨w.heap.size, 0, none⟩ = some (.int .i64 P) := T0.out.cell 0
  have cT01 : z1.cell? ⟨w.heap.size, 1, none⟩ = some (.int .i64 M) := T0.out.cell 1
  have cT02 : z1.cell? ⟨w.heap.size, 2, none⟩ = some (mv) := T0.out.cell 2
  go_wp2_with fail
  refine (HR.out _ HB.out).mono ?_
  rintro e y2 ⟨u, gg, rfl, hx, hb2⟩
  clear cT00 cT01 cT02
  replace T0 := Lib.hid (T0.out.belowS hb2)
  replace TA := Lib.hid (TA.out.belowS hb2)
  replace XMA := Lib.hid (XMA.out.below hb2 (Nat.le_refl _))
  replace XGA := Lib.hid (XGA.out.below hb2 (Nat.le_refl _))
  replace HB := Lib.hid (bl_trans HB.out hb2)
  obtain ⟨⟨MB, mB, rfl, _⟩, ⟨GB, cB, rfl, _⟩⟩ := hx.out
  have XMB := Lib.hid hx.out.1; have XGB := Lib.hid hx.out.2; clear hx
  change Hid (SI _ (.slice MB Mod1.length mB) Mod1) at XMB
  change Hid (SS _ (.slice GB C.length cB) C) at XGB
  go_upto_region 3 with fail
  obtain ⟨z2, gB, e1, e2, hbx, hbz⟩ := mk_box y2 27 [.int .i64 P1, .int .i64 M1, .slice MB Mod1.length mB, .int .i64 N1, .slice GB C.length cB]
  rw [e1, e2]
  clear e1
  replace T0 := Lib.hid (T0.out.belowS hbz)
  replace TA := Lib.hid (TA.out.belowS hbz)
  replace XMA := Lib.hid (XMA.out.below hbz (Nat.le_refl _))
  replace XGA := Lib.hid (XGA.out.below hbz (Nat.le_refl _))
  replace XMB := Lib.hid (XMB.out.below hbz (Nat.le_refl _))
  replace XGB := Lib.hid (XGB.out.below hbz (Nat.le_refl _))
  replace HB := Lib.hid (bl_trans HB.out hbz)
  have TB := Lib.hid hbx; clear hbx hbz e2
  have cT00 : z2.cell? ⟨w.heap.size, 0, none⟩ = some (.int .i64 P) := T0.out.cell 0
  have cT01 : z2.cell? ⟨w.heap.size, 1, none⟩ = some (.int .i64 M) := T0.out.cell 1
  have cT02 : z2.cell? ⟨w.heap.size, 2, none⟩ = some (mv) := T0.out.cell 2
  go_wp2_with fail
  refine (HP.out _ HB.out).mono ?_
  rintro e y3 ⟨u, gg, rfl, hx, hb3⟩
  clear cT00 cT01 cT02
  replace T0 := Lib.hid (T0.out.belowS hb3)
  replace TA := Lib.hid (TA.out.belowS hb3)
  replace TB := Lib.hid (TB.out.belowS hb3)
  replace XMA := Lib.hid (XMA.out.below hb3 (Nat.le_refl _))
  replace XGA := Lib.hid (XGA.out.below hb3 (Nat.le_refl _))
  replace XMB := Lib.hid (XMB.out.below hb3 (Nat.le_refl _))
  replace XGB := Lib.hid (XGB.out.below hb3 (Nat.le_refl _))
  replace HB := Lib.hid (bl_trans HB.out hb3)
  obtain ⟨⟨MP, mP, rfl, _⟩, ⟨GP, cP, rfl, _⟩⟩ := hx.out
  have XMP := Lib.hid hx.out.1; have XGP := Lib.hid hx.out.2; clear hx
  change Hid (SI _ (.slice MP Mod1.length mP) Mod1) at XMP
  change Hid (SS _ (.slice GP D.length cP) D) at XGP
  go_upto_region 4 with fail
  obtain ⟨z3, gP, e1, e2, hbx, hbz⟩ := mk_box y3 27 [.int .i64 P1, .int .i64 M1, .slice MP Mod1.length mP, .int .i64 N1, .slice GP D.length cP]
  rw [e1, e2]
  clear e1
  replace T0 := Lib.hid (T0.out.belowS hbz)
  replace TA := Lib.hid (TA.out.belowS hbz)
  replace TB := Lib.hid (TB.out.belowS hbz)
  replace XMA := Lib.hid (XMA.out.below hbz (Nat.le_refl _))
  replace XGA := Lib.hid (XGA.out.below hbz (Nat.le_refl _))
  replace XMB := Lib.hid (XMB.out.below hbz (Nat.le_refl _))
  replace XGB := Lib.hid (XGB.out.below hbz (Nat.le_refl _))
  replace XMP := Lib.hid (XMP.out.below hbz (Nat.le_refl _))
  replace XGP := Lib.hid (XGP.out.below hbz (Nat.le_refl _))
  replace HB := Lib.hid (bl_trans HB.out hbz)
  have TP := Lib.hid hbx; clear hbx hbz e2
  have cT00 : z3.cell? ⟨w.heap.size, 0, none⟩ = some (.int .i64 P) := T0.out.cell 0
  have cT01 : z3.cell? ⟨w.heap.size, 1, none⟩ = some (.int .i64 M) := T0.out.cell 1
  have cT02 : z3.cell? ⟨w.heap.size, 2, none⟩ = some (mv) := T0.out.cell 2
  go_wp2_with fail
  refine (HQ.out _ HB.out).mono ?_
  rintro e y4 ⟨u, gg, rfl, hx, hb4⟩
  clear cT00 cT01 cT02
  replace T0 := Lib.hid (T0.out.belowS hb4)
  replace TA := Lib.hid (TA.out.belowS hb4)
  replace TB := Lib.hid (TB.out.belowS hb4)
  replace TP := Lib.hid (TP.out.belowS hb4)
  replace XMA := Lib.hid (XMA.out.below hb4 (Nat.le_refl _))
  replace XGA := Lib.hid (XGA.out.below hb4 (Nat.le_refl _))
  replace XMB := Lib.hid (XMB.out.below hb4 (Nat.le_refl _))
  replace XGB := Lib.hid (XGB.out.below hb4 (Nat.le_refl _))
  replace XMP := Lib.hid (XMP.out.below hb4 (Nat.le_refl _))
  replace XGP := Lib.hid (XGP.out.below hb4 (Nat.le_refl _))
  replace HB := Lib.hid (bl_trans HB.out hb4)
  obtain ⟨⟨MQ, mQ, rfl, _⟩, ⟨GQ, cQ, rfl, _⟩⟩ := hx.out
  have XMQ := Lib.hid hx.out.1; have XGQ := Lib.hid hx.out.2; clear hx
  change Hid (SI _ (.slice MQ Mod1.length mQ) Mod1) at XMQ
  change Hid (SS _ (.slice GQ D.length cQ) D) at XGQ
  go_upto_region 5 with fail
  obtain ⟨z4, gQ, e1, e2, hbx, hbz⟩ := mk_box y4 27 [.int .i64 P1, .int .i64 M1, .slice MQ Mod1.length mQ, .int .i64 N1, .slice GQ D.length cQ]
  rw [e1, e2]
  clear e1
  replace T0 := Lib.hid (T0.out.belowS hbz)
  replace TA := Lib.hid (TA.out.belowS hbz)
  replace TB := Lib.hid (TB.out.belowS hbz)
  replace TP := Lib.hid (TP.out.belowS hbz)
  replace XMA := Lib.hid (XMA.out.below hbz (Nat.le_refl _))
  replace XGA := Lib.hid (XGA.out.below hbz (Nat.le_refl _))
  replace XMB := Lib.hid (XMB.out.below hbz (Nat.le_refl _))
  replace XGB := Lib.hid (XGB.out.below hbz (Nat.le_refl _))
  replace XMP := Lib.hid (XMP.out.below hbz (Nat.le_refl _))
  replace XGP := Lib.hid (XGP.out.below hbz (Nat.le_refl _))
  replace XMQ := Lib.hid (XMQ.out.below hbz (Nat.le_refl _))
  replace XGQ := Lib.hid (XGQ.out.below hbz (Nat.le_refl _))
  replace HB := Lib.hid (bl_trans HB.out hbz)
  have TQ := Lib.hid hbx; clear hbx hbz e2
  have cTA0 : z4.cell? ⟨gA, 0, none⟩ = some (.int .i64 P1) := TA.out.cell 0
  have cTA1 : z4.cell? ⟨gA, 1, none⟩ = some (.int .i64 M1) := TA.out.cell 1
  have cTA2 : z4.cell? ⟨gA, 2, none⟩ = some (.slice MA Mod1.length mA) := TA.out.cell 2
  have cTA3 : z4.cell? ⟨gA, 3, none⟩ = some (.int .i64 N1) := TA.out.cell 3
  have cTA4 : z4.cell? ⟨gA, 4, none⟩ = some (.slice GA C.length cA) := TA.out.cell 4
  have cTB0 : z4.cell? ⟨gB, 0, none⟩ = some (.int .i64 P1) := TB.out.cell 0
  have cTB1 : z4.cell? ⟨gB, 1, none⟩ = some (.int .i64 M1) := TB.out.cell 1
  have cTB2 : z4.cell? ⟨gB, 2, none⟩ = some (.slice MB Mod1.length mB) := TB.out.cell 2
  have cTB3 : z4.cell? ⟨gB, 3, none⟩ = some (.int .i64 N1) := TB.out.cell 3
  have cTB4 : z4.cell? ⟨gB, 4, none⟩ = some (.slice GB C.length cB) := TB.out.cell 4
  go_wp2_with fail
  refine (same15_true _ P1 M1 N1 er _ _ _ _ Mod1 C XMA.out XMB.out XGA.out XGB.out).mono ?_
  rintro e y5 ⟨rfl, hb5⟩
  clear cTA0 cTA1 cTA2 cTA3 cTA4 cTB0 cTB1 cTB2 cTB3 cTB4
  replace T0 := Lib.hid (T0.out.belowS hb5)
  replace TA := Lib.hid (TA.out.belowS hb5)
  replace TB := Lib.hid (TB.out.belowS hb5)
  replace TP := Lib.hid (TP.out.belowS hb5)
  replace TQ := Lib.hid (TQ.out.belowS hb5)
  replace XMA := Lib.hid (XMA.out.below hb5 (Nat.le_refl _))
  replace XGA := Lib.hid (XGA.out.below hb5 (Nat.le_refl _))
  replace XMB := Lib.hid (XMB.out.below hb5 (Nat.le_refl _))
  replace XGB := Lib.hid (XGB.out.below hb5 (Nat.le_refl _))
  replace XMP := Lib.hid (XMP.out.below hb5 (Nat.le_refl _))
  replace XGP := Lib.hid (XGP.out.below hb5 (Nat.le_refl _))
  replace XMQ := Lib.hid (XMQ.out.below hb5 (Nat.le_refl _))
  replace XGQ := Lib.hid (XGQ.out.below hb5 (Nat.le_refl _))
  replace HB := Lib.hid (bl_trans HB.out hb5)
  have cTP0 : y5.cell? ⟨gP, 0, none⟩ = some (.int .i64 P1) := TP.out.cell 0
  have cTP1 : y5.cell? ⟨gP, 1, none⟩ = some (.int .i64 M1) := TP.out.cell 1
  have cTP2 : y5.cell? ⟨gP, 2, none⟩ = some (.slice MP Mod1.length mP) := TP.out.cell 2
  have cTP3 : y5.cell? ⟨gP, 3, none⟩ = some (.int .i64 N1) := TP.out.cell 3
  have cTP4 : y5.cell? ⟨gP, 4, none⟩ = some (.slice GP D.length cP) := TP.out.cell 4
  have cTQ0 : y5.cell? ⟨gQ, 0, none⟩ = some (.int .i64 P1) := TQ.out.cell 0
  have cTQ1 : y5.cell? ⟨gQ, 1, none⟩ = some (.int .i64 M1) := TQ.out.cell 1
  have cTQ2 : y5.cell? ⟨gQ, 2, none⟩ = some (.slice MQ Mod1.length mQ) := TQ.out.cell 2
  have cTQ3 : y5.cell? ⟨gQ, 3, none⟩ = some (.int .i64 N1) := TQ.out.cell 3
  have cTQ4 : y5.cell? ⟨gQ, 4, none⟩ = some (.slice GQ D.length cQ) := TQ.out.cell 4
  go_wp2_with fail
  refine (same15_true _ P1 M1 N1 er _ _ _ _ Mod1 D XMP.out XMQ.out XGP.out XGQ.out).mono ?_
  rintro e y6 ⟨rfl, hb6⟩
  clear cTP0 cTP1 cTP2 cTP3 cTP4 cTQ0 cTQ1 cTQ2 cTQ3 cTQ4
  replace T0 := Lib.hid (T0.out.belowS hb6)
  replace TA := Lib.hid (TA.out.belowS hb6)
  replace TB := Lib.hid (TB.out.belowS hb6)
  replace TP := Lib.hid (TP.out.belowS hb6)
  replace TQ := Lib.hid (TQ.out.belowS hb6)
  replace XMA := Lib.hid (XMA.out.below hb6 (Nat.le_refl _))
  replace XGA := Lib.hid (XGA.out.below hb6 (Nat.le_refl _))
  replace XMB := Lib.hid (XMB.out.below hb6 (Nat.le_refl _))
  replace XGB := Lib.hid (XGB.out.below hb6 (Nat.le_refl _))
  replace XMP := Lib.hid (XMP.out.below hb6 (Nat.le_refl _))
  replace XGP := Lib.hid (XGP.out.below hb6 (Nat.le_refl _))
  replace XMQ := Lib.hid (XMQ.out.below hb6 (Nat.le_refl _))
  replace XGQ := Lib.hid (XGQ.out.below hb6 (Nat.le_refl _))
  replace HB := Lib.hid (bl_trans HB.out hb6)
  cases hz : (er == 0)
  · go_wp2_with fail
    refine (alive15_any _).mono ?_
    rintro e y9 ⟨rfl, hb9⟩
    go_wp2_with fail
    go_ret
    exact ⟨rfl, bl_trans HB.out hb9⟩
  have hz1 : er = 0 := by rwa [beq_iff_eq] at hz
  subst hz1
  replace HU := Lib.hid (HU.out rfl)
  have cTA0 : y6.cell? ⟨gA, 0, none⟩ = some (.int .i64 P1) := TA.out.cell 0
  have cTA1 : y6.cell? ⟨gA, 1, none⟩ = some (.int .i64 M1) := TA.out.cell 1
  have cTA2 : y6.cell? ⟨gA, 2, none⟩ = some (.slice MA Mod1.length mA) := TA.out.cell 2
  have cTA3 : y6.cell? ⟨gA, 3, none⟩ = some (.int .i64 N1) := TA.out.cell 3
  have cTA4 : y6.cell? ⟨gA, 4, none⟩ = some (.slice GA C.length cA) := TA.out.cell 4
  go_wp2_with fail
  refine (HU.out _ _ _ XMA.out XGA.out).mono ?_
  rintro e y7 ⟨u, gg, rfl, hx, hb7⟩
  clear cTA0 cTA1 cTA2 cTA3 cTA4
  replace T0 := Lib.hid (T0.out.belowS hb7)
  replace TA := Lib.hid (TA.out.belowS hb7)
  replace TB := Lib.hid (TB.out.belowS hb7)
  replace TP := Lib.hid (TP.out.belowS hb7)
  replace TQ := Lib.hid (TQ.out.belowS hb7)
  replace XMA := Lib.hid (XMA.out.below hb7 (Nat.le_refl _))
  replace XGA := Lib.hid (XGA.out.below hb7 (Nat.le_refl _))
  replace XMB := Lib.hid (XMB.out.below hb7 (Nat.le_refl _))
  replace XGB := Lib.hid (XGB.out.below hb7 (Nat.le_refl _))
  replace XMP := Lib.hid (XMP.out.below hb7 (Nat.le_refl _))
  replace XGP := Lib.hid (XGP.out.below hb7 (Nat.le_refl _))
  replace XMQ := Lib.hid (XMQ.out.below hb7 (Nat.le_refl _))
  replace XGQ := Lib.hid (XGQ.out.below hb7 (Nat.le_refl _))
  replace HB := Lib.hid (bl_trans HB.out hb7)
  obtain ⟨⟨MD, mD, rfl, _⟩, ⟨GD, cD, rfl, _⟩⟩ := hx.out
  have XMD := Lib.hid hx.out.1; have XGD := Lib.hid hx.out.2; clear hx
  change Hid (SI _ (.slice MD Mod1.length mD) Mod1) at XMD
  change Hid (SS _ (.slice GD D.length cD) D) at XGD
  go_upto_region 9 with fail
  obtain ⟨z7, gD, e1, e2, hbx, hbz⟩ := mk_box y7 27 [.int .i64 P1, .int .i64 M1, .slice MD Mod1.length mD, .int .i64 N1, .slice GD D.length cD]
  rw [e1, e2]
  clear e1
  replace T0 := Lib.hid (T0.out.belowS hbz)
  replace TA := Lib.hid (TA.out.belowS hbz)
  replace TB := Lib.hid (TB.out.belowS hbz)
  replace TP := Lib.hid (TP.out.belowS hbz)
  replace TQ := Lib.hid (TQ.out.belowS hbz)
  replace XMA := Lib.hid (XMA.out.below hbz (Nat.le_refl _))
  replace XGA := Lib.hid (XGA.out.below hbz (Nat.le_refl _))
  replace XMB := Lib.hid (XMB.out.below hbz (Nat.le_refl _))
  replace XGB := Lib.hid (XGB.out.below hbz (Nat.le_refl _))
  replace XMP := Lib.hid (XMP.out.below hbz (Nat.le_refl _))
  replace XGP := Lib.hid (XGP.out.below hbz (Nat.le_refl _))
  replace XMQ := Lib.hid (XMQ.out.below hbz (Nat.le_refl _))
  replace XGQ := Lib.hid (XGQ.out.below hbz (Nat.le_refl _))
  replace XMD := Lib.hid (XMD.out.below hbz (Nat.le_refl _))
  replace XGD := Lib.hid (XGD.out.below hbz (Nat.le_refl _))
  replace HB := Lib.hid (bl_trans HB.out hbz)
  have TD := Lib.hid hbx; clear hbx hbz e2
  have cTP0 : z7.cell? ⟨gP, 0, none⟩ = some (.int .i64 P1) := TP.out.cell 0
  have cTP1 : z7.cell? ⟨gP, 1, none⟩ = some (.int .i64 M1) := TP.out.cell 1
  have cTP2 : z7.cell? ⟨gP, 2, none⟩ = some (.slice MP Mod1.length mP) := TP.out.cell 2
  have cTP3 : z7.cell? ⟨gP, 3, none⟩ = some (.int .i64 N1) := TP.out.cell 3
  have cTP4 : z7.cell? ⟨gP, 4, none⟩ = some (.slice GP D.length cP) := TP.out.cell 4
  have cTD0 : z7.cell? ⟨gD, 0, none⟩ = some (.int .i64 P1) := TD.out.cell 0
  have cTD1 : z7.cell? ⟨gD, 1, none⟩ = some (.int .i64 M1) := TD.out.cell 1
  have cTD2 : z7.cell? ⟨gD, 2, none⟩ = some (.slice MD Mod1.length mD) := TD.out.cell 2
  have cTD3 : z7.cell? ⟨gD, 3, none⟩ = some (.int .i64 N1) := TD.out.cell 3
  have cTD4 : z7.cell? ⟨gD, 4, none⟩ = some (.slice GD D.length cD) := TD.out.cell 4
  go_wp2_with fail
  refine (rCSame_true _ P1 M1 N1 _ _ _ _ Mod1 D XMD.out XMP.out XGD.out XGP.out).mono ?_
  rintro e y8 ⟨rfl, hb8⟩
  clear cTP0 cTP1 cTP2 cTP3 cTP4 cTD0 cTD1 cTD2 cTD3 cTD4
  replace T0 := Lib.hid (T0.out.belowS hb8)
  replace TA := Lib.hid (TA.out.belowS hb8)
  replace TB := Lib.hid (TB.out.belowS hb8)
  replace TP := Lib.hid (TP.out.belowS hb8)
  replace TQ := Lib.hid (TQ.out.belowS hb8)
  replace TD := Lib.hid (TD.out.belowS hb8)
  replace XMA := Lib.hid (XMA.out.below hb8 (Nat.le_refl _))
  replace XGA := Lib.hid (XGA.out.below hb8 (Nat.le_refl _))
  replace XMB := Lib.hid (XMB.out.below hb8 (Nat.le_refl _))
  replace XGB := Lib.hid (XGB.out.below hb8 (Nat.le_refl _))
  replace XMP := Lib.hid (XMP.out.below hb8 (Nat.le_refl _))
  replace XGP := Lib.hid (XGP.out.below hb8 (Nat.le_refl _))
  replace XMQ := Lib.hid (XMQ.out.below hb8 (Nat.le_refl _))
  replace XGQ := Lib.hid (XGQ.out.below hb8 (Nat.le_refl _))
  replace XMD := Lib.hid (XMD.out.below hb8 (Nat.le_refl _))
  replace XGD := Lib.hid (XGD.out.below hb8 (Nat.le_refl _))
  replace HB := Lib.hid (bl_trans HB.out hb8)
  go_wp2_with fail
  refine (alive15_any _).mono ?_
  rintro e y9 ⟨rfl, hb9⟩
  go_wp2_with fail
  go_ret
  exact ⟨rfl, bl_trans HB.out hb9⟩

theorem lawRep (w : World) {fv : Value} (hf : ∃ P M mv Mod, fv = .agg #[.int .i64 P, .int .i64 M, mv] ∧ SI w mv Mod) (n : Int) (hn : I64 n) : Calls Try.prog 6 #[fv, .int .i64 n] w (RetB w true) := by
  obtain ⟨P, M, mv, Mod, rfl, hm⟩ := hf
  have hmb : ∀ {w'}, Below w.heap.size w w' → SI w' mv Mod := fun hb => hm.below hb (Nat.le_refl _)
  by_cases hF : FieldP P M Mod
  · by_cases hl : n < 1 ∨ 64 < n
    · exact lawRep_gen w P M n mv 0 0 0 4 [] [] [] (fun w' hb => cRep_len w' P M n mv Mod (hmb hb) hF hl) (fun w' hb => rRep_len w' P M n mv Mod (hmb hb) hF hl)
        (fun w' hb => cPar_no w' P M n 4 mv (by decide) fun w2 hb2 => cRep_len w2 P M n mv Mod (hmb (bl_trans hb hb2)) hF hl)
        (fun w' hb => rPar15_no w' P M n 4 mv (by decide) fun w2 hb2 => rRep_len w2 P M n mv Mod (hmb (bl_trans hb hb2)) hF hl) (fun h => absurd h (by decide))
    · obtain ⟨k, rfl⟩ : ∃ k : Nat, n = (k : Int) := ⟨n.toNat, by omega⟩
      have h1 : 1 ≤ k := by omega
      have h64 : k ≤ 64 := by omega
      have hc := rep_code hF h1 h64
      have hD := fun (w' : World) (u1 u2 : Value) (h1 : SI w' u1 Mod) (h2 : SS w' u2 (repC P M Mod k)) => cDual_ok w' P M k u1 u2 Mod _ h1 h2 hc
      have hE := fun (w' : World) (u1 u2 : Value) (h1 : SI w' u1 Mod) (h2 : SS w' u2 (repC P M Mod k)) => rCDual_ok w' P M k u1 u2 Mod _ h1 h2 hc
      exact lawRep_gen w P M k mv P M k 0 Mod (repC P M Mod k) (nullL (refOps P M Mod) (repC P M Mod k) k) (fun w' hb => cRep_ok w' P M k mv Mod (hmb hb) hF h1 h64) (fun w' hb => rRep_ok w' P M k mv Mod (hmb hb) hF h1 h64)
        (fun w' hb => cPar_ok w' P M k k mv Mod _ _ (fun w2 hb2 => cRep_ok w2 P M k mv Mod (hmb (bl_trans hb hb2)) hF h1 h64) hD)
        (fun w' hb => rPar15_ok w' P M k k mv Mod _ _ (fun w2 hb2 => rRep_ok w2 P M k mv Mod (hmb (bl_trans hb hb2)) hF h1 h64) hE) (fun _ => hD)
  · exact lawRep_gen w P M n mv 0 0 0 1 [] [] [] (fun w' hb => cRep_fld w' P M n mv Mod (hmb hb) hF) (fun w' hb => rRep_fld w' P M n mv Mod (hmb hb) hF)
      (fun w' hb => cPar_no w' P M n 1 mv (by decide) fun w2 hb2 => cRep_fld w2 P M n mv Mod (hmb (bl_trans hb hb2)) hF)
      (fun w' hb => rPar15_no w' P M n 1 mv (by decide) fun w2 hb2 => rRep_fld w2 P M n mv Mod (hmb (bl_trans hb hb2)) hF) (fun h => absurd h (by decide))
end Go.Proofs.Ytdbpbmehcifjpaa

/- ClassicRepetition: the law returns true for every input; each argument reads behind the call as it read before. The walk is in LRep. -/
namespace Go.Proofs.Ytdbpbmehcifjpaa.classicRepetition
open Go.ChangeShapes Go.WideShapes Go.ChangeAt Go.RowKit
set_option linter.unusedVariables false

set_option maxRecDepth 100000 in
theorem lifted (os : Os) (started : os.Started) (H : Type) (enc : TypeId × Value → H) :
    ReturnsInHanded {} Try.checked os 6 .any (Rows.classicRepetitionSpec.pre6 enc Try.prog Try.f6 Rows.classicRepetitionRow.domain false) (Rows.classicRepetitionSpec.post enc Try.prog Try.f6 false true false false) := by
  refine returnsInHanded_of_change_sized (C := Try.checked) own started (by kernel_rfl) Try.func6
    (ChangeSpec.witness6 (enc := enc) (C := Try.checked) false ⟨#[], #[.agg #[.int .i64 0, .int .i64 0, .slice none 0 0], .int .i64 0], []⟩ 8 (by kernel_rfl) (by kernel_rfl) (by kernel_rfl) (by kernel_rfl)) ?_
  intro W base args ds gs before hval0 hW _ hsz0 _
  have hsz : (DataW.weightsEach Try.prog (Try.f6.params.toList ++ Rows.classicRepetitionSpec.plain.varTypes Try.prog) (ds ++ gs)).all (· ≤ reachBytes) = true := hsz0
  have hval : ∀ (j : Nat) t v, Try.f6.params[j]? = some t → args[j]? = some v → Value.okWide Try.prog W .any base t v := hval0
  have hW' := hW
  obtain ⟨p, q, hA0, hV, rfl, hfz, hnd⟩ := hW
  have hA : DataW.TrodAll enc Try.prog W 0 (fun _ => true) true Try.f6.params.toList args.toList ds p := hA0
  rw [Try.params6] at hA hval hsz
  obtain ⟨v0, vs0, d0, ds0, p0, q0, hargs, rfl, rfl, h0, r0'⟩ := trodAll_cons hA
  obtain ⟨v1, vs1, d1, ds1, p1, q1, rfl, rfl, rfl, h1, r1'⟩ := trodAll_cons r0'
  obtain ⟨rfl, rfl, rfl⟩ := trodAll_nil r1'
  obtain rfl : args = #[v0, v1] := by cases args; simp_all
  obtain ⟨rfl, rfl⟩ := trodVars_none hV
  have k0 := h0
  have r0 := open_Field h0 (hval 0 24 v0 rfl rfl) (weigh hsz 0 rfl rfl)
  obtain ⟨a1, rfl, rfl, rfl, w1⟩ := open_int Try.underlying3 (hval 1 3 v1 rfl rfl) h1
  clear hA0 hval0
  refine (lawRep W r0 a1 (I64.of_wf w1)).mono fun e W' ⟨he, bel⟩ => ?_
  subst he
  exact ⟨_, rfl, _, _, _, [], _, [], hW', trodAll_mk1 (shut_bool Try.underlying4 _), (trodAll_cons_mk (Below.trod laidOut (by kernel_rfl) (of_decide_eq_true (by kernel_rfl)) k0 bel (lt_of_trod k0)) (trodAll_cons_mk (shut_int Try.underlying3 w1) trodAll_mk0)), rfl, bel.frame _, fun h => by cases h⟩

theorem proved : Rows.ClassicRepetitionSaid :=
  OpenClaim.holds_of_wide 6 Try.f6 rfl rfl rfl rfl rfl rfl rfl ⟨rfl, rfl, rfl, rfl, rfl⟩ rfl rfl rfl rfl rfl (by kernel_rfl) Try.func6 (by kernel_rfl)
    (of_decide_eq_true (by kernel_rfl)) (by unfold Func.isWrapper; first | (rw [if_pos (by decide +kernel)]; kernel_rfl) | (rw [if_neg (by decide +kernel)]; exact ⟨rfl, rfl⟩))
    (fun os started H enc _ => lifted os started H enc)
#print axioms proved
end Go.Proofs.Ytdbpbmehcifjpaa.classicRepetition
