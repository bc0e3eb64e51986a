/- Texts of a claim, merged: words, plain facts and walks that the last of its texts uses. -/
import Derived.Test.YtkamgnihpcafdaaQ2
import Derived.Test.YtkamgnihpcafdaaQ8
import Derived.Test.YtkamgnihpcafdaaRows
import Derived.ProofKit
import Derived.OpenShut
import Derived.ShutString
import Derived.ChangeOld
import Derived.Below
import Derived.SizedLaws
import Derived.Deep.Slices
import Derived.Lib.SmallJoins
set_option linter.unusedSimpArgs false
set_option linter.unusedVariables false

/- From the reading of an argument to the words of the walks. -/
namespace Go.Proofs.Ytkamgnihpcafdaa
set_option maxRecDepth 100000
open Go.ChangeShapes Go.WideShapes Go.ChangeAt Go.RowKit

theorem own : ownKnob Try.prog.godebug = none := by kernel_rfl
theorem laidOut : laidOutB Try.prog = true := by kernel_rfl
theorem cellsInt : Try.prog.cellsOf 3 = 1 := by kernel_rfl
theorem bytesInt : Try.prog.bytesOf 3 = 8 := by kernel_rfl

section
variable {H : Type} {enc : TypeId × Value → H} {W : World} {base : Nat} {held : Bool}

theorem open_cells_SI {fuel : Nat} {cs : List Value} {d : DataW H} {p : List MemPlace} (h : DataW.trod enc Try.prog W base (fun _ => true) held fuel 22 cs = some (d, p))
    (hw : ∀ n ∈ d.weights Try.prog 22, n ≤ reachBytes) : ∃ v xs, cs = [v] ∧ SI W v xs := by
  rcases open_ints Try.underlying22 Try.underlying3 cellsInt h with ⟨rfl, _⟩ | ⟨a, len, cap, zs, rfl, _, hl, hm, hz, hx, hcell, hwz⟩
  · exact ⟨_, [], rfl, SI.none_ W⟩
  · simp only [if_true] at hz
    simp only [Prod.mk.injEq] at hx
    obtain ⟨rfl, _⟩ := hx
    have hr : cap * 8 ≤ reachBytes := by
      have := hw ((((lits (H := H) .i64 (zs.take len)).length) + ((lits (H := H) .i64 (zs.drop len)).length)) * Try.prog.bytesOf 3) (by simp [DataW.weights, Try.underlying22])
      rw [bytesInt] at this
      simp only [lits, List.length_map, List.length_take, List.length_drop] at this
      omega
    simp only [reachBytes] at hr
    have e : (zs.take len).length = len := by rw [List.length_take]; omega
    refine ⟨.slice (some a) len cap, zs.take len, rfl, some a, cap, by rw [e], by omega, by omega, fun k hk => ⟨a, rfl, ?_⟩, fun k => ?_⟩
    · rw [e] at hk
      rw [hcell k (by omega)]
      simp [List.getD, List.getElem?_take, hk]
    · by_cases hk : k < (zs.take len).length
      · rw [List.getD_eq_getElem?_getD, List.getElem?_eq_getElem hk, Option.getD_some]
        exact I64.of_wf (hwz _ (List.mem_of_mem_take (List.getElem_mem hk)))
      · rw [List.getD_eq_getElem?_getD, List.getElem?_eq_none (by omega)]
        exact I64.zero

/-- an argument of the type []int -/
theorem open_SI {v : Value} {d : DataW H} {p : List MemPlace} {bs : Nat} (h : DataW.Trod enc Try.prog W base (fun _ => true) held 22 v d p) (hok : Value.okWide Try.prog W .any bs 22 v)
    (hw : ∀ n ∈ d.weights Try.prog 22, n ≤ reachBytes) : ∃ xs, SI W v xs := by
  obtain ⟨a, len, cap, rfl⟩ := okWide_slice Try.underlying22 hok
  obtain ⟨fuel, hf⟩ := h
  obtain ⟨v', xs, hcs, hs⟩ := open_cells_SI hf hw
  have e : Value.slice a len cap = v' := (List.cons.inj hcs).1
  rw [← e] at hs
  exact ⟨xs, hs⟩
theorem bytesInts : Try.prog.bytesOf 22 = 24 := by kernel_rfl
theorem cellsInts : Try.prog.cellsOf 22 = 1 := by kernel_rfl
theorem mem_weightsAll {e : TypeId} {d : DataW H} {n : Nat} : ∀ {l : List (DataW H)}, d ∈ l → n ∈ d.weights Try.prog e → n ∈ DataW.weightsAll Try.prog e l
  | x :: r, hd, hn => by
    simp only [DataW.weightsAll, List.mem_append]
    rcases List.mem_cons.1 hd with rfl | hd
    · exact .inl hn
    · exact .inr (mem_weightsAll hd hn)
theorem open_cells_SS {fuel : Nat} {cs : List Value} {d : DataW H} {p : List MemPlace} (h : DataW.trod enc Try.prog W base (fun _ => true) held fuel 23 cs = some (d, p))
    (hw : ∀ n ∈ d.weights Try.prog 23, n ≤ reachBytes) : ∃ v xss, cs = [v] ∧ SS W v xss := by
  rcases Go.Deep.open_slice1 Try.underlying23 cellsInts h with ⟨rfl, _⟩ | ⟨a, len, cap, m, n, V, D, Pl, rfl, _, hl, hm, hmm, hx, hr⟩
  · exact ⟨_, [], rfl, SS.none_ W⟩
  · simp only [if_true] at hmm
    have hmm2 := hmm.symm
    subst hmm2
    simp only [Prod.mk.injEq] at hx
    obtain ⟨rfl, _⟩ := hx
    have hreach : cap * 24 ≤ reachBytes := by
      have := hw ((((List.range len).map D).length + ((List.range (cap - len)).map fun j => D (len + j)).length) * Try.prog.bytesOf 22) (by simp [DataW.weights, Try.underlying23])
      rw [bytesInts] at this
      simp only [List.length_map, List.length_range] at this
      rw [show len + (cap - len) = cap by omega] at this
      exact this
    simp only [reachBytes] at hreach
    have each : ∀ k, k < len → ∃ xs, SI W (V k) xs := fun k hk => by
      obtain ⟨v', xs, hcs, hs⟩ := open_cells_SI (hr k (by omega)).2 (fun n hn => hw n (by
        simp only [DataW.weights, Try.underlying23, List.mem_cons, List.mem_append]
        exact .inr (.inl (mem_weightsAll (List.mem_map.2 ⟨k, List.mem_range.2 hk, rfl⟩) hn))))
      have e : V k = v' := (List.cons.inj hcs).1
      rw [← e] at hs
      exact ⟨xs, hs⟩
    obtain ⟨X, hX⟩ := Go.Deep.choose_lt each
    have e : ((List.range len).map X).length = len := by simp
    refine ⟨_, (List.range len).map X, rfl, some a, cap, by rw [e], by omega, by omega, fun k hk => ?_⟩
    rw [e] at hk
    refine ⟨a, V k, rfl, (hr k (by omega)).1, ?_⟩
    have e2 : ((List.range len).map X).getD k [] = X k := by simp [List.getD, hk]
    rw [e2]
    exact hX k hk
/-- an argument of the type [][]int -/
theorem open_SS {v : Value} {d : DataW H} {p : List MemPlace} {bs : Nat} (h : DataW.Trod enc Try.prog W base (fun _ => true) held 23 v d p) (hok : Value.okWide Try.prog W .any bs 23 v)
    (hw : ∀ n ∈ d.weights Try.prog 23, n ≤ reachBytes) : ∃ xss, SS W v xss := by
  obtain ⟨a, len, cap, rfl⟩ := okWide_slice Try.underlying23 hok
  obtain ⟨fuel, hf⟩ := h
  obtain ⟨v', xss, hcs, hs⟩ := open_cells_SS hf hw
  have e : Value.slice a len cap = v' := (List.cons.inj hcs).1
  rw [← e] at hs
  exact ⟨xss, hs⟩
theorem weigh {ts : List TypeId} {ds : List (DataW H)} (h : (DataW.weightsEach Try.prog ts ds).all (· ≤ reachBytes) = true) (j : Nat) {t : TypeId} {d : DataW H} (ht : ts[j]? = some t) (hd : ds[j]? = some d) : ∀ n ∈ d.weights Try.prog t, n ≤ reachBytes := fun n hn => by
  have := List.all_eq_true.1 h n (DataW.weights_mem_each ht hd n hn)
  simpa using this
theorem lt_of_trod {t : TypeId} {v : Value} {d : DataW H} {p : List MemPlace} (h : DataW.Trod enc Try.prog W base (fun _ => true) held t v d p) : ∀ x ∈ p, x.block < W.heap.size := by
  obtain ⟨m, hm⟩ := h
  exact DataW.trod_lt m _ _ _ hm
end
end Go.Proofs.Ytkamgnihpcafdaa

/- From the reading of a 'Sent' argument to the words of the walks. -/
namespace Go.Proofs.Ytkamgnihpcafdaa
set_option maxRecDepth 100000
open Go.ChangeShapes Go.WideShapes Go.ChangeAt Go.RowKit

section
variable {H : Type} {enc : TypeId × Value → H} {W : World} {base : Nat} {held : Bool}
/-- an int among the fields of a struct -/
theorem open_cell_int {fuel : Nat} {v : Value} {x : DataW H × List MemPlace} (h : DataW.trod enc Try.prog W base (fun _ => true) held fuel 3 [v] = some x) : ∃ n, v = .int .i64 n ∧ I64 n := by
  obtain ⟨n, h1, _, h2⟩ := DataW.trod_int Try.underlying3 h
  exact ⟨n, (List.cons.inj h1).1, I64.of_wf h2⟩
theorem open_cell_SI {fuel : Nat} {v : Value} {x : DataW H × List MemPlace} (h : DataW.trod enc Try.prog W base (fun _ => true) held fuel 22 [v] = some x) (hw : ∀ n ∈ x.1.weights Try.prog 22, n ≤ reachBytes) : ∃ xs, SI W v xs := by
  obtain ⟨v', xs, hcs, hs⟩ := open_cells_SI (d := x.1) (p := x.2) h hw
  have e : v = v' := (List.cons.inj hcs).1
  rw [← e] at hs
  exact ⟨xs, hs⟩
theorem open_Sent {v : Value} {d : DataW H} {p : List MemPlace} {bs : Nat} (h : DataW.Trod enc Try.prog W base (fun _ => true) held 43 v d p) (hok : Value.okWide Try.prog W .any bs 43 v)
    (hw : ∀ n ∈ d.weights Try.prog 43, n ≤ reachBytes) : ∃ R M vm vy msg y, v = .agg #[.int .i64 R, .int .i64 M, vm, vy] ∧ SI W vm msg ∧ SI W vy y := by
  obtain ⟨v0, v1, v2, v3, y0, y1, y2, y3, n, rfl, rfl, rfl, h0, h1, h2, h3⟩ := Go.Joins.open_agg4 Try.underlying43 (by kernel_rfl) (by kernel_rfl) hok h
  obtain ⟨R, rfl, _⟩ := open_cell_int h0
  obtain ⟨M, rfl, _⟩ := open_cell_int h1
  have hwe : ∀ k, k ∈ DataW.weightsEach Try.prog [3, 3, 22, 22] [y0.1, y1.1, y2.1, y3.1] → k ≤ reachBytes := fun k hk => hw k (by
    rw [DataW.weights, Try.underlying43]; exact hk)
  simp only [DataW.weightsEach, List.mem_append] at hwe
  obtain ⟨msg, hs2⟩ := open_cell_SI h2 fun k hk => hwe k (by simp [hk])
  obtain ⟨y, hs3⟩ := open_cell_SI h3 fun k hk => hwe k (by simp [hk])
  exact ⟨R, M, v2, v3, msg, y, rfl, hs2, hs3⟩
end
end Go.Proofs.Ytkamgnihpcafdaa

/- The law MajorityCorrects returns true for every input: the word is encoded. -/
namespace Go.Proofs.Ytkamgnihpcafdaa
open Go.RowKit
set_option linter.unusedVariables false
set_option maxRecDepth 100000

set_option maxHeartbeats 8000000 in
theorem lawCorr_yes (w : World) (r m N : Nat) (vm vy : Value) (y msg : List Int) (gen : List (List Int)) (hy : SI w vy y) (hmsg : SI w vm msg) (hr : r ≤ m) (hm : m ≤ 6) (hN : 2 ^ ((m : Int).toNat) = N) (hg : canonL (refOps 2 1 []) (rmRows r m) N = gen) (ha : argsE r m y = 0) (hw : ((suppL 2 y).length : Int) ≤ radF r m)
    (he : encE 2 1 [] N gen msg = 0) (wd z : List Int) (hwd : encL 2 1 [] N gen msg = wd) (hz : addW 2 1 wd y = z) (hz0 : addWE wd y = 0) (h1 : reedE r m z = 0) (h2 : reedW r m z = wd) (h3 : reedX r m z = suppL 2 y) :
    Calls Try.prog 7 #[.agg #[.int .i64 (r : Int), .int .i64 (m : Int), vm, vy]] w (RetB w true) := by
  have HA := Lib.hid ha; clear ha
  have HN := Lib.hid hN; clear hN
  have HGE := Lib.hid hg; clear hg
  have HY := Lib.hid hy; clear hy
  have HMS := Lib.hid hmsg; clear hmsg
  have HEE := Lib.hid he; clear he
  have HWD := Lib.hid hwd; have HZ := Lib.hid hz; have HZ0 := Lib.hid hz0; have H1 := Lib.hid h1; have H2 := Lib.hid h2; have H3 := Lib.hid h3
  clear hwd hz hz0 h1 h2 h3
  have hwb : decide (radF r m < ((suppL 2 y).length : Int)) = false := decide_eq_false (by omega)
  clear hw
  have HF := Lib.hid (SBox.mk' w r m vm vy)
  go_enter Try.func7, Try.ntmps7
  go_wp2_with fail
  refine (alive43_any _).mono ?_
  rintro e w1 ⟨rfl, hb1⟩
  have HF1 := Lib.hid (HF.out.on hb1); clear hb1
  obtain ⟨c0, c1, c2, c3⟩ := HF1.out.c
  go_wp2_with fail
  refine Kept.start (S := fun w' => w'.cell? ⟨w.heap.size, 0, none⟩ = some (.int .i64 (r : Int)) ∧ w'.cell? ⟨w.heap.size, 1, none⟩ = some (.int .i64 (m : Int)) ∧ w'.cell? ⟨w.heap.size, 2, none⟩ = some vm ∧ w'.cell? ⟨w.heap.size, 3, none⟩ = some vy) (by kernel_rfl) (⟨c0, c1, c2, c3⟩) (fun hHeld => ?_)
  change Kept _ _ _ _ 20 _ _ _
  refine Kept.take (i := 0) (v := ?_) rfl (by kernel_rfl) (by kernel_rfl) (by kernel_rfl) (fun _ _ _ h => h) (Or.inl ⟨by kernel_rfl, ?_⟩) hHeld ?_
  rotate_left
  · intro w' hSw; (try dsimp only at hSw); first | (go_simp; done) | (go_simp; with_reducible rfl)
  try simp only [List.getElem_toArray, List.getElem_cons_zero, List.getElem_cons_succ, Act.put, List.setIfInBounds_toArray, List.set_cons_zero, List.set_cons_succ]
  refine Kept.take (i := 1) (v := ?_) rfl (by kernel_rfl) (by kernel_rfl) (by kernel_rfl) (fun _ _ _ h => h) (Or.inl ⟨by kernel_rfl, ?_⟩) hHeld ?_
  rotate_left
  · intro w' hSw; (try dsimp only at hSw); first | (go_simp; done) | (go_simp; with_reducible rfl)
  try simp only [List.getElem_toArray, List.getElem_cons_zero, List.getElem_cons_succ, Act.put, List.setIfInBounds_toArray, List.set_cons_zero, List.set_cons_succ]
  refine Kept.take (i := 2) (v := ?_) rfl (by kernel_rfl) (by kernel_rfl) (by kernel_rfl) (fun _ _ _ h => h) (Or.inl ⟨by kernel_rfl, ?_⟩) hHeld ?_
  rotate_left
  · intro w' hSw; (try dsimp only at hSw); first | (go_simp; done) | (go_simp; with_reducible rfl)
  try simp only [List.getElem_toArray, List.getElem_cons_zero, List.getElem_cons_succ, Act.put, List.setIfInBounds_toArray, List.set_cons_zero, List.set_cons_succ]
  refine Kept.take (i := 3) (v := ?_) rfl (by kernel_rfl) (by kernel_rfl) (by kernel_rfl) (fun _ _ _ h => h) (Or.inl ⟨by kernel_rfl, ?_⟩) hHeld ?_
  rotate_left
  · intro w' hSw; (try dsimp only at hSw); first | (go_simp; done) | (go_simp; with_reducible rfl)
  try simp only [List.getElem_toArray, List.getElem_cons_zero, List.getElem_cons_succ, Act.put, List.setIfInBounds_toArray, List.set_cons_zero, List.set_cons_succ]
  refine Kept.take (i := 4) (v := ?_) rfl (by kernel_rfl) (by kernel_rfl) (by kernel_rfl) (fun _ _ _ h => h) (Or.inl ⟨by kernel_rfl, ?_⟩) hHeld ?_
  rotate_left
  · intro w' hSw; (try dsimp only at hSw); first | (go_simp; done) | (go_simp; with_reducible rfl)
  try simp only [List.getElem_toArray, List.getElem_cons_zero, List.getElem_cons_succ, Act.put, List.setIfInBounds_toArray, List.set_cons_zero, List.set_cons_succ]
  refine Kept.take (i := 5) (v := ?_) rfl (by kernel_rfl) (by kernel_rfl) (by kernel_rfl) (fun _ _ _ h => h) (Or.inl ⟨by kernel_rfl, ?_⟩) hHeld ?_
  rotate_left
  · intro w' hSw; (try dsimp only at hSw); first | (go_simp; done) | (go_simp; with_reducible rfl)
  try simp only [List.getElem_toArray, List.getElem_cons_zero, List.getElem_cons_succ, Act.put, List.setIfInBounds_toArray, List.set_cons_zero, List.set_cons_succ]
  refine Kept.only (i := 6) (by kernel_rfl) rfl (fun K hK => ?_)
  go_simp
  refine (reedArgs_any _ r m vy y (HY.out.below HF1.out.drew.bel (Nat.le_refl _))).mono ?_; rintro e w2 ⟨rfl, hb2⟩; rw [HA.out]; have HF2 := Lib.hid (HF1.out.drew.on hb2); clear hb2; obtain ⟨d0, d1, d2, d3⟩ := HF2.out.c
  refine hK.out _ _ (⟨d0, d1, d2, d3⟩) (fun hHeld2 => ?_)
  clear hK K
  replace hHeld := hHeld2
  clear hHeld2
  try simp only [List.getElem_toArray, List.getElem_cons_zero, List.getElem_cons_succ, Act.put, List.setIfInBounds_toArray, List.set_cons_zero, List.set_cons_succ]
  refine Kept.take (i := 7) (v := ?_) rfl (by kernel_rfl) (by kernel_rfl) (by kernel_rfl) (fun _ _ _ h => h) (Or.inl ⟨by kernel_rfl, ?_⟩) hHeld ?_
  rotate_left
  · intro w' hSw; (try dsimp only at hSw); first | (go_simp; done) | (go_simp; with_reducible rfl)
  try simp only [List.getElem_toArray, List.getElem_cons_zero, List.getElem_cons_succ, Act.put, List.setIfInBounds_toArray, List.set_cons_zero, List.set_cons_succ]
  refine Kept.take (i := 8) (v := ?_) rfl (by kernel_rfl) (by kernel_rfl) (by kernel_rfl) (fun _ _ _ h => h) (Or.inl ⟨by kernel_rfl, ?_⟩) hHeld ?_
  rotate_left
  · intro w' hSw; (try dsimp only at hSw); first | (go_simp; done) | (go_simp; with_reducible rfl)
  try simp only [List.getElem_toArray, List.getElem_cons_zero, List.getElem_cons_succ, Act.put, List.setIfInBounds_toArray, List.set_cons_zero, List.set_cons_succ]
  refine Kept.take (i := 10) (v := ?_) rfl (by kernel_rfl) (by kernel_rfl) (by kernel_rfl) (fun _ _ _ h => h) (Or.inl ⟨by kernel_rfl, ?_⟩) hHeld ?_
  rotate_left
  · intro w' hSw; (try dsimp only at hSw); first | (go_simp; done) | (go_simp; with_reducible rfl)
  try simp only [List.getElem_toArray, List.getElem_cons_zero, List.getElem_cons_succ, Act.put, List.setIfInBounds_toArray, List.set_cons_zero, List.set_cons_succ]
  refine Kept.take (i := 11) (v := ?_) rfl (by kernel_rfl) (by kernel_rfl) (by kernel_rfl) (fun _ _ _ h => h) (Or.inl ⟨by kernel_rfl, ?_⟩) hHeld ?_
  rotate_left
  · intro w' hSw; (try dsimp only at hSw); first | (go_simp; done) | (go_simp; with_reducible rfl)
  try simp only [List.getElem_toArray, List.getElem_cons_zero, List.getElem_cons_succ, Act.put, List.setIfInBounds_toArray, List.set_cons_zero, List.set_cons_succ]
  refine Kept.take (i := 13) (v := ?_) rfl (by kernel_rfl) (by kernel_rfl) (by kernel_rfl) (fun _ _ _ h => h) (Or.inl ⟨by kernel_rfl, ?_⟩) hHeld ?_
  rotate_left
  · intro w' hSw; (try dsimp only at hSw); first | (go_simp; done) | (go_simp; with_reducible rfl)
  try simp only [List.getElem_toArray, List.getElem_cons_zero, List.getElem_cons_succ, Act.put, List.setIfInBounds_toArray, List.set_cons_zero, List.set_cons_succ]
  refine Kept.take (i := 14) (v := ?_) rfl (by kernel_rfl) (by kernel_rfl) (by kernel_rfl) (fun _ _ _ h => h) (Or.inl ⟨by kernel_rfl, ?_⟩) hHeld ?_
  rotate_left
  · intro w' hSw; (try dsimp only at hSw); first | (go_simp; done) | (go_simp; with_reducible rfl)
  try simp only [List.getElem_toArray, List.getElem_cons_zero, List.getElem_cons_succ, Act.put, List.setIfInBounds_toArray, List.set_cons_zero, List.set_cons_succ]
  refine Kept.take (i := 15) (v := ?_) rfl (by kernel_rfl) (by kernel_rfl) (by kernel_rfl) (fun _ _ _ h => h) (Or.inl ⟨by kernel_rfl, ?_⟩) hHeld ?_
  rotate_left
  · intro w' hSw; (try dsimp only at hSw); first | (go_simp; done) | (go_simp; with_reducible rfl)
  try simp only [List.getElem_toArray, List.getElem_cons_zero, List.getElem_cons_succ, Act.put, List.setIfInBounds_toArray, List.set_cons_zero, List.set_cons_succ]
  refine Kept.take (i := 16) (v := ?_) rfl (by kernel_rfl) (by kernel_rfl) (by kernel_rfl) (fun _ _ _ h => h) (Or.inl ⟨by kernel_rfl, ?_⟩) hHeld ?_
  rotate_left
  · intro w' hSw; (try dsimp only at hSw); first | (go_simp; done) | (go_simp; with_reducible rfl)
  try simp only [List.getElem_toArray, List.getElem_cons_zero, List.getElem_cons_succ, Act.put, List.setIfInBounds_toArray, List.set_cons_zero, List.set_cons_succ]
  refine Kept.only (i := 9) (by kernel_rfl) rfl (fun K hK => ?_)
  go_simp
  refine (two_any _).mono ?_; rintro e w3 ⟨rfl, hb3⟩; have HF3 := Lib.hid (HF2.out.on hb3); clear hb3; obtain ⟨e0, e1, e2, e3⟩ := HF3.out.c
  refine hK.out _ _ (⟨e0, e1, e2, e3⟩) (fun hHeld2 => ?_)
  clear hK K
  replace hHeld := hHeld2
  clear hHeld2
  try simp only [List.getElem_toArray, List.getElem_cons_zero, List.getElem_cons_succ, Act.put, List.setIfInBounds_toArray, List.set_cons_zero, List.set_cons_succ]
  refine Kept.only (i := 12) (by kernel_rfl) rfl (fun K hK => ?_)
  go_simp
  refine (rWeight_any _ 2 1 _ vy y (HY.out.below HF3.out.bel (Nat.le_refl _))).mono ?_; rintro e w4 ⟨rfl, hb4⟩; rw [order21]; have HF4 := Lib.hid (HF3.out.on hb4); clear hb4; obtain ⟨g0, g1, g2, g3⟩ := HF4.out.c
  refine hK.out _ _ (⟨g0, g1, g2, g3⟩) (fun hHeld2 => ?_)
  clear hK K
  replace hHeld := hHeld2
  clear hHeld2
  try simp only [List.getElem_toArray, List.getElem_cons_zero, List.getElem_cons_succ, Act.put, List.setIfInBounds_toArray, List.set_cons_zero, List.set_cons_succ]
  refine Kept.only (i := 17) (by kernel_rfl) rfl (fun K hK => ?_)
  go_simp
  refine (radius_any _ r m hm hr).mono ?_; rintro e w5 ⟨rfl, rfl⟩
  refine hK.out _ _ (⟨g0, g1, g2, g3⟩) (fun hHeld2 => ?_)
  clear hK K
  replace hHeld := hHeld2
  clear hHeld2
  try simp only [List.getElem_toArray, List.getElem_cons_zero, List.getElem_cons_succ, Act.put, List.setIfInBounds_toArray, List.set_cons_zero, List.set_cons_succ]
  refine Kept.take (i := 18) (v := ?_) rfl (by kernel_rfl) (by kernel_rfl) (by kernel_rfl) (fun _ _ _ h => h) (Or.inl ⟨by kernel_rfl, ?_⟩) hHeld ?_
  rotate_left
  · intro w' hSw; (try dsimp only at hSw); first | (go_simp; done) | (go_simp; with_reducible rfl)
  try simp only [List.getElem_toArray, List.getElem_cons_zero, List.getElem_cons_succ, Act.put, List.setIfInBounds_toArray, List.set_cons_zero, List.set_cons_succ]
  refine Kept.only (i := 19) (by kernel_rfl) rfl (fun K hK => ?_)
  go_simp
  refine hK.out _ _ hHeld (fun hHeld2 => ?_)
  clear hK K
  clear hHeld2
  refine Kept.done (by kernel_rfl) ?_
  try simp only [List.getElem_toArray, List.getElem_cons_zero, List.getElem_cons_succ, Act.put, List.setIfInBounds_toArray, List.set_cons_zero, List.set_cons_succ]
  clear hHeld
  clear c0 c1 c2 c3 d0 d1 d2 d3 e0 e1 e2 e3
  go_wp2_with fail
  refine (rRM_ok _ r m N HN.out (by omega) (by omega) (by omega) (by omega)).mono ?_
  rintro e w6 ⟨u6, k6, rfl, hs6, hb6⟩
  obtain ⟨⟨MA, mc, rfl, _⟩, ⟨GA, gc, rfl, _⟩⟩ := hs6.out
  have HS6 := Lib.hid hs6.out
  have HF6 := Lib.hid (HF4.out.on hb6)
  clear hb6 hs6 g0 g1 g2 g3
  rw [HGE.out] at HS6 ⊢
  obtain ⟨k, hk⟩ : ∃ k, k = gen.length := ⟨_, rfl⟩
  rw [← hk] at HS6 ⊢
  have HK := Lib.hid hk; clear hk
  obtain ⟨c0, c1, c2, c3⟩ := HF6.out.c
  have hlt6 := HF6.out.blk.lt
  have hne6 : ¬ w.heap.size = w6.heap.size := by omega
  go_wp2_with fail
  clear hlt6 hne6
  have HCB0 := Lib.hid (CBox.mk' w6 2 1 (.slice MA 0 mc) (N : Int) (.slice GA k gc))
  have HF7 := Lib.hid (HF6.out.on HCB0.out.bel)
  obtain ⟨w7, hw7⟩ : ∃ w7, w7 = w6.alloc (.cells #[.int .i64 2, .int .i64 1, .slice MA 0 mc, .int .i64 (N : Int), .slice GA k gc] 51) := ⟨_, rfl⟩
  rw [← hw7] at HCB0 HF7 ⊢
  clear hw7 c0 c1 c2 c3
  obtain ⟨c0, c1, c2, c3⟩ := HF7.out.c
  have q0 := HCB0.out.c0; have q1 := HCB0.out.c1; have q2 := HCB0.out.c2; have q3 := HCB0.out.c3; have q4 := HCB0.out.c4
  go_wp2_with fail
  refine (rEncode_any _ 2 1 N _ _ vm [] msg gen (HS6.out.1.below HCB0.out.bel (Nat.le_refl _)) (HS6.out.2.below HCB0.out.bel (Nat.le_refl _)) (HMS.out.below HF7.out.bel (Nat.le_refl _))).mono ?_
  rintro e w8 ⟨u8, rfl, hs8, hn8, hb8⟩
  rw [HEE.out]
  rw [HWD.out] at hs8
  obtain ⟨WA, wc, rfl, hs8⟩ := hs8
  have HS8 := Lib.hid hs8.si
  have HF8 := Lib.hid (HF7.out.on hb8)
  have HCB8 := Lib.hid (HCB0.out.on hb8)
  have HS68 := Lib.hid (HS6.out.1.below HCB8.out.bel (Nat.le_refl _))
  clear hb8 hs8 hn8 c0 c1 c2 c3 q0 q1 q2 q3 q4
  obtain ⟨k9, hk9⟩ : ∃ k9, k9 = wd.length := ⟨_, rfl⟩
  rw [← hk9] at HS8 ⊢
  have HK9 := Lib.hid hk9; clear hk9
  obtain ⟨c0, c1, c2, c3⟩ := HF8.out.c
  have q0 := HCB8.out.c0; have q1 := HCB8.out.c1; have q2 := HCB8.out.c2; have q3 := HCB8.out.c3; have q4 := HCB8.out.c4
  go_wp2_with fail
  refine (rAddW_any _ 2 1 _ _ vy wd y HS8.out (HY.out.below HF8.out.bel (Nat.le_refl _)) (by rw [order21]; decide)).mono ?_
  rintro e w9 ⟨u9, rfl, hs9, _, hb9⟩
  rw [HZ.out] at hs9
  rw [HZ0.out]
  have HS9 := Lib.hid hs9
  have HF9 := Lib.hid (HF8.out.on hb9)
  have HCB9 := Lib.hid (HCB8.out.on hb9)
  have HS89 := Lib.hid (HS8.out.below hb9 (Nat.le_refl _))
  clear hb9 hs9 c0 c1 c2 c3 q0 q1 q2 q3 q4
  obtain ⟨c0, c1, c2, c3⟩ := HF9.out.c
  have q0 := HCB9.out.c0; have q1 := HCB9.out.c1; have q2 := HCB9.out.c2; have q3 := HCB9.out.c3; have q4 := HCB9.out.c4
  go_wp2_with fail
  refine (reed_any _ r m _ z HS9.out).mono ?_
  rintro e w10 ⟨u1, u2, rfl, hs1, hs2, _, _, hb10⟩
  rw [H2.out] at hs1
  rw [H3.out] at hs2
  rw [H1.out]
  obtain ⟨A1, c1', rfl, hs1⟩ := hs1
  obtain ⟨A2, c2', rfl, hs2⟩ := hs2
  have HT1 := Lib.hid hs1.si; have HT2 := Lib.hid hs2.si
  have HF10 := Lib.hid (HF9.out.on hb10)
  have HCB10 := Lib.hid (HCB9.out.on hb10)
  have HS10 := Lib.hid (HS89.out.below hb10 (Nat.le_refl _))
  clear hb10 hs1 hs2 c0 c1 c2 c3 q0 q1 q2 q3 q4
  rw [← HK9.out] at HT1 ⊢
  obtain ⟨kx, hkx⟩ : ∃ kx, kx = (suppL 2 y).length := ⟨_, rfl⟩
  rw [← hkx] at HT2 ⊢
  have HKX := Lib.hid hkx; clear hkx
  obtain ⟨c0, c1, c2, c3⟩ := HF10.out.c
  have q0 := HCB10.out.c0; have q1 := HCB10.out.c1; have q2 := HCB10.out.c2; have q3 := HCB10.out.c3; have q4 := HCB10.out.c4
  go_wp2_with fail
  have HD0 := Lib.hid (Blk.new w10 38 [.slice A1 k9 c1', .slice A2 kx c2'])
  have HBD := Lib.hid (bl_alloc w10 (.cells #[.slice A1 k9 c1', .slice A2 kx c2'] 38))
  obtain ⟨D, hD⟩ : ∃ D, D = w10.heap.size := ⟨_, rfl⟩
  obtain ⟨w11, hw11⟩ : ∃ w11, w11 = w10.alloc (.cells #[.slice A1 k9 c1', .slice A2 kx c2'] 38) := ⟨_, rfl⟩
  have HD1 : Hid (Blk w11 D 38 [.slice A1 k9 c1', .slice A2 kx c2']) := by rw [hw11, hD]; exact HD0
  have HB11 : Hid (Below w10.heap.size w10 w11) := by rw [hw11]; exact HBD
  clear HD0 HBD
  rw [← hw11, ← hD]
  clear hw11 hD c0 c1 c2 c3 q0 q1 q2 q3 q4
  have HF11 := Lib.hid (HF10.out.on HB11.out)
  have HCB11 := Lib.hid (HCB10.out.on HB11.out)
  obtain ⟨C, hC⟩ : ∃ C, C = w6.heap.size := ⟨_, rfl⟩
  obtain ⟨c0, c1, c2, c3⟩ := HF11.out.c
  have q0 := HCB11.out.c0; have q1 := HCB11.out.c1; have q2 := HCB11.out.c2; have q3 := HCB11.out.c3; have q4 := HCB11.out.c4
  obtain ⟨p0, p1, _, _⟩ := HD1.out.two
  go_wp2_with fail
  refine Kept.start (S := fun w' => (w'.cell? ⟨w.heap.size, 0, none⟩ = some (.int .i64 (r : Int)) ∧ w'.cell? ⟨w.heap.size, 1, none⟩ = some (.int .i64 (m : Int)) ∧ w'.cell? ⟨w.heap.size, 2, none⟩ = some vm ∧ w'.cell? ⟨w.heap.size, 3, none⟩ = some vy) ∧ (w'.cell? ⟨w6.heap.size, 0, none⟩ = some (.int .i64 2) ∧ w'.cell? ⟨w6.heap.size, 1, none⟩ = some (.int .i64 1) ∧ w'.cell? ⟨w6.heap.size, 2, none⟩ = some (.slice MA 0 mc)) ∧ w'.cell? ⟨D, 0, none⟩ = some (.slice A1 k9 c1') ∧ w'.cell? ⟨D, 1, none⟩ = some (.slice A2 kx c2')) (by kernel_rfl) (⟨⟨c0, c1, c2, c3⟩, ⟨q0, q1, q2⟩, p0, p1⟩) (fun hHeld => ?_)
  change Kept _ _ _ _ 19 _ _ _
  refine Kept.take (i := 0) (v := ?_) rfl (by kernel_rfl) (by kernel_rfl) (by kernel_rfl) (fun _ _ _ h => h) (Or.inl ⟨by kernel_rfl, ?_⟩) hHeld ?_
  rotate_left
  · intro w' hSw; (try dsimp only at hSw); first | (go_simp; done) | (go_simp; with_reducible rfl)
  try simp only [List.getElem_toArray, List.getElem_cons_zero, List.getElem_cons_succ, Act.put, List.setIfInBounds_toArray, List.set_cons_zero, List.set_cons_succ]
  refine Kept.take (i := 1) (v := ?_) rfl (by kernel_rfl) (by kernel_rfl) (by kernel_rfl) (fun _ _ _ h => h) (Or.inl ⟨by kernel_rfl, ?_⟩) hHeld ?_
  rotate_left
  · intro w' hSw; (try dsimp only at hSw); first | (go_simp; done) | (go_simp; with_reducible rfl)
  try simp only [List.getElem_toArray, List.getElem_cons_zero, List.getElem_cons_succ, Act.put, List.setIfInBounds_toArray, List.set_cons_zero, List.set_cons_succ]
  refine Kept.take (i := 2) (v := ?_) rfl (by kernel_rfl) (by kernel_rfl) (by kernel_rfl) (fun _ _ _ h => h) (Or.inl ⟨by kernel_rfl, ?_⟩) hHeld ?_
  rotate_left
  · intro w' hSw; (try dsimp only at hSw); first | (go_simp; done) | (go_simp; with_reducible rfl)
  try simp only [List.getElem_toArray, List.getElem_cons_zero, List.getElem_cons_succ, Act.put, List.setIfInBounds_toArray, List.set_cons_zero, List.set_cons_succ]
  refine Kept.take (i := 3) (v := ?_) rfl (by kernel_rfl) (by kernel_rfl) (by kernel_rfl) (fun _ _ _ h => h) (Or.inl ⟨by kernel_rfl, ?_⟩) hHeld ?_
  rotate_left
  · intro w' hSw; (try dsimp only at hSw); first | (go_simp; done) | (go_simp; with_reducible rfl)
  try simp only [List.getElem_toArray, List.getElem_cons_zero, List.getElem_cons_succ, Act.put, List.setIfInBounds_toArray, List.set_cons_zero, List.set_cons_succ]
  refine Kept.take (i := 4) (v := ?_) rfl (by kernel_rfl) (by kernel_rfl) (by kernel_rfl) (fun _ _ _ h => h) (Or.inl ⟨by kernel_rfl, ?_⟩) hHeld ?_
  rotate_left
  · intro w' hSw; (try dsimp only at hSw); first | (go_simp; done) | (go_simp; with_reducible rfl)
  try simp only [List.getElem_toArray, List.getElem_cons_zero, List.getElem_cons_succ, Act.put, List.setIfInBounds_toArray, List.set_cons_zero, List.set_cons_succ]
  refine Kept.take (i := 5) (v := ?_) rfl (by kernel_rfl) (by kernel_rfl) (by kernel_rfl) (fun _ _ _ h => h) (Or.inl ⟨by kernel_rfl, ?_⟩) hHeld ?_
  rotate_left
  · intro w' hSw; (try dsimp only at hSw); first | (go_simp; done) | (go_simp; with_reducible rfl)
  try simp only [List.getElem_toArray, List.getElem_cons_zero, List.getElem_cons_succ, Act.put, List.setIfInBounds_toArray, List.set_cons_zero, List.set_cons_succ]
  refine Kept.only (i := 6) (by kernel_rfl) rfl (fun K hK => ?_)
  go_simp
  refine (same_any _ _ _ wd wd ((HT1.out.below HB11.out (Nat.le_refl _)).below (bl_drew _) (Nat.le_refl _)) ((HS10.out.below HB11.out (Nat.le_refl _)).below (bl_drew _) (Nat.le_refl _))).mono ?_; rintro e w12 ⟨rfl, hb12⟩; rw [show decide (wd = wd) = true from decide_eq_true rfl]; have HF12 := Lib.hid (HF11.out.drew.on hb12); have HCB12 := Lib.hid (HCB11.out.drew.on hb12); have HD12 := Lib.hid ((show Blk w11.drew D _ _ from HD1.out).belowS hb12); have HT22 := Lib.hid (((HT2.out.below HB11.out (Nat.le_refl _)).below (bl_drew _) (Nat.le_refl _)).below hb12 (Nat.le_refl _)); clear hb12; obtain ⟨e0, e1, e2, e3⟩ := HF12.out.c; have g0 := HCB12.out.c0; have g1 := HCB12.out.c1; have g2 := HCB12.out.c2; obtain ⟨r0, r1, _, _⟩ := HD12.out.two
  refine hK.out _ _ (⟨⟨e0, e1, e2, e3⟩, ⟨g0, g1, g2⟩, r0, r1⟩) (fun hHeld2 => ?_)
  clear hK K
  replace hHeld := hHeld2
  clear hHeld2
  try simp only [List.getElem_toArray, List.getElem_cons_zero, List.getElem_cons_succ, Act.put, List.setIfInBounds_toArray, List.set_cons_zero, List.set_cons_succ]
  refine Kept.take (i := 7) (v := ?_) rfl (by kernel_rfl) (by kernel_rfl) (by kernel_rfl) (fun _ _ _ h => h) (Or.inl ⟨by kernel_rfl, ?_⟩) hHeld ?_
  rotate_left
  · intro w' hSw; (try dsimp only at hSw); first | (go_simp; done) | (go_simp; with_reducible rfl)
  try simp only [List.getElem_toArray, List.getElem_cons_zero, List.getElem_cons_succ, Act.put, List.setIfInBounds_toArray, List.set_cons_zero, List.set_cons_succ]
  refine Kept.take (i := 8) (v := ?_) rfl (by kernel_rfl) (by kernel_rfl) (by kernel_rfl) (fun _ _ _ h => h) (Or.inl ⟨by kernel_rfl, ?_⟩) hHeld ?_
  rotate_left
  · intro w' hSw; (try dsimp only at hSw); first | (go_simp; done) | (go_simp; with_reducible rfl)
  try simp only [List.getElem_toArray, List.getElem_cons_zero, List.getElem_cons_succ, Act.put, List.setIfInBounds_toArray, List.set_cons_zero, List.set_cons_succ]
  refine Kept.take (i := 9) (v := ?_) rfl (by kernel_rfl) (by kernel_rfl) (by kernel_rfl) (fun _ _ _ h => h) (Or.inl ⟨by kernel_rfl, ?_⟩) hHeld ?_
  rotate_left
  · intro w' hSw; (try dsimp only at hSw); first | (go_simp; done) | (go_simp; with_reducible rfl)
  try simp only [List.getElem_toArray, List.getElem_cons_zero, List.getElem_cons_succ, Act.put, List.setIfInBounds_toArray, List.set_cons_zero, List.set_cons_succ]
  refine Kept.take (i := 10) (v := ?_) rfl (by kernel_rfl) (by kernel_rfl) (by kernel_rfl) (fun _ _ _ h => h) (Or.inl ⟨by kernel_rfl, ?_⟩) hHeld ?_
  rotate_left
  · intro w' hSw; (try dsimp only at hSw); first | (go_simp; done) | (go_simp; with_reducible rfl)
  try simp only [List.getElem_toArray, List.getElem_cons_zero, List.getElem_cons_succ, Act.put, List.setIfInBounds_toArray, List.set_cons_zero, List.set_cons_succ]
  refine Kept.take (i := 11) (v := ?_) rfl (by kernel_rfl) (by kernel_rfl) (by kernel_rfl) (fun _ _ _ h => h) (Or.inl ⟨by kernel_rfl, ?_⟩) hHeld ?_
  rotate_left
  · intro w' hSw; (try dsimp only at hSw); first | (go_simp; done) | (go_simp; with_reducible rfl)
  try simp only [List.getElem_toArray, List.getElem_cons_zero, List.getElem_cons_succ, Act.put, List.setIfInBounds_toArray, List.set_cons_zero, List.set_cons_succ]
  refine Kept.take (i := 12) (v := ?_) rfl (by kernel_rfl) (by kernel_rfl) (by kernel_rfl) (fun _ _ _ h => h) (Or.inl ⟨by kernel_rfl, ?_⟩) hHeld ?_
  rotate_left
  · intro w' hSw; (try dsimp only at hSw); first | (go_simp; done) | (go_simp; with_reducible rfl)
  try simp only [List.getElem_toArray, List.getElem_cons_zero, List.getElem_cons_succ, Act.put, List.setIfInBounds_toArray, List.set_cons_zero, List.set_cons_succ]
  refine Kept.take (i := 13) (v := ?_) rfl (by kernel_rfl) (by kernel_rfl) (by kernel_rfl) (fun _ _ _ h => h) (Or.inl ⟨by kernel_rfl, ?_⟩) hHeld ?_
  rotate_left
  · intro w' hSw; (try dsimp only at hSw); first | (go_simp; done) | (go_simp; with_reducible rfl)
  try simp only [List.getElem_toArray, List.getElem_cons_zero, List.getElem_cons_succ, Act.put, List.setIfInBounds_toArray, List.set_cons_zero, List.set_cons_succ]
  refine Kept.take (i := 14) (v := ?_) rfl (by kernel_rfl) (by kernel_rfl) (by kernel_rfl) (fun _ _ _ h => h) (Or.inl ⟨by kernel_rfl, ?_⟩) hHeld ?_
  rotate_left
  · intro w' hSw; (try dsimp only at hSw); first | (go_simp; done) | (go_simp; with_reducible rfl)
  try simp only [List.getElem_toArray, List.getElem_cons_zero, List.getElem_cons_succ, Act.put, List.setIfInBounds_toArray, List.set_cons_zero, List.set_cons_succ]
  refine Kept.only (i := 15) (by kernel_rfl) rfl (fun K hK => ?_)
  go_simp
  refine (rSupport_any _ 2 1 _ vy y (HY.out.below HF12.out.bel (Nat.le_refl _))).mono ?_; rintro e w13 ⟨u13, rfl, ho13, hb13⟩; rw [order21] at ho13; have HO13 := Lib.hid ho13; have HF13 := Lib.hid (HF12.out.on hb13); have HCB13 := Lib.hid (HCB12.out.on hb13); have HD13 := Lib.hid (HD12.out.belowS hb13); have HT23 := Lib.hid (HT22.out.below hb13 (Nat.le_refl _)); clear hb13 ho13; obtain ⟨e0, e1, e2, e3⟩ := HF13.out.c; have g0 := HCB13.out.c0; have g1 := HCB13.out.c1; have g2 := HCB13.out.c2; obtain ⟨r0, r1, _, _⟩ := HD13.out.two
  refine hK.out _ _ (⟨⟨e0, e1, e2, e3⟩, ⟨g0, g1, g2⟩, r0, r1⟩) (fun hHeld2 => ?_)
  clear hK K
  replace hHeld := hHeld2
  clear hHeld2
  try simp only [List.getElem_toArray, List.getElem_cons_zero, List.getElem_cons_succ, Act.put, List.setIfInBounds_toArray, List.set_cons_zero, List.set_cons_succ]
  refine Kept.only (i := 16) (by kernel_rfl) rfl (fun K hK => ?_)
  go_simp
  refine (same_any _ _ _ (suppL 2 y) (suppL 2 y) HT23.out (HO13.out.si HT23.out.len' HT23.out.wfs)).mono ?_; rintro e w14 ⟨rfl, hb14⟩; rw [show decide (suppL 2 y = suppL 2 y) = true from decide_eq_true rfl]; have HF14 := Lib.hid (HF13.out.on hb14); have HCB14 := Lib.hid (HCB13.out.on hb14); have HD14 := Lib.hid (HD13.out.belowS hb14); clear hb14; obtain ⟨e0, e1, e2, e3⟩ := HF14.out.c; have g0 := HCB14.out.c0; have g1 := HCB14.out.c1; have g2 := HCB14.out.c2; obtain ⟨r0, r1, _, _⟩ := HD14.out.two
  refine hK.out _ _ (⟨⟨e0, e1, e2, e3⟩, ⟨g0, g1, g2⟩, r0, r1⟩) (fun hHeld2 => ?_)
  clear hK K
  replace hHeld := hHeld2
  clear hHeld2
  try simp only [List.getElem_toArray, List.getElem_cons_zero, List.getElem_cons_succ, Act.put, List.setIfInBounds_toArray, List.set_cons_zero, List.set_cons_succ]
  refine Kept.take (i := 17) (v := ?_) rfl (by kernel_rfl) (by kernel_rfl) (by kernel_rfl) (fun _ _ _ h => h) (Or.inl ⟨by kernel_rfl, ?_⟩) hHeld ?_
  rotate_left
  · intro w' hSw; (try dsimp only at hSw); first | (go_simp; done) | (go_simp; with_reducible rfl)
  try simp only [List.getElem_toArray, List.getElem_cons_zero, List.getElem_cons_succ, Act.put, List.setIfInBounds_toArray, List.set_cons_zero, List.set_cons_succ]
  refine Kept.only (i := 18) (by kernel_rfl) rfl (fun K hK => ?_)
  go_simp
  refine hK.out _ _ hHeld (fun hHeld2 => ?_)
  clear hK K
  clear hHeld2
  refine Kept.done (by kernel_rfl) ?_
  try simp only [List.getElem_toArray, List.getElem_cons_zero, List.getElem_cons_succ, Act.put, List.setIfInBounds_toArray, List.set_cons_zero, List.set_cons_succ]
  clear hHeld
  go_wp2_with fail
  go_ret
  exact ⟨rfl, HF14.out.bel⟩

theorem lawCorr (w : World) (R M : Int) (vm vy : Value) (msg y : List Int) (hmsg : SI w vm msg) (hy : SI w vy y) :
    Calls Try.prog 7 #[.agg #[.int .i64 R, .int .i64 M, vm, vy]] w (RetB w true) := by
  by_cases ha : argsE R M y = 0
  · obtain ⟨r, m, rfl, rfl, hr, hm, hyl, hyb⟩ := args_ok ha
    by_cases hw : ((suppL 2 y).length : Int) ≤ radF r m
    · have hN : 2 ^ ((m : Int).toNat) = 2 ^ m := by rw [Int.toNat_natCast]
      by_cases he : encE 2 1 [] ((2 ^ m : Nat) : Int) (rmGen r m) msg = 0
      · obtain ⟨h0, h1, h2, h3⟩ := corr_plain hm hr he hyb hyl hw
        exact lawCorr_yes w r m (2 ^ m) vm vy y msg (rmGen r m) hy hmsg hr hm hN rfl ha hw he _ _ rfl rfl h0 h1 h2 h3
      · exact lawCorr_no w r m (2 ^ m) vm vy y msg (rmGen r m) hy hmsg hr hm hN rfl ha hw he
    · exact lawCorr_far w r m vm vy y hy hr hm ha (by omega)
  · exact lawCorr_bad w R M vm vy y hy ha
theorem lawCorr' (w : World) {v : Value} (h : ∃ R M vm vy msg y, v = .agg #[.int .i64 R, .int .i64 M, vm, vy] ∧ SI w vm msg ∧ SI w vy y) :
    Calls Try.prog 7 #[v] w (RetB w true) := by
  obtain ⟨R, M, vm, vy, msg, y, rfl, h1, h2⟩ := h
  exact lawCorr w R M vm vy msg y h1 h2
end Go.Proofs.Ytkamgnihpcafdaa

/- MajorityCorrects: the law returns true for every input; each argument reads behind the call as it read before. The walk is in LCorr2. -/
namespace Go.Proofs.Ytkamgnihpcafdaa.majorityCorrects
open Go.ChangeShapes Go.WideShapes Go.ChangeAt Go.RowKit
set_option linter.unusedVariables false

set_option maxRecDepth 100000 in
theorem lifted (os : Os) (started : os.Started) (H : Type) (enc : TypeId × Value → H) :
    ReturnsInHanded {} Try.checked os 7 .any (Rows.majorityCorrectsSpec.pre6 enc Try.prog Try.f7 Rows.majorityCorrectsRow.domain false) (Rows.majorityCorrectsSpec.post enc Try.prog Try.f7 false true false false) := by
  refine returnsInHanded_of_change_sized (C := Try.checked) own started (by kernel_rfl) Try.func7
    (ChangeSpec.witness6 (enc := enc) (C := Try.checked) false ⟨#[], #[.agg #[.int .i64 0, .int .i64 0, .slice none 0 0, .slice none 0 0]], []⟩ 8 (by kernel_rfl) (by kernel_rfl) (by kernel_rfl) (by kernel_rfl)) ?_
  intro W base args ds gs before hval0 hW _ hsz0 _
  have hsz : (DataW.weightsEach Try.prog (Try.f7.params.toList ++ Rows.majorityCorrectsSpec.plain.varTypes Try.prog) (ds ++ gs)).all (· ≤ reachBytes) = true := hsz0
  have hval : ∀ (j : Nat) t v, Try.f7.params[j]? = some t → args[j]? = some v → Value.okWide Try.prog W .any base t v := hval0
  have hW' := hW
  obtain ⟨p, q, hA0, hV, rfl, hfz, hnd⟩ := hW
  have hA : DataW.TrodAll enc Try.prog W 0 (fun _ => true) true Try.f7.params.toList args.toList ds p := hA0
  rw [Try.params7] at hA hval hsz
  obtain ⟨v0, vs0, d0, ds0, p0, q0, hargs, rfl, rfl, h0, r0'⟩ := trodAll_cons hA
  obtain ⟨rfl, rfl, rfl⟩ := trodAll_nil r0'
  obtain rfl : args = #[v0] := by cases args; simp_all
  obtain ⟨rfl, rfl⟩ := trodVars_none hV
  have k0 := h0
  have r0 := open_Sent h0 (hval 0 43 v0 rfl rfl) (weigh hsz 0 rfl rfl)
  clear hA0 hval0
  refine (lawCorr' W r0).mono fun e W' ⟨he, bel⟩ => ?_
  subst he
  exact ⟨_, rfl, _, _, _, [], _, [], hW', trodAll_mk1 (shut_bool Try.underlying4 _), (trodAll_cons_mk (Below.trod laidOut (by kernel_rfl) (of_decide_eq_true (by kernel_rfl)) k0 bel (lt_of_trod k0)) trodAll_mk0), rfl, bel.frame _, fun h => by cases h⟩

theorem proved : Rows.MajorityCorrectsSaid :=
  OpenClaim.holds_of_wide 7 Try.f7 rfl rfl rfl rfl rfl rfl rfl ⟨rfl, rfl, rfl, rfl, rfl⟩ rfl rfl rfl rfl rfl (by kernel_rfl) Try.func7 (by kernel_rfl)
    (of_decide_eq_true (by kernel_rfl)) (by unfold Func.isWrapper; first | (rw [if_pos (by decide +kernel)]; kernel_rfl) | (rw [if_neg (by decide +kernel)]; exact ⟨rfl, rfl⟩))
    (fun os started H enc _ => lifted os started H enc)
#print axioms proved
end Go.Proofs.Ytkamgnihpcafdaa.majorityCorrects
