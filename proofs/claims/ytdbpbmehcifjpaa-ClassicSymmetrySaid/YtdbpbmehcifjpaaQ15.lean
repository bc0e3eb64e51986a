/- Texts of a claim, merged: words, plain facts and walks that the last of its texts uses. -/
import Derived.Test.YtdbpbmehcifjpaaQ1
import Derived.Test.YtdbpbmehcifjpaaRows
import Derived.ProofKit
import Derived.OpenShut
import Derived.ShutString
import Derived.ChangeOld
import Derived.Below
import Derived.SizedLaws
import Derived.Deep.Slices
set_option linter.unusedSimpArgs false
set_option linter.unusedVariables false

/- From the reading of an argument to the words of the walks. -/
namespace Go.Proofs.Ytdbpbmehcifjpaa
set_option maxRecDepth 100000
open Go.ChangeShapes Go.WideShapes Go.ChangeAt Go.RowKit

theorem own : ownKnob Try.prog.godebug = none := by kernel_rfl
theorem laidOut : laidOutB Try.prog = true := by kernel_rfl
theorem cellsInt : Try.prog.cellsOf 3 = 1 := by kernel_rfl
theorem bytesInt : Try.prog.bytesOf 3 = 8 := by kernel_rfl

section
variable {H : Type} {enc : TypeId × Value → H} {W : World} {base : Nat} {held : Bool}

theorem open_cells_SI {fuel : Nat} {cs : List Value} {d : DataW H} {p : List MemPlace} (h : DataW.trod enc Try.prog W base (fun _ => true) held fuel 22 cs = some (d, p))
    (hw : ∀ n ∈ d.weights Try.prog 22, n ≤ reachBytes) : ∃ v xs, cs = [v] ∧ SI W v xs := by
  rcases open_ints Try.underlying22 Try.underlying3 cellsInt h with ⟨rfl, _⟩ | ⟨a, len, cap, zs, rfl, _, hl, hm, hz, hx, hcell, hwz⟩
  · exact ⟨_, [], rfl, SI.none_ W⟩
  · simp only [if_true] at hz
    simp only [Prod.mk.injEq] at hx
    obtain ⟨rfl, _⟩ := hx
    have hr : cap * 8 ≤ reachBytes := by
      have := hw ((((lits (H := H) .i64 (zs.take len)).length) + ((lits (H := H) .i64 (zs.drop len)).length)) * Try.prog.bytesOf 3) (by simp [DataW.weights, Try.underlying22])
      rw [bytesInt] at this
      simp only [lits, List.length_map, List.length_take, List.length_drop] at this
      omega
    simp only [reachBytes] at hr
    have e : (zs.take len).length = len := by rw [List.length_take]; omega
    refine ⟨.slice (some a) len cap, zs.take len, rfl, some a, cap, by rw [e], by omega, by omega, fun k hk => ⟨a, rfl, ?_⟩, fun k => ?_⟩
    · rw [e] at hk
      rw [hcell k (by omega)]
      simp [List.getD, List.getElem?_take, hk]
    · by_cases hk : k < (zs.take len).length
      · rw [List.getD_eq_getElem?_getD, List.getElem?_eq_getElem hk, Option.getD_some]
        exact I64.of_wf (hwz _ (List.mem_of_mem_take (List.getElem_mem hk)))
      · rw [List.getD_eq_getElem?_getD, List.getElem?_eq_none (by omega)]
        exact I64.zero

/-- an argument of the type []int -/
theorem open_SI {v : Value} {d : DataW H} {p : List MemPlace} {bs : Nat} (h : DataW.Trod enc Try.prog W base (fun _ => true) held 22 v d p) (hok : Value.okWide Try.prog W .any bs 22 v)
    (hw : ∀ n ∈ d.weights Try.prog 22, n ≤ reachBytes) : ∃ xs, SI W v xs := by
  obtain ⟨a, len, cap, rfl⟩ := okWide_slice Try.underlying22 hok
  obtain ⟨fuel, hf⟩ := h
  obtain ⟨v', xs, hcs, hs⟩ := open_cells_SI hf hw
  have e : Value.slice a len cap = v' := (List.cons.inj hcs).1
  rw [← e] at hs
  exact ⟨xs, hs⟩
theorem bytesInts : Try.prog.bytesOf 22 = 24 := by kernel_rfl
theorem cellsInts : Try.prog.cellsOf 22 = 1 := by kernel_rfl
theorem mem_weightsAll {e : TypeId} {d : DataW H} {n : Nat} : ∀ {l : List (DataW H)}, d ∈ l → n ∈ d.weights Try.prog e → n ∈ DataW.weightsAll Try.prog e l
  | x :: r, hd, hn => by
    simp only [DataW.weightsAll, List.mem_append]
    rcases List.mem_cons.1 hd with rfl | hd
    · exact .inl hn
    · exact .inr (mem_weightsAll hd hn)
theorem open_cells_SS {fuel : Nat} {cs : List Value} {d : DataW H} {p : List MemPlace} (h : DataW.trod enc Try.prog W base (fun _ => true) held fuel 25 cs = some (d, p))
    (hw : ∀ n ∈ d.weights Try.prog 25, n ≤ reachBytes) : ∃ v xss, cs = [v] ∧ SS W v xss := by
  rcases Go.Deep.open_slice1 Try.underlying25 cellsInts h with ⟨rfl, _⟩ | ⟨a, len, cap, m, n, V, D, Pl, rfl, _, hl, hm, hmm, hx, hr⟩
  · exact ⟨_, [], rfl, SS.none_ W⟩
  · simp only [if_true] at hmm
    have hmm2 := hmm.symm
    subst hmm2
    simp only [Prod.mk.injEq] at hx
    obtain ⟨rfl, _⟩ := hx
    have hreach : cap * 24 ≤ reachBytes := by
      have := hw ((((List.range len).map D).length + ((List.range (cap - len)).map fun j => D (len + j)).length) * Try.prog.bytesOf 22) (by simp [DataW.weights, Try.underlying25])
      rw [bytesInts] at this
      simp only [List.length_map, List.length_range] at this
      rw [show len + (cap - len) = cap by omega] at this
      exact this
    simp only [reachBytes] at hreach
    have each : ∀ k, k < len → ∃ xs, SI W (V k) xs := fun k hk => by
      obtain ⟨v', xs, hcs, hs⟩ := open_cells_SI (hr k (by omega)).2 (fun n hn => hw n (by
        simp only [DataW.weights, Try.underlying25, List.mem_cons, List.mem_append]
        exact .inr (.inl (mem_weightsAll (List.mem_map.2 ⟨k, List.mem_range.2 hk, rfl⟩) hn))))
      have e : V k = v' := (List.cons.inj hcs).1
      rw [← e] at hs
      exact ⟨xs, hs⟩
    obtain ⟨X, hX⟩ := Go.Deep.choose_lt each
    have e : ((List.range len).map X).length = len := by simp
    refine ⟨_, (List.range len).map X, rfl, some a, cap, by rw [e], by omega, by omega, fun k hk => ?_⟩
    rw [e] at hk
    refine ⟨a, V k, rfl, (hr k (by omega)).1, ?_⟩
    have e2 : ((List.range len).map X).getD k [] = X k := by simp [List.getD, hk]
    rw [e2]
    exact hX k hk
/-- an argument of the type [][]int -/
theorem open_SS {v : Value} {d : DataW H} {p : List MemPlace} {bs : Nat} (h : DataW.Trod enc Try.prog W base (fun _ => true) held 25 v d p) (hok : Value.okWide Try.prog W .any bs 25 v)
    (hw : ∀ n ∈ d.weights Try.prog 25, n ≤ reachBytes) : ∃ xss, SS W v xss := by
  obtain ⟨a, len, cap, rfl⟩ := okWide_slice Try.underlying25 hok
  obtain ⟨fuel, hf⟩ := h
  obtain ⟨v', xss, hcs, hs⟩ := open_cells_SS hf hw
  have e : Value.slice a len cap = v' := (List.cons.inj hcs).1
  rw [← e] at hs
  exact ⟨xss, hs⟩
theorem weigh {ts : List TypeId} {ds : List (DataW H)} (h : (DataW.weightsEach Try.prog ts ds).all (· ≤ reachBytes) = true) (j : Nat) {t : TypeId} {d : DataW H} (ht : ts[j]? = some t) (hd : ds[j]? = some d) : ∀ n ∈ d.weights Try.prog t, n ≤ reachBytes := fun n hn => by
  have := List.all_eq_true.1 h n (DataW.weights_mem_each ht hd n hn)
  simpa using this
theorem lt_of_trod {t : TypeId} {v : Value} {d : DataW H} {p : List MemPlace} (h : DataW.Trod enc Try.prog W base (fun _ => true) held t v d p) : ∀ x ∈ p, x.block < W.heap.size := by
  obtain ⟨m, hm⟩ := h
  exact DataW.trod_lt m _ _ _ hm
end
end Go.Proofs.Ytdbpbmehcifjpaa
