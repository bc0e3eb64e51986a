/- Texts of a claim, merged: words, plain facts and walks that the last of its texts uses. -/
import Derived.Test.YtmejijekcfhonaaGreatQ1
import Derived.Test.YtmejijekcfhonaaGreatRows
import Derived.ProofKit
import Derived.OpenShut
import Derived.ShutString
import Derived.ChangeOld
import Derived.Below
import Derived.SizedLaws
import Derived.Deep.Slices
import Derived.Lib.SmallJoins
set_option linter.unusedSimpArgs false
set_option linter.unusedVariables false

/- From the reading of an argument to the words of the walks. -/
namespace Go.Proofs.YtmejijekcfhonaaGreat
set_option maxRecDepth 100000
open Go.ChangeShapes Go.WideShapes Go.ChangeAt Go.RowKit

theorem own : ownKnob Tryz.prog.godebug = none := by kernel_rfl
theorem laidOut : laidOutB Tryz.prog = true := by kernel_rfl
theorem cellsInt : Tryz.prog.cellsOf 3 = 1 := by kernel_rfl
theorem bytesInt : Tryz.prog.bytesOf 3 = 8 := by kernel_rfl

section
variable {H : Type} {enc : TypeId × Value → H} {W : World} {base : Nat} {held : Bool}

theorem open_cells_SI {fuel : Nat} {cs : List Value} {d : DataW H} {p : List MemPlace} (h : DataW.trod enc Tryz.prog W base (fun _ => true) held fuel 22 cs = some (d, p))
    (hw : ∀ n ∈ d.weights Tryz.prog 22, n ≤ reachBytes) : ∃ v xs, cs = [v] ∧ SI W v xs := by
  rcases open_ints Tryz.underlying22 Tryz.underlying3 cellsInt h with ⟨rfl, _⟩ | ⟨a, len, cap, zs, rfl, _, hl, hm, hz, hx, hcell, hwz⟩
  · exact ⟨_, [], rfl, SI.none_ W⟩
  · simp only [if_true] at hz
    simp only [Prod.mk.injEq] at hx
    obtain ⟨rfl, _⟩ := hx
    have hr : cap * 8 ≤ reachBytes := by
      have := hw ((((lits (H := H) .i64 (zs.take len)).length) + ((lits (H := H) .i64 (zs.drop len)).length)) * Tryz.prog.bytesOf 3) (by simp [DataW.weights, Tryz.underlying22])
      rw [bytesInt] at this
      simp only [lits, List.length_map, List.length_take, List.length_drop] at this
      omega
    simp only [reachBytes] at hr
    have e : (zs.take len).length = len := by rw [List.length_take]; omega
    refine ⟨.slice (some a) len cap, zs.take len, rfl, some a, cap, by rw [e], by omega, by omega, fun k hk => ⟨a, rfl, ?_⟩, fun k => ?_⟩
    · rw [e] at hk
      rw [hcell k (by omega)]
      simp [List.getD, List.getElem?_take, hk]
    · by_cases hk : k < (zs.take len).length
      · rw [List.getD_eq_getElem?_getD, List.getElem?_eq_getElem hk, Option.getD_some]
        exact I64.of_wf (hwz _ (List.mem_of_mem_take (List.getElem_mem hk)))
      · rw [List.getD_eq_getElem?_getD, List.getElem?_eq_none (by omega)]
        exact I64.zero

/-- an argument of the type []int -/
theorem open_SI {v : Value} {d : DataW H} {p : List MemPlace} {bs : Nat} (h : DataW.Trod enc Tryz.prog W base (fun _ => true) held 22 v d p) (hok : Value.okWide Tryz.prog W .any bs 22 v)
    (hw : ∀ n ∈ d.weights Tryz.prog 22, n ≤ reachBytes) : ∃ xs, SI W v xs := by
  obtain ⟨a, len, cap, rfl⟩ := okWide_slice Tryz.underlying22 hok
  obtain ⟨fuel, hf⟩ := h
  obtain ⟨v', xs, hcs, hs⟩ := open_cells_SI hf hw
  have e : Value.slice a len cap = v' := (List.cons.inj hcs).1
  rw [← e] at hs
  exact ⟨xs, hs⟩
theorem bytesInts : Tryz.prog.bytesOf 22 = 24 := by kernel_rfl
theorem cellsInts : Tryz.prog.cellsOf 22 = 1 := by kernel_rfl
theorem mem_weightsAll {e : TypeId} {d : DataW H} {n : Nat} : ∀ {l : List (DataW H)}, d ∈ l → n ∈ d.weights Tryz.prog e → n ∈ DataW.weightsAll Tryz.prog e l
  | x :: r, hd, hn => by
    simp only [DataW.weightsAll, List.mem_append]
    rcases List.mem_cons.1 hd with rfl | hd
    · exact .inl hn
    · exact .inr (mem_weightsAll hd hn)
theorem open_cells_SS {fuel : Nat} {cs : List Value} {d : DataW H} {p : List MemPlace} (h : DataW.trod enc Tryz.prog W base (fun _ => true) held fuel 25 cs = some (d, p))
    (hw : ∀ n ∈ d.weights Tryz.prog 25, n ≤ reachBytes) : ∃ v xss, cs = [v] ∧ SS W v xss := by
  rcases Go.Deep.open_slice1 Tryz.underlying25 cellsInts h with ⟨rfl, _⟩ | ⟨a, len, cap, m, n, V, D, Pl, rfl, _, hl, hm, hmm, hx, hr⟩
  · exact ⟨_, [], rfl, SS.none_ W⟩
  · simp only [if_true] at hmm
    have hmm2 := hmm.symm
    subst hmm2
    simp only [Prod.mk.injEq] at hx
    obtain ⟨rfl, _⟩ := hx
    have hreach : cap * 24 ≤ reachBytes := by
      have := hw ((((List.range len).map D).length + ((List.range (cap - len)).map fun j => D (len + j)).length) * Tryz.prog.bytesOf 22) (by simp [DataW.weights, Tryz.underlying25])
      rw [bytesInts] at this
      simp only [List.length_map, List.length_range] at this
      rw [show len + (cap - len) = cap by omega] at this
      exact this
    simp only [reachBytes] at hreach
    have each : ∀ k, k < len → ∃ xs, SI W (V k) xs := fun k hk => by
      obtain ⟨v', xs, hcs, hs⟩ := open_cells_SI (hr k (by omega)).2 (fun n hn => hw n (by
        simp only [DataW.weights, Tryz.underlying25, List.mem_cons, List.mem_append]
        exact .inr (.inl (mem_weightsAll (List.mem_map.2 ⟨k, List.mem_range.2 hk, rfl⟩) hn))))
      have e : V k = v' := (List.cons.inj hcs).1
      rw [← e] at hs
      exact ⟨xs, hs⟩
    obtain ⟨X, hX⟩ := Go.Deep.choose_lt each
    have e : ((List.range len).map X).length = len := by simp
    refine ⟨_, (List.range len).map X, rfl, some a, cap, by rw [e], by omega, by omega, fun k hk => ?_⟩
    rw [e] at hk
    refine ⟨a, V k, rfl, (hr k (by omega)).1, ?_⟩
    have e2 : ((List.range len).map X).getD k [] = X k := by simp [List.getD, hk]
    rw [e2]
    exact hX k hk
/-- an argument of the type [][]int -/
theorem open_SS {v : Value} {d : DataW H} {p : List MemPlace} {bs : Nat} (h : DataW.Trod enc Tryz.prog W base (fun _ => true) held 25 v d p) (hok : Value.okWide Tryz.prog W .any bs 25 v)
    (hw : ∀ n ∈ d.weights Tryz.prog 25, n ≤ reachBytes) : ∃ xss, SS W v xss := by
  obtain ⟨a, len, cap, rfl⟩ := okWide_slice Tryz.underlying25 hok
  obtain ⟨fuel, hf⟩ := h
  obtain ⟨v', xss, hcs, hs⟩ := open_cells_SS hf hw
  have e : Value.slice a len cap = v' := (List.cons.inj hcs).1
  rw [← e] at hs
  exact ⟨xss, hs⟩
theorem weigh {ts : List TypeId} {ds : List (DataW H)} (h : (DataW.weightsEach Tryz.prog ts ds).all (· ≤ reachBytes) = true) (j : Nat) {t : TypeId} {d : DataW H} (ht : ts[j]? = some t) (hd : ds[j]? = some d) : ∀ n ∈ d.weights Tryz.prog t, n ≤ reachBytes := fun n hn => by
  have := List.all_eq_true.1 h n (DataW.weights_mem_each ht hd n hn)
  simpa using this
theorem lt_of_trod {t : TypeId} {v : Value} {d : DataW H} {p : List MemPlace} (h : DataW.Trod enc Tryz.prog W base (fun _ => true) held t v d p) : ∀ x ∈ p, x.block < W.heap.size := by
  obtain ⟨m, hm⟩ := h
  exact DataW.trod_lt m _ _ _ hm
end
end Go.Proofs.YtmejijekcfhonaaGreat

/- From the reading of an 'api.Field' argument to the words of the walks. -/
namespace Go.Proofs.YtmejijekcfhonaaGreat
set_option maxRecDepth 100000
open Go.ChangeShapes Go.WideShapes Go.ChangeAt Go.RowKit

section
variable {H : Type} {enc : TypeId × Value → H} {W : World} {base : Nat} {held : Bool}
/-- an int among the fields of a struct -/
theorem open_cell_intF {fuel : Nat} {v : Value} {x : DataW H × List MemPlace} (h : DataW.trod enc Tryz.prog W base (fun _ => true) held fuel 3 [v] = some x) : ∃ n, v = .int .i64 n ∧ I64 n := by
  obtain ⟨n, h1, _, h2⟩ := DataW.trod_int Tryz.underlying3 h
  exact ⟨n, (List.cons.inj h1).1, I64.of_wf h2⟩
theorem open_cell_SIF {fuel : Nat} {v : Value} {x : DataW H × List MemPlace} (h : DataW.trod enc Tryz.prog W base (fun _ => true) held fuel 22 [v] = some x) (hw : ∀ n ∈ x.1.weights Tryz.prog 22, n ≤ reachBytes) : ∃ xs, SI W v xs := by
  obtain ⟨v', xs, hcs, hs⟩ := open_cells_SI (d := x.1) (p := x.2) h hw
  have e : v = v' := (List.cons.inj hcs).1
  rw [← e] at hs
  exact ⟨xs, hs⟩
theorem open_Field {v : Value} {d : DataW H} {p : List MemPlace} {bs : Nat} (h : DataW.Trod enc Tryz.prog W base (fun _ => true) held 24 v d p) (hok : Value.okWide Tryz.prog W .any bs 24 v)
    (hw : ∀ n ∈ d.weights Tryz.prog 24, n ≤ reachBytes) : ∃ P M mv Mod, v = .agg #[.int .i64 P, .int .i64 M, mv] ∧ SI W mv Mod := by
  obtain ⟨v0, v1, v2, y0, y1, y2, n, rfl, rfl, rfl, h0, h1, h2⟩ := Go.Joins.open_agg3 Tryz.underlying24 (by kernel_rfl) (by kernel_rfl) hok h
  obtain ⟨P, rfl, _⟩ := open_cell_intF h0
  obtain ⟨M, rfl, _⟩ := open_cell_intF h1
  have hwe : ∀ k, k ∈ DataW.weightsEach Tryz.prog [3, 3, 22] [y0.1, y1.1, y2.1] → k ≤ reachBytes := fun k hk => hw k (by
    rw [DataW.weights, Tryz.underlying24]; exact hk)
  simp only [DataW.weightsEach, List.mem_append] at hwe
  obtain ⟨Mod, hs2⟩ := open_cell_SIF h2 fun k hk => hwe k (by simp [hk])
  exact ⟨P, M, v2, Mod, rfl, hs2⟩
end
end Go.Proofs.YtmejijekcfhonaaGreat

/- From the reading of an 'api.Matrix' argument to the words of the walks. -/
namespace Go.Proofs.YtmejijekcfhonaaGreat
set_option maxRecDepth 100000
open Go.ChangeShapes Go.WideShapes Go.ChangeAt Go.RowKit

section
variable {H : Type} {enc : TypeId × Value → H} {W : World} {base : Nat} {held : Bool}
theorem open_cell_SSM {fuel : Nat} {v : Value} {x : DataW H × List MemPlace} (h : DataW.trod enc Tryz.prog W base (fun _ => true) held fuel 25 [v] = some x) (hw : ∀ n ∈ x.1.weights Tryz.prog 25, n ≤ reachBytes) : ∃ xss, SS W v xss := by
  obtain ⟨v', xss, hcs, hs⟩ := open_cells_SS (d := x.1) (p := x.2) h hw
  have e : v = v' := (List.cons.inj hcs).1
  rw [← e] at hs
  exact ⟨xss, hs⟩
theorem open_Matrix {v : Value} {d : DataW H} {p : List MemPlace} {bs : Nat} (h : DataW.Trod enc Tryz.prog W base (fun _ => true) held 27 v d p) (hok : Value.okWide Tryz.prog W .any bs 27 v)
    (hw : ∀ n ∈ d.weights Tryz.prog 27, n ≤ reachBytes) : ∃ cols rv rows, v = .agg #[.int .i64 cols, rv] ∧ SS W rv rows := by
  obtain ⟨v0, v1, y0, y1, n, rfl, rfl, rfl, h0, h1⟩ := Go.Joins.open_agg2 Tryz.underlying27 (by kernel_rfl) (by kernel_rfl) hok h
  obtain ⟨cols, rfl, _⟩ := open_cell_intF h0
  have hwe : ∀ k, k ∈ DataW.weightsEach Tryz.prog [3, 25] [y0.1, y1.1] → k ≤ reachBytes := fun k hk => hw k (by
    rw [DataW.weights, Tryz.underlying27]; exact hk)
  simp only [DataW.weightsEach, List.mem_append] at hwe
  obtain ⟨rows, hs⟩ := open_cell_SSM h1 fun k hk => hwe k (by simp [hk])
  exact ⟨cols, v1, rows, rfl, hs⟩
end
end Go.Proofs.YtmejijekcfhonaaGreat
