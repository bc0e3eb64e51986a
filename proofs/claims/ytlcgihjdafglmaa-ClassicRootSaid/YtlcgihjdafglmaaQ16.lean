/- Texts of a claim, merged: words, plain facts and walks that the last of its texts uses. -/
import Derived.Test.YtlcgihjdafglmaaQ1
import Derived.Test.YtlcgihjdafglmaaQ12
import Derived.Test.YtlcgihjdafglmaaQ14
import Derived.Test.YtlcgihjdafglmaaRows
import Derived.ProofKit
import Derived.OpenShut
import Derived.ShutString
import Derived.ChangeOld
import Derived.Below
import Derived.SizedLaws
import Derived.Deep.Slices
import Derived.StillTailTactics
set_option linter.unusedSimpArgs false
set_option linter.unusedVariables false

/- From the reading of an argument to the words of the walks. -/
namespace Go.Proofs.Ytlcgihjdafglmaa
set_option maxRecDepth 100000
open Go.ChangeShapes Go.WideShapes Go.ChangeAt Go.RowKit

theorem own : ownKnob Try.prog.godebug = none := by kernel_rfl
theorem laidOut : laidOutB Try.prog = true := by kernel_rfl
theorem cellsInt : Try.prog.cellsOf 3 = 1 := by kernel_rfl
theorem bytesInt : Try.prog.bytesOf 3 = 8 := by kernel_rfl

section
variable {H : Type} {enc : TypeId × Value → H} {W : World} {base : Nat} {held : Bool}

theorem open_cells_SI {fuel : Nat} {cs : List Value} {d : DataW H} {p : List MemPlace} (h : DataW.trod enc Try.prog W base (fun _ => true) held fuel 22 cs = some (d, p))
    (hw : ∀ n ∈ d.weights Try.prog 22, n ≤ reachBytes) : ∃ v xs, cs = [v] ∧ SI W v xs := by
  rcases open_ints Try.underlying22 Try.underlying3 cellsInt h with ⟨rfl, _⟩ | ⟨a, len, cap, zs, rfl, _, hl, hm, hz, hx, hcell, hwz⟩
  · exact ⟨_, [], rfl, SI.none_ W⟩
  · simp only [if_true] at hz
    simp only [Prod.mk.injEq] at hx
    obtain ⟨rfl, _⟩ := hx
    have hr : cap * 8 ≤ reachBytes := by
      have := hw ((((lits (H := H) .i64 (zs.take len)).length) + ((lits (H := H) .i64 (zs.drop len)).length)) * Try.prog.bytesOf 3) (by simp [DataW.weights, Try.underlying22])
      rw [bytesInt] at this
      simp only [lits, List.length_map, List.length_take, List.length_drop] at this
      omega
    simp only [reachBytes] at hr
    have e : (zs.take len).length = len := by rw [List.length_take]; omega
    refine ⟨.slice (some a) len cap, zs.take len, rfl, some a, cap, by rw [e], by omega, by omega, fun k hk => ⟨a, rfl, ?_⟩, fun k => ?_⟩
    · rw [e] at hk
      rw [hcell k (by omega)]
      simp [List.getD, List.getElem?_take, hk]
    · by_cases hk : k < (zs.take len).length
      · rw [List.getD_eq_getElem?_getD, List.getElem?_eq_getElem hk, Option.getD_some]
        exact I64.of_wf (hwz _ (List.mem_of_mem_take (List.getElem_mem hk)))
      · rw [List.getD_eq_getElem?_getD, List.getElem?_eq_none (by omega)]
        exact I64.zero

/-- an argument of the type []int -/
theorem open_SI {v : Value} {d : DataW H} {p : List MemPlace} {bs : Nat} (h : DataW.Trod enc Try.prog W base (fun _ => true) held 22 v d p) (hok : Value.okWide Try.prog W .any bs 22 v)
    (hw : ∀ n ∈ d.weights Try.prog 22, n ≤ reachBytes) : ∃ xs, SI W v xs := by
  obtain ⟨a, len, cap, rfl⟩ := okWide_slice Try.underlying22 hok
  obtain ⟨fuel, hf⟩ := h
  obtain ⟨v', xs, hcs, hs⟩ := open_cells_SI hf hw
  have e : Value.slice a len cap = v' := (List.cons.inj hcs).1
  rw [← e] at hs
  exact ⟨xs, hs⟩
theorem bytesInts : Try.prog.bytesOf 22 = 24 := by kernel_rfl
theorem cellsInts : Try.prog.cellsOf 22 = 1 := by kernel_rfl
theorem mem_weightsAll {e : TypeId} {d : DataW H} {n : Nat} : ∀ {l : List (DataW H)}, d ∈ l → n ∈ d.weights Try.prog e → n ∈ DataW.weightsAll Try.prog e l
  | x :: r, hd, hn => by
    simp only [DataW.weightsAll, List.mem_append]
    rcases List.mem_cons.1 hd with rfl | hd
    · exact .inl hn
    · exact .inr (mem_weightsAll hd hn)
theorem open_cells_SS {fuel : Nat} {cs : List Value} {d : DataW H} {p : List MemPlace} (h : DataW.trod enc Try.prog W base (fun _ => true) held fuel 25 cs = some (d, p))
    (hw : ∀ n ∈ d.weights Try.prog 25, n ≤ reachBytes) : ∃ v xss, cs = [v] ∧ SS W v xss := by
  rcases Go.Deep.open_slice1 Try.underlying25 cellsInts h with ⟨rfl, _⟩ | ⟨a, len, cap, m, n, V, D, Pl, rfl, _, hl, hm, hmm, hx, hr⟩
  · exact ⟨_, [], rfl, SS.none_ W⟩
  · simp only [if_true] at hmm
    have hmm2 := hmm.symm
    subst hmm2
    simp only [Prod.mk.injEq] at hx
    obtain ⟨rfl, _⟩ := hx
    have hreach : cap * 24 ≤ reachBytes := by
      have := hw ((((List.range len).map D).length + ((List.range (cap - len)).map fun j => D (len + j)).length) * Try.prog.bytesOf 22) (by simp [DataW.weights, Try.underlying25])
      rw [bytesInts] at this
      simp only [List.length_map, List.length_range] at this
      rw [show len + (cap - len) = cap by omega] at this
      exact this
    simp only [reachBytes] at hreach
    have each : ∀ k, k < len → ∃ xs, SI W (V k) xs := fun k hk => by
      obtain ⟨v', xs, hcs, hs⟩ := open_cells_SI (hr k (by omega)).2 (fun n hn => hw n (by
        simp only [DataW.weights, Try.underlying25, List.mem_cons, List.mem_append]
        exact .inr (.inl (mem_weightsAll (List.mem_map.2 ⟨k, List.mem_range.2 hk, rfl⟩) hn))))
      have e : V k = v' := (List.cons.inj hcs).1
      rw [← e] at hs
      exact ⟨xs, hs⟩
    obtain ⟨X, hX⟩ := Go.Deep.choose_lt each
    have e : ((List.range len).map X).length = len := by simp
    refine ⟨_, (List.range len).map X, rfl, some a, cap, by rw [e], by omega, by omega, fun k hk => ?_⟩
    rw [e] at hk
    refine ⟨a, V k, rfl, (hr k (by omega)).1, ?_⟩
    have e2 : ((List.range len).map X).getD k [] = X k := by simp [List.getD, hk]
    rw [e2]
    exact hX k hk
/-- an argument of the type [][]int -/
theorem open_SS {v : Value} {d : DataW H} {p : List MemPlace} {bs : Nat} (h : DataW.Trod enc Try.prog W base (fun _ => true) held 25 v d p) (hok : Value.okWide Try.prog W .any bs 25 v)
    (hw : ∀ n ∈ d.weights Try.prog 25, n ≤ reachBytes) : ∃ xss, SS W v xss := by
  obtain ⟨a, len, cap, rfl⟩ := okWide_slice Try.underlying25 hok
  obtain ⟨fuel, hf⟩ := h
  obtain ⟨v', xss, hcs, hs⟩ := open_cells_SS hf hw
  have e : Value.slice a len cap = v' := (List.cons.inj hcs).1
  rw [← e] at hs
  exact ⟨xss, hs⟩
theorem weigh {ts : List TypeId} {ds : List (DataW H)} (h : (DataW.weightsEach Try.prog ts ds).all (· ≤ reachBytes) = true) (j : Nat) {t : TypeId} {d : DataW H} (ht : ts[j]? = some t) (hd : ds[j]? = some d) : ∀ n ∈ d.weights Try.prog t, n ≤ reachBytes := fun n hn => by
  have := List.all_eq_true.1 h n (DataW.weights_mem_each ht hd n hn)
  simpa using this
theorem lt_of_trod {t : TypeId} {v : Value} {d : DataW H} {p : List MemPlace} (h : DataW.Trod enc Try.prog W base (fun _ => true) held t v d p) : ∀ x ∈ p, x.block < W.heap.size := by
  obtain ⟨m, hm⟩ := h
  exact DataW.trod_lt m _ _ _ hm
end
end Go.Proofs.Ytlcgihjdafglmaa

/- ref11.SameLists; law15's alive. -/
namespace Go.Proofs.Ytlcgihjdafglmaa
open Go.RowKit
set_option linter.unusedVariables false
set_option maxRecDepth 100000

theorem eval_known : evalSpec 2 [0, 1] = ([0, 0, 0, 1], 0) := by decide
set_option maxHeartbeats 4000000 in
theorem alive15_any (w : World) : Calls Try.prog 14 #[] w (RetB w true) := by
  have hsi := SI.lit w [0, 1] (by simp) (fun k => by match k with
    | 0 => exact I64.zero
    | 1 => exact I64.one
    | k + 2 => exact I64.zero)
  have HS : Hid (SI (w.alloc (.cells #[.int .i64 0, .int .i64 1] 3)) (.slice (some ⟨w.heap.size, 0, none⟩) 2 2) [0, 1]) := hsi
  clear hsi
  go_enter Try.func14, Try.ntmps14
  go_wp2_with fail
  refine (eval_any _ _ _ [0, 1] HS.out).mono ?_
  rintro e w1 ⟨u, rfl, hs, _, hb1⟩
  rw [eval_known] at hs
  obtain ⟨A, c, rfl, hs⟩ := hs
  obtain ⟨ad, x0, rfl, hc0, _, HX0⟩ := hs.elt0 (by simp)
  obtain ⟨ad', x1, e1, hc1, _, HX1⟩ := hs.eltL 0 (by simp)
  obtain rfl := Option.some.inj e1
  obtain ⟨ad', x2, e2, hc2, _, HX2⟩ := hs.eltL 1 (by simp)
  obtain rfl := Option.some.inj e2
  obtain ⟨ad', x3, e3, hc3, _, HX3⟩ := hs.eltL 2 (by simp)
  obtain rfl := Option.some.inj e3
  obtain rfl : 0 = x0 := HX0.out
  obtain rfl : 0 = x1 := HX1.out
  obtain rfl : 0 = x2 := HX2.out
  obtain rfl : 1 = x3 := HX3.out
  simp only [Nat.zero_add, Nat.reduceAdd] at hc1 hc2 hc3
  have HB1 := Lib.hid hb1; clear hb1 e1 e2 e3 hs
  rw [eval_known]
  go_wp2_with fail
  go_ret
  exact ⟨rfl, bl_trans (bl_alloc _ _) HB1.out⟩
end Go.Proofs.Ytlcgihjdafglmaa

/- The law ClassicResidue returns true for every input. Printed by a program (gen_res.py). -/
namespace Go.Proofs.Ytlcgihjdafglmaa
open Go.RowKit
set_option linter.unusedVariables false
set_option maxRecDepth 100000

set_option maxHeartbeats 16000000 in
theorem lawRes (w : World) (n0 : Int) : Calls Try.prog 3 #[.int .i64 n0] w (RetB w true) := by
  obtain ⟨P, M, Mod, n, gen, er, KC, KR, hlen, hlen2⟩ := res_both n0
  have HLEN := Lib.hid hlen; clear hlen hlen2
  have HB := Lib.hid (bl_refl w)
  go_enter Try.func3, Try.ntmps3
  go_wp2_with fail
  refine (KC.out _).mono ?_
  rintro e y1 ⟨u, gg, rfl, hx, hb1⟩
  replace HB := Lib.hid (bl_trans HB.out hb1)
  obtain ⟨⟨MA, mA, rfl, _⟩, ⟨GA, cA, rfl, _⟩⟩ := hx.out
  have XMA := Lib.hid hx.out.1; have XGA := Lib.hid hx.out.2; clear hx
  change Hid (SI _ (.slice MA Mod.length mA) Mod) at XMA
  change Hid (SS _ (.slice GA gen.length cA) gen) at XGA
  go_upto_region 2 with fail
  obtain ⟨z1, gA, e1, e2, hbx, hbz⟩ := mk_box y1 27 [.int .i64 P, .int .i64 M, .slice MA Mod.length mA, .int .i64 n, .slice GA gen.length cA]
  rw [e1, e2]
  clear e1
  replace XMA := Lib.hid (XMA.out.below hbz (Nat.le_refl _))
  replace XGA := Lib.hid (XGA.out.below hbz (Nat.le_refl _))
  replace HB := Lib.hid (bl_trans HB.out hbz)
  have TA := Lib.hid hbx; clear hbx hbz e2
  go_wp2_with fail
  refine (KR.out _).mono ?_
  rintro e y2 ⟨u, gg, rfl, hx, hb2⟩
  replace TA := Lib.hid (TA.out.belowS hb2)
  replace XMA := Lib.hid (XMA.out.below hb2 (Nat.le_refl _))
  replace XGA := Lib.hid (XGA.out.below hb2 (Nat.le_refl _))
  replace HB := Lib.hid (bl_trans HB.out hb2)
  obtain ⟨⟨MB, mB, rfl, _⟩, ⟨GB, cB, rfl, _⟩⟩ := hx.out
  have XMB := Lib.hid hx.out.1; have XGB := Lib.hid hx.out.2; clear hx
  change Hid (SI _ (.slice MB Mod.length mB) Mod) at XMB
  change Hid (SS _ (.slice GB gen.length cB) gen) at XGB
  go_upto_region 3 with fail
  obtain ⟨z2, gB, e1, e2, hbx, hbz⟩ := mk_box y2 27 [.int .i64 P, .int .i64 M, .slice MB Mod.length mB, .int .i64 n, .slice GB gen.length cB]
  rw [e1, e2]
  clear e1
  replace TA := Lib.hid (TA.out.belowS hbz)
  replace XMA := Lib.hid (XMA.out.below hbz (Nat.le_refl _))
  replace XGA := Lib.hid (XGA.out.below hbz (Nat.le_refl _))
  replace XMB := Lib.hid (XMB.out.below hbz (Nat.le_refl _))
  replace XGB := Lib.hid (XGB.out.below hbz (Nat.le_refl _))
  replace HB := Lib.hid (bl_trans HB.out hbz)
  have TB := Lib.hid hbx; clear hbx hbz e2
  have cTA0 : z2.cell? ⟨gA, 0, none⟩ = some (.int .i64 P) := TA.out.cell 0
  have cTA1 : z2.cell? ⟨gA, 1, none⟩ = some (.int .i64 M) := TA.out.cell 1
  have cTA2 : z2.cell? ⟨gA, 2, none⟩ = some (.slice MA Mod.length mA) := TA.out.cell 2
  have cTA3 : z2.cell? ⟨gA, 3, none⟩ = some (.int .i64 n) := TA.out.cell 3
  have cTA4 : z2.cell? ⟨gA, 4, none⟩ = some (.slice GA gen.length cA) := TA.out.cell 4
  have cTB0 : z2.cell? ⟨gB, 0, none⟩ = some (.int .i64 P) := TB.out.cell 0
  have cTB1 : z2.cell? ⟨gB, 1, none⟩ = some (.int .i64 M) := TB.out.cell 1
  have cTB2 : z2.cell? ⟨gB, 2, none⟩ = some (.slice MB Mod.length mB) := TB.out.cell 2
  have cTB3 : z2.cell? ⟨gB, 3, none⟩ = some (.int .i64 n) := TB.out.cell 3
  have cTB4 : z2.cell? ⟨gB, 4, none⟩ = some (.slice GB gen.length cB) := TB.out.cell 4
  go_wp2_with fail
  refine (same15_true _ P M n er _ _ _ _ Mod gen XMA.out XMB.out XGA.out XGB.out).mono ?_
  rintro e y3 ⟨rfl, hb3⟩
  clear cTA0 cTA1 cTA2 cTA3 cTA4 cTB0 cTB1 cTB2 cTB3 cTB4
  replace TA := Lib.hid (TA.out.belowS hb3)
  replace TB := Lib.hid (TB.out.belowS hb3)
  replace XMA := Lib.hid (XMA.out.below hb3 (Nat.le_refl _))
  replace XGA := Lib.hid (XGA.out.below hb3 (Nat.le_refl _))
  replace XMB := Lib.hid (XMB.out.below hb3 (Nat.le_refl _))
  replace XGB := Lib.hid (XGB.out.below hb3 (Nat.le_refl _))
  replace HB := Lib.hid (bl_trans HB.out hb3)
  by_cases her : er = 0
  case neg =>
    have hb1 : (er != 0) = true := by rw [bne_iff_ne]; exact her
    clear her
    go_wp2_with fail
    refine (alive15_any _).mono ?_
    rintro e y9 ⟨rfl, hb9⟩
    go_wp2_with fail
    go_ret
    exact ⟨rfl, bl_trans HB.out hb9⟩
  subst her
  obtain ⟨⟨hn3, hn64⟩, hl1, _, _⟩ := HLEN.out rfl
  clear HLEN
  have hdv : (n0 + 1) / 2 = (gen.length : Int) := hl1.symm
  have heq : ((gen.length : Int) == (gen.length : Int)) = true := by simp
  clear hl1
  have cTA0 : y3.cell? ⟨gA, 0, none⟩ = some (.int .i64 P) := TA.out.cell 0
  have cTA1 : y3.cell? ⟨gA, 1, none⟩ = some (.int .i64 M) := TA.out.cell 1
  have cTA2 : y3.cell? ⟨gA, 2, none⟩ = some (.slice MA Mod.length mA) := TA.out.cell 2
  have cTA3 : y3.cell? ⟨gA, 3, none⟩ = some (.int .i64 n) := TA.out.cell 3
  have cTA4 : y3.cell? ⟨gA, 4, none⟩ = some (.slice GA gen.length cA) := TA.out.cell 4
  go_wp2_with fail
  clear cTA0 cTA1 cTA2 cTA3 cTA4
  refine (alive15_any _).mono ?_
  rintro e y9 ⟨rfl, hb9⟩
  go_wp2_with fail
  go_ret
  exact ⟨rfl, bl_trans HB.out hb9⟩
end Go.Proofs.Ytlcgihjdafglmaa

/- ClassicResidue: the law returns true for every input; each argument reads behind the call as it read before. The walk is in LRes. -/
namespace Go.Proofs.Ytlcgihjdafglmaa.classicResidue
open Go.ChangeShapes Go.WideShapes Go.ChangeAt Go.RowKit
set_option linter.unusedVariables false

set_option maxRecDepth 100000 in
theorem lifted (os : Os) (started : os.Started) (H : Type) (enc : TypeId × Value → H) :
    ReturnsInHanded {} Try.checked os 3 .any (Rows.classicResidueSpec.pre6 enc Try.prog Try.f3 Rows.classicResidueRow.domain false) (Rows.classicResidueSpec.post enc Try.prog Try.f3 false true false false) := by
  refine returnsInHanded_of_change_sized (C := Try.checked) own started (by kernel_rfl) Try.func3
    (ChangeSpec.witness6 (enc := enc) (C := Try.checked) false ⟨#[], #[.int .i64 0], []⟩ 8 (by kernel_rfl) (by kernel_rfl) (by kernel_rfl) (by kernel_rfl)) ?_
  intro W base args ds gs before hval0 hW _ hsz0 _
  have hsz : (DataW.weightsEach Try.prog (Try.f3.params.toList ++ Rows.classicResidueSpec.plain.varTypes Try.prog) (ds ++ gs)).all (· ≤ reachBytes) = true := hsz0
  have hval : ∀ (j : Nat) t v, Try.f3.params[j]? = some t → args[j]? = some v → Value.okWide Try.prog W .any base t v := hval0
  have hW' := hW
  obtain ⟨p, q, hA0, hV, rfl, hfz, hnd⟩ := hW
  have hA : DataW.TrodAll enc Try.prog W 0 (fun _ => true) true Try.f3.params.toList args.toList ds p := hA0
  rw [Try.params3] at hA hval hsz
  obtain ⟨v0, vs0, d0, ds0, p0, q0, hargs, rfl, rfl, h0, r0'⟩ := trodAll_cons hA
  obtain ⟨rfl, rfl, rfl⟩ := trodAll_nil r0'
  obtain rfl : args = #[v0] := by cases args; simp_all
  obtain ⟨rfl, rfl⟩ := trodVars_none hV
  obtain ⟨a0, rfl, rfl, rfl, w0⟩ := open_int Try.underlying3 (hval 0 3 v0 rfl rfl) h0
  clear hA0 hval0
  refine (lawRes W a0).mono fun e W' ⟨he, bel⟩ => ?_
  subst he
  exact ⟨_, rfl, _, _, _, [], _, [], hW', trodAll_mk1 (shut_bool Try.underlying4 _), (trodAll_cons_mk (shut_int Try.underlying3 w0) trodAll_mk0), rfl, bel.frame _, fun h => by cases h⟩

theorem proved : Rows.ClassicResidueSaid :=
  OpenClaim.holds_of_wide 3 Try.f3 rfl rfl rfl rfl rfl rfl rfl ⟨rfl, rfl, rfl, rfl, rfl⟩ rfl rfl rfl rfl rfl (by kernel_rfl) Try.func3 (by kernel_rfl)
    (of_decide_eq_true (by kernel_rfl)) (by unfold Func.isWrapper; first | (rw [if_pos (by decide +kernel)]; kernel_rfl) | (rw [if_neg (by decide +kernel)]; exact ⟨rfl, rfl⟩))
    (fun os started H enc _ => lifted os started H enc)
#print axioms proved
end Go.Proofs.Ytlcgihjdafglmaa.classicResidue
