/- Texts of a claim, merged: words, plain facts and walks that the last of its texts uses. -/
import Derived.Test.YtgabhlalamnbgaaQ1
import Derived.Test.YtgabhlalamnbgaaQ2
import Derived.Test.YtgabhlalamnbgaaQ3
import Derived.Test.YtgabhlalamnbgaaQ4
import Derived.Test.YtgabhlalamnbgaaQ5
import Derived.Deep.CutRange
import Derived.Lib.LazyBuf
import Derived.WalkSpells
set_option linter.unusedSimpArgs false
set_option linter.unusedVariables false

/- field.New. -/
namespace Go.Proofs.Ytgabhlalamnbgaa
open Go.RowKit
set_option linter.unusedVariables false
set_option maxRecDepth 100000

/-- block a is a field of the program -/
structure GFat (w : World) (a : Nat) (P M : Int) (Mod : List Int) (q : Nat) (mv : Value) (ge ce gl cl : Nat) (E L : List Int) : Prop where
  c0 : w.cell? ⟨a, 0, none⟩ = some (.int .i64 P)
  c1 : w.cell? ⟨a, 1, none⟩ = some (.int .i64 M)
  c2 : w.cell? ⟨a, 2, none⟩ = some mv
  c3 : w.cell? ⟨a, 3, none⟩ = some (.int .i64 (q : Int))
  c4 : w.cell? ⟨a, 4, none⟩ = some (.slice (some ⟨ge, 0, none⟩) (q - 1) ce)
  c5 : w.cell? ⟨a, 5, none⟩ = some (.slice (some ⟨gl, 0, none⟩) q cl)
  mod : SI w mv Mod
  exp : ∀ k, k < q - 1 → w.cell? ⟨ge, k, none⟩ = some (.int .i64 (E.getD k 0))
  log : ∀ k, k < q → w.cell? ⟨gl, k, none⟩ = some (.int .i64 (L.getD k 0))
  tab : TabP (refOps P M Mod) q E L
  fld : FieldP P M Mod
  ord : orderF P M = (q : Int)
def GF (w : World) (a : Nat) (P M : Int) (Mod : List Int) : Prop := ∃ q mv ge ce gl cl E L, GFat w a P M Mod q mv ge ce gl cl E L
theorem GFat.keep {w w' : World} {a : Nat} {P M : Int} {Mod : List Int} {q : Nat} {mv : Value} {ge ce gl cl : Nat} {E L : List Int} (h : GFat w a P M Mod q mv ge ce gl cl E L) (hk : ∀ p : Addr, p.block < w.heap.size → w'.cell? p = w.cell? p) : GFat w' a P M Mod q mv ge ce gl cl E L :=
  have key : ∀ {p : Addr} {v : Value}, w.cell? p = some v → w'.cell? p = some v := fun h => (hk _ (World.block_lt_of_cell? _ _ h)).trans h
  ⟨key h.c0, key h.c1, key h.c2, key h.c3, key h.c4, key h.c5, h.mod.keep hk, fun k hk' => key (h.exp k hk'), fun k hk' => key (h.log k hk'), h.tab, h.fld, h.ord⟩
theorem GF.keep {w w' : World} {a : Nat} {P M : Int} {Mod : List Int} (h : GF w a P M Mod) (hk : ∀ p : Addr, p.block < w.heap.size → w'.cell? p = w.cell? p) : GF w' a P M Mod := by
  obtain ⟨q, mv, ge, ce, gl, cl, E, L, h⟩ := h
  exact ⟨q, mv, ge, ce, gl, cl, E, L, h.keep hk⟩
theorem GF.below {w w' : World} {a : Nat} {P M : Int} {Mod : List Int} {B : Nat} (h : GF w a P M Mod) (hb : Below B w w') (hB : w.heap.size ≤ B) : GF w' a P M Mod := h.keep fun _ hp => hb.cell (Nat.lt_of_lt_of_le hp hB)
theorem GF.on {w w' : World} {a : Nat} {P M : Int} {Mod : List Int} (h : GF w a P M Mod) (hb : Below w.heap.size w w') : GF w' a P M Mod := h.below hb (Nat.le_refl _)
theorem GF.lt {w : World} {a : Nat} {P M : Int} {Mod : List Int} (h : GF w a P M Mod) : a < w.heap.size := by
  obtain ⟨q, mv, ge, ce, gl, cl, E, L, h⟩ := h
  exact World.block_lt_of_cell? _ _ h.c0
theorem GF.fld {w : World} {a : Nat} {P M : Int} {Mod : List Int} (h : GF w a P M Mod) : FieldP P M Mod := by
  obtain ⟨q, mv, ge, ce, gl, cl, E, L, h⟩ := h
  exact h.fld
/-- the field, in new memory -/
theorem GF.sep {B : Nat} {w : World} {a : Nat} {P M : Int} {Mod E L : List Int} {q : Nat} {mv : Value} {ge ce gl cl : Nat} (ha : B ≤ a)
    (hb : Blk w a 118 [.int .i64 P, .int .i64 M, mv, .int .i64 (q : Int), .slice (some ⟨ge, 0, none⟩) (q - 1) ce, .slice (some ⟨gl, 0, none⟩) q cl])
    (hm : OI B w mv Mod) (hml : Mod.length ≤ 17592186044416) (hmw : ∀ k, I64 (Mod.getD k 0)) (he : OI B w (.slice (some ⟨ge, 0, none⟩) (q - 1) ce) E) (hl : RI w gl L) (hgl : B ≤ gl)
    (ht : TabP (refOps P M Mod) q E L) (hf : FieldP P M Mod) (ho : orderF P M = (q : Int)) : Sep B w fun w2 => GF w2 a P M Mod := fun w2 h2 => by
  have hal := hb.lt
  have ca : ∀ i, w2.cell? ⟨a, i, none⟩ = w.cell? ⟨a, i, none⟩ := fun i => h2 ⟨a, i, none⟩ ha hal
  have hge : B ≤ ge ∧ ge < w.heap.size := he.lt rfl
  refine ⟨q, mv, ge, ce, gl, cl, E, L, (ca 0).trans (hb.cell 0), (ca 1).trans (hb.cell 1), (ca 2).trans (hb.cell 2), (ca 3).trans (hb.cell 3), (ca 4).trans (hb.cell 4), (ca 5).trans (hb.cell 5), (hm.sep hml hmw) w2 h2, fun k hk => ?_, fun k hk => ?_, ht, hf, ho⟩
  · rw [h2 ⟨ge, k, none⟩ hge.1 hge.2]
    exact he.cell k (by rw [ht.el]; exact hk)
  · rw [h2 ⟨gl, k, none⟩ hgl hl.lt]
    exact hl.cell k (by rw [ht.ll]; exact hk)

/-- New's results -/
def RetG (w : World) (P M : Int) (Mod : List Int) (e : Ending) (w' : World) : Prop := ∃ a, e = .returned (.tuple #[.pointer (some ⟨a, 0, none⟩), .int .i64 0]) ∧ Sep w.heap.size w' (fun w2 => GF w2 a P M Mod) ∧ Below w.heap.size w w'
def RetG0 (w : World) (e : Ending) (w' : World) : Prop := e = .returned (.tuple #[.pointer none, .int .i64 1]) ∧ Below w.heap.size w w'

set_option maxHeartbeats 8000000 in
theorem new_no (w : World) (P M : Int) (mv : Value) (Mod : List Int) (h : SI w mv Mod) (hf : ¬ FieldP P M Mod) :
    Calls Try.prog 86 #[.agg #[.int .i64 P, .int .i64 M, mv]] w (RetG0 w) := by
  have HM := Lib.hid h; clear h
  have HF := Lib.hid (FBox.mk' w P M mv)
  by_cases hs : ShapeP P M Mod
  · have HG : Hid (genL (refOps P M Mod) (orderF P M) = []) := gen_none hs hf
    have HS := Lib.hid hs
    have HSB : Hid (shapeB P M Mod = true) := shapeB_true hs
    have hq2 := one_lt_order hs.1
    have hqb := orderF_bounds P M
    generalize hq : orderF P M = q at HG hq2 hqb
    have HQ := Lib.hid hq; clear hq hs hf
    go_enter Try.func86, Try.ntmps86
    go_wp2_with fail
    obtain ⟨w0, hw0⟩ : ∃ w0, w0 = w.alloc (.cells #[.int .i64 P, .int .i64 M, mv] 32) := ⟨_, rfl⟩
    rw [← hw0] at HF ⊢
    clear hw0
    have c0 := HF.out.c0; have c1 := HF.out.c1; have c2 := HF.out.c2
    go_wp2_with fail
    refine (shape_any _ P M mv Mod (HM.out.below HF.out.bel (Nat.le_refl _))).mono ?_
    rintro e w1 ⟨rfl, hb1⟩
    rw [HSB.out]
    have HF1 := Lib.hid (HF.out.on hb1); clear hb1 c0 c1 c2
    have c0 := HF1.out.c0; have c1 := HF1.out.c1; have c2 := HF1.out.c2
    go_wp2_with fail
    refine (forder_any _ _ _).mono ?_
    rintro e w2 ⟨rfl, rfl⟩
    go_wp2_with fail
    refine (generator_any _ P M mv Mod (HM.out.below HF1.out.bel (Nat.le_refl _)) HS.out).mono ?_
    rintro e w2 ⟨u, rfl, _, hn, hb2⟩
    obtain rfl := hn (by rw [HQ.out]; exact HG.out)
    have hnil := fun (w : World) (l c : Nat) => run_eql_slice_nil (P := Try.prog) w 25 3 none l c Try.underlying25
    have HF2 := Lib.hid (HF1.out.on hb2); clear hb2 c0 c1 c2 hn
    go_wp2_with fail
    go_ret2
    exact ⟨rfl, HF2.out.bel⟩
  · have HSB : Hid (shapeB P M Mod = false) := shapeB_false hs
    clear hs hf
    go_enter Try.func86, Try.ntmps86
    go_wp2_with fail
    obtain ⟨w0, hw0⟩ : ∃ w0, w0 = w.alloc (.cells #[.int .i64 P, .int .i64 M, mv] 32) := ⟨_, rfl⟩
    rw [← hw0] at HF ⊢
    clear hw0
    have c0 := HF.out.c0; have c1 := HF.out.c1; have c2 := HF.out.c2
    go_wp2_with fail
    refine (shape_any _ P M mv Mod (HM.out.below HF.out.bel (Nat.le_refl _))).mono ?_
    rintro e w1 ⟨rfl, hb1⟩
    rw [HSB.out]
    have HF1 := Lib.hid (HF.out.on hb1); clear hb1 c0 c1 c2
    go_wp2_with fail
    go_ret2
    exact ⟨rfl, HF1.out.bel⟩

set_option maxHeartbeats 16000000 in
theorem new_ok (w : World) (P M : Int) (mv : Value) (Mod : List Int) (h : SI w mv Mod) (hf : FieldP P M Mod) :
    Calls Try.prog 86 #[.agg #[.int .i64 P, .int .i64 M, mv]] w (RetG w P M Mod) := by
  have HM := Lib.hid h; clear h
  have HF := Lib.hid (FBox.mk' w P M mv)
  have hs : ShapeP P M Mod := ⟨hf.1, hf.2.1, hf.2.2.1⟩
  have hO := ref_fld hf
  obtain ⟨x, hx, hord, hgen⟩ := gen_field hO
  have HSB : Hid (shapeB P M Mod = true) := shapeB_true hs
  have hq2 := one_lt_order hs.1
  have hqb := orderF_bounds P M
  have hml : Mod.length ≤ 100000 := by
    obtain ⟨h1, h2⟩ := hs.2.2
    obtain ⟨_, _, h3, h4, _, _⟩ := order_ne hs.1
    by_cases e : M = 1
    · rw [h1 e]; simp
    · have := (h2 e).1; omega
  obtain ⟨q, hq⟩ : ∃ q : Nat, orderF P M = (q : Int) := ⟨(orderF P M).toNat, by omega⟩
  have HQ := Lib.hid hq
  rw [hq] at hx hord hgen hq2 hqb hO
  rw [Int.toNat_natCast] at hord hgen
  have HT := Lib.hid (tab_of hO hx hord)
  have hq1 : 1 < q := by omega
  have hq256 : q ≤ 256 := by omega
  have HGE : Hid (genL (refOps P M Mod) (orderF P M) = (List.range (q - 1)).map (powO (refOps P M Mod) x)) := by show _ = _; rw [hq]; exact hgen
  obtain ⟨E, hE⟩ : ∃ E, E = (List.range (q - 1)).map (powO (refOps P M Mod) x) := ⟨_, rfl⟩
  rw [← hE] at HT HGE
  have HS := Lib.hid hs; have HFLD := Lib.hid hf
  clear hE hgen hord hx hs hf hq hO
  have hEl : E.length = q - 1 := HT.out.el
  have HEU : Hid (∀ k, k < q - 1 → 0 ≤ E.getD k 0 ∧ E.getD k 0 < (q : Int)) := hid' fun k hk => by
    have := HT.out.unit (by rw [← HQ.out]; exact ref_fld HFLD.out) hk
    have h1 := this.1; have h2 := this.2; omega
  have HEL := Lib.hid hEl; clear hEl
  have hmki := fun (w : World) => run_mkI q (by omega) w
  go_enter Try.func86, Try.ntmps86
  go_wp2_with fail
  obtain ⟨w0, hw0⟩ : ∃ w0, w0 = w.alloc (.cells #[.int .i64 P, .int .i64 M, mv] 32) := ⟨_, rfl⟩
  rw [← hw0] at HF ⊢
  clear hw0
  have c0 := HF.out.c0; have c1 := HF.out.c1; have c2 := HF.out.c2
  go_wp2_with fail
  refine (shape_any _ P M mv Mod (HM.out.below HF.out.bel (Nat.le_refl _))).mono ?_
  rintro e w1 ⟨rfl, hb1⟩
  rw [HSB.out]
  have HF1 := Lib.hid (HF.out.on hb1); clear hb1 c0 c1 c2
  have c0 := HF1.out.c0; have c1 := HF1.out.c1; have c2 := HF1.out.c2
  go_wp2_with fail
  refine (forder_any _ _ _).mono ?_
  rintro e w2 ⟨rfl, rfl⟩
  go_wp2_with fail
  refine (generator_any _ P M mv Mod (HM.out.below HF1.out.bel (Nat.le_refl _)) HS.out).mono ?_
  rintro e w2 ⟨u, rfl, hou, _, hb2⟩
  rw [HGE.out] at hou
  obtain ⟨ge, ce, rfl, hge1, hge2⟩ := hou.form (by rw [HEL.out]; omega)
  rw [HEL.out] at hou ⊢
  have HE2 := Lib.hid (hou.mono HF1.out.bel.size)
  have HF2 := Lib.hid (HF1.out.on hb2); clear hb2 c0 c1 c2 hou
  have hnil := fun (w : World) (l c : Nat) => run_eql_slice_nil (P := Try.prog) w 25 3 (some ⟨ge, 0, none⟩) l c Try.underlying25
  rw [HQ.out]
  have c0 := HF2.out.c0; have c1 := HF2.out.c1; have c2 := HF2.out.c2
  go_upto_region 7 with fail
  clear hnil
  go_cut [6] from 22 to 36 (fun t6 wc => ∃ a mv2 gl, t6 = .pointer (some ⟨a, 0, none⟩) ∧ w2.heap.size ≤ a ∧ w2.heap.size ≤ gl ∧ a ≠ gl ∧ Hid (Blk wc a 118 [.int .i64 P, .int .i64 M, mv2, .int .i64 (q : Int), .slice (some ⟨ge, 0, none⟩) (q - 1) ce, .slice (some ⟨gl, 0, none⟩) q q]) ∧ Hid (OI w2.heap.size wc mv2 Mod) ∧ Hid (RI wc gl (List.replicate q 0)) ∧ Hid (∀ g, mv2.ownBlock = some g → g ≠ gl) ∧ Hid (Below w2.heap.size w2 wc))
  case first =>
    refine Kept.start (S := fun w' => w'.cell? ⟨w.heap.size, 0, none⟩ = some (.int .i64 P) ∧ w'.cell? ⟨w.heap.size, 1, none⟩ = some (.int .i64 M) ∧ w'.cell? ⟨w.heap.size, 2, none⟩ = some mv) (by kernel_rfl) (⟨c0, c1, c2⟩) (fun hHeld => ?_)
    change Kept _ _ _ _ 16 _ _ _
    have hdrew := bl_drew w2
    generalize w2.drew = wq1 at hdrew hHeld ⊢
    have HB := Lib.hid hdrew
    clear c0 c1 c2
    clear hdrew
    refine Kept.take (i := 0) (v := ?_) rfl (by kernel_rfl) (by kernel_rfl) (by kernel_rfl) (fun _ _ _ h => h) (Or.inl ⟨by kernel_rfl, ?_⟩) hHeld ?_
    rotate_left
    · intro w' hSw; (try dsimp only at hSw); first | (go_simp; done) | (go_simp; with_reducible rfl)
    try simp only [List.getElem_toArray, List.getElem_cons_zero, List.getElem_cons_succ, Act.put, List.setIfInBounds_toArray, List.set_cons_zero, List.set_cons_succ]
    refine Kept.take (i := 1) (v := ?_) rfl (by kernel_rfl) (by kernel_rfl) (by kernel_rfl) (fun _ _ _ h => h) (Or.inl ⟨by kernel_rfl, ?_⟩) hHeld ?_
    rotate_left
    · intro w' hSw; (try dsimp only at hSw); first | (go_simp; done) | (go_simp; with_reducible rfl)
    try simp only [List.getElem_toArray, List.getElem_cons_zero, List.getElem_cons_succ, Act.put, List.setIfInBounds_toArray, List.set_cons_zero, List.set_cons_succ]
    refine Kept.take (i := 2) (v := ?_) rfl (by kernel_rfl) (by kernel_rfl) (by kernel_rfl) (fun _ _ _ h => h) (Or.inl ⟨by kernel_rfl, ?_⟩) hHeld ?_
    rotate_left
    · intro w' hSw; (try dsimp only at hSw); first | (go_simp; done) | (go_simp; with_reducible rfl)
    try simp only [List.getElem_toArray, List.getElem_cons_zero, List.getElem_cons_succ, Act.put, List.setIfInBounds_toArray, List.set_cons_zero, List.set_cons_succ]
    refine Kept.take (i := 3) (v := ?_) rfl (by kernel_rfl) (by kernel_rfl) (by kernel_rfl) (fun _ _ _ h => h) (Or.inl ⟨by kernel_rfl, ?_⟩) hHeld ?_
    rotate_left
    · intro w' hSw; (try dsimp only at hSw); first | (go_simp; done) | (go_simp; with_reducible rfl)
    try simp only [List.getElem_toArray, List.getElem_cons_zero, List.getElem_cons_succ, Act.put, List.setIfInBounds_toArray, List.set_cons_zero, List.set_cons_succ]
    refine Kept.take (i := 5) (v := ?_) rfl (by kernel_rfl) (by kernel_rfl) (by kernel_rfl) (fun _ _ _ h => h) (Or.inl ⟨by kernel_rfl, ?_⟩) hHeld ?_
    rotate_left
    · intro w' hSw; (try dsimp only at hSw); first | (go_simp; done) | (go_simp; with_reducible rfl)
    try simp only [List.getElem_toArray, List.getElem_cons_zero, List.getElem_cons_succ, Act.put, List.setIfInBounds_toArray, List.set_cons_zero, List.set_cons_succ]
    refine Kept.take (i := 6) (v := ?_) rfl (by kernel_rfl) (by kernel_rfl) (by kernel_rfl) (fun _ _ _ h => h) (Or.inl ⟨by kernel_rfl, ?_⟩) hHeld ?_
    rotate_left
    · intro w' hSw; (try dsimp only at hSw); first | (go_simp; done) | (go_simp; with_reducible rfl)
    try simp only [List.getElem_toArray, List.getElem_cons_zero, List.getElem_cons_succ, Act.put, List.setIfInBounds_toArray, List.set_cons_zero, List.set_cons_succ]
    refine Kept.take (i := 9) (v := ?_) rfl (by kernel_rfl) (by kernel_rfl) (by kernel_rfl) (fun _ _ _ h => h) (Or.inl ⟨by kernel_rfl, ?_⟩) hHeld ?_
    rotate_left
    · intro w' hSw; (try dsimp only at hSw); first | (go_simp; done) | (go_simp; with_reducible rfl)
    try simp only [List.getElem_toArray, List.getElem_cons_zero, List.getElem_cons_succ, Act.put, List.setIfInBounds_toArray, List.set_cons_zero, List.set_cons_succ]
    refine Kept.take (i := 10) (v := ?_) rfl (by kernel_rfl) (by kernel_rfl) (by kernel_rfl) (fun _ _ _ h => h) (Or.inl ⟨by kernel_rfl, ?_⟩) hHeld ?_
    rotate_left
    · intro w' hSw; (try dsimp only at hSw); first | (go_simp; done) | (go_simp; with_reducible rfl)
    try simp only [List.getElem_toArray, List.getElem_cons_zero, List.getElem_cons_succ, Act.put, List.setIfInBounds_toArray, List.set_cons_zero, List.set_cons_succ]
    refine Kept.take (i := 11) (v := ?_) rfl (by kernel_rfl) (by kernel_rfl) (by kernel_rfl) (fun _ _ _ h => h) (Or.inl ⟨by kernel_rfl, ?_⟩) hHeld ?_
    rotate_left
    · intro w' hSw; (try dsimp only at hSw); first | (go_simp; done) | (go_simp; with_reducible rfl)
    try simp only [List.getElem_toArray, List.getElem_cons_zero, List.getElem_cons_succ, Act.put, List.setIfInBounds_toArray, List.set_cons_zero, List.set_cons_succ]
    refine Kept.two (i := 4) (j := 12) (oi := ?opa2) (oj := ?opb2) (by kernel_rfl) ?hoa2 ?hob2 (fun K hK => ?way12) (fun K hK => ?way22)
    case hoa2 => (conv => lhs; simp only [List.getElem?_toArray, List.getElem?_cons_succ, List.getElem?_cons_zero])
    case hob2 => (conv => lhs; simp only [List.getElem?_toArray, List.getElem?_cons_succ, List.getElem?_cons_zero])
    case way12 =>
      go_simp
      obtain ⟨wq3, gE, e1, e2, hX, hb⟩ := mk_empty wq1
      rw [e1, e2]
      have HE0 := Lib.hid (hX.mono (B' := w2.heap.size) (by have := HB.out.size; omega))
      
      
      replace HB := Lib.hid (bl_trans HB.out hb)
      clear e1 e2 hX hb
      refine hK.out _ _ ((fun h => ⟨h.c0, h.c1, h.c2⟩) (HF2.out.on HB.out)) (fun hHeld2 => ?_)
      clear hK K
      replace hHeld := hHeld2
      clear hHeld2
      try simp only [List.getElem_toArray, List.getElem_cons_zero, List.getElem_cons_succ, Act.put, List.setIfInBounds_toArray, List.set_cons_zero, List.set_cons_succ]
      refine Kept.two (i := 7) (j := 12) (oi := ?opa4) (oj := ?opb4) (by kernel_rfl) ?hoa4 ?hob4 (fun K hK => ?way14) (fun K hK => ?way24)
      case hoa4 => (conv => lhs; simp only [List.getElem?_toArray, List.getElem?_cons_succ, List.getElem?_cons_zero])
      case hob4 => (conv => lhs; simp only [List.getElem?_toArray, List.getElem?_cons_succ, List.getElem?_cons_zero])
      case way14 =>
        refine step_catI rfl _ _ rfl w2.heap.size _ _ rfl HE0.out _ Mod rfl ((HM.out.below HF2.out.bel (Nat.le_refl _)).below HB.out (Nat.le_refl _)) (by simp; omega) HB.out.size ?_
        intro v2 wq5 ho hg hv2
        rw [List.nil_append] at ho
        obtain ⟨A2, k2, rfl⟩ := ho.form'
        
        
        
        have HA := Lib.hid ho
        replace HB := Lib.hid (HE0.out.bgrown HB.out HB.out.size hg)
        clear ho hg hv2 HE0 
        refine hK.out _ _ ((fun h => ⟨h.c0, h.c1, h.c2⟩) (HF2.out.on HB.out)) (fun hHeld2 => ?_)
        clear hK K
        replace hHeld := hHeld2
        clear hHeld2
        try simp only [List.getElem_toArray, List.getElem_cons_zero, List.getElem_cons_succ, Act.put, List.setIfInBounds_toArray, List.set_cons_zero, List.set_cons_succ]
        refine Kept.take (i := 8) (v := ?_) rfl (by kernel_rfl) (by kernel_rfl) (by kernel_rfl) (fun _ _ _ h => h) (Or.inl ⟨by kernel_rfl, ?_⟩) hHeld ?_
        rotate_left
        · intro w' hSw; (try dsimp only at hSw); first | (go_simp; done) | (go_simp; with_reducible rfl)
        try simp only [List.getElem_toArray, List.getElem_cons_zero, List.getElem_cons_succ, Act.put, List.setIfInBounds_toArray, List.set_cons_zero, List.set_cons_succ]
        refine Kept.only (i := 12) (o := ?op6) (by kernel_rfl) ?ho6 (fun K hK => ?_)
        case ho6 => (conv => lhs; simp only [List.getElem?_toArray, List.getElem?_cons_succ, List.getElem?_cons_zero])
        go_simp
        obtain ⟨wq7, gl, e1, e2, hX, hb⟩ := mk_row wq5 q
        rw [e1, e2]
        have HL := Lib.hid hX
        have HLB : w2.heap.size ≤ gl := (by have := HB.out.size; omega)
        have HNE : Hid (∀ g, (Value.slice A2 Mod.length k2).ownBlock = some g → g ≠ gl) := hid' fun g hg => (by have h1 := (HA.out.lt hg).2; omega) 
         
        replace HA := Lib.hid (HA.out.below hb (Nat.le_refl _)) 
         
        replace HB := Lib.hid (bl_trans HB.out hb)
        clear e1 e2 hX hb
        refine hK.out _ _ ((fun h => ⟨h.c0, h.c1, h.c2⟩) (HF2.out.on HB.out)) (fun hHeld2 => ?_)
        clear hK K
        replace hHeld := hHeld2
        clear hHeld2
        try simp only [List.getElem_toArray, List.getElem_cons_zero, List.getElem_cons_succ, Act.put, List.setIfInBounds_toArray, List.set_cons_zero, List.set_cons_succ]
        refine Kept.take (i := 13) (v := ?_) rfl (by kernel_rfl) (by kernel_rfl) (by kernel_rfl) (fun _ _ _ h => h) (Or.inl ⟨by kernel_rfl, ?_⟩) hHeld ?_
        rotate_left
        · intro w' hSw; (try dsimp only at hSw); first | (go_simp; done) | (go_simp; with_reducible rfl)
        try simp only [List.getElem_toArray, List.getElem_cons_zero, List.getElem_cons_succ, Act.put, List.setIfInBounds_toArray, List.set_cons_zero, List.set_cons_succ]
        refine Kept.only (i := 14) (o := ?op8) (by kernel_rfl) ?ho8 (fun K hK => ?_)
        case ho8 => (conv => lhs; simp only [List.getElem?_toArray, List.getElem?_cons_succ, List.getElem?_cons_zero])
        go_simp
        obtain ⟨wq9, ga, e1, e2, hX, hb⟩ := mk_box wq7 118 [.int .i64 P, .int .i64 M, .slice A2 Mod.length k2, .int .i64 (q : Int), .slice (some ⟨ge, 0, none⟩) (q - 1) ce, .slice (some ⟨gl, 0, none⟩) q q]
        rw [e1, e2]
        have HG := Lib.hid hX
        have hga : w2.heap.size ≤ ga := (by have := HB.out.size; omega)
        have hgl : ga ≠ gl := (by have := HL.out.lt; omega)
        replace HA := Lib.hid (HA.out.below hb (Nat.le_refl _))
        replace HL := Lib.hid (HL.out.belowS hb)
        replace HB := Lib.hid (bl_trans HB.out hb)
        clear e1 e2 hX hb
        refine hK.out _ _ ((fun h => ⟨h.c0, h.c1, h.c2⟩) (HF2.out.on HB.out)) (fun hHeld2 => ?_)
        clear hK K
        replace hHeld := hHeld2
        clear hHeld2
        try simp only [List.getElem_toArray, List.getElem_cons_zero, List.getElem_cons_succ, Act.put, List.setIfInBounds_toArray, List.set_cons_zero, List.set_cons_succ]
        refine Kept.only (i := 15) (by kernel_rfl) rfl (fun K hK => ?_)
        go_simp
        refine hK.out _ _ hHeld (fun hHeld2 => ?_)
        clear hK K
        clear hHeld2
        refine Kept.done (by kernel_rfl) ?_
        try simp only [List.getElem_toArray, List.getElem_cons_zero, List.getElem_cons_succ, Act.put, List.setIfInBounds_toArray, List.set_cons_zero, List.set_cons_succ]
        clear hHeld
        go_wp2_with fail
        go_meet
        exact ⟨ga, _, gl, rfl, hga, HLB, hgl, HG, HA, HL, HNE, HB⟩
      case way24 =>
        go_simp
        obtain ⟨wq10, gl, e1, e2, hX, hb⟩ := mk_row wq3 q
        rw [e1, e2]
        have HL := Lib.hid hX
        have HLB : w2.heap.size ≤ gl := (by have := HB.out.size; omega)
        
        have HNE : Hid (∀ g, (Value.slice (some ⟨gE, 0, none⟩) 0 0).ownBlock = some g → g ≠ gl) := hid' fun g hg => (by have h1 := (HE0.out.lt hg).2; omega)  
        
        replace HE0 := Lib.hid (HE0.out.below hb (Nat.le_refl _))  
        replace HB := Lib.hid (bl_trans HB.out hb)
        clear e1 e2 hX hb
        refine hK.out _ _ ((fun h => ⟨h.c0, h.c1, h.c2⟩) (HF2.out.on HB.out)) (fun hHeld2 => ?_)
        clear hK K
        replace hHeld := hHeld2
        clear hHeld2
        try simp only [List.getElem_toArray, List.getElem_cons_zero, List.getElem_cons_succ, Act.put, List.setIfInBounds_toArray, List.set_cons_zero, List.set_cons_succ]
        refine Kept.only (i := 7) (o := ?op11) (by kernel_rfl) ?ho11 (fun K hK => ?_)
        case ho11 => (conv => lhs; simp only [List.getElem?_toArray, List.getElem?_cons_succ, List.getElem?_cons_zero])
        refine step_catI rfl _ _ rfl w2.heap.size _ _ rfl HE0.out _ Mod rfl ((HM.out.below HF2.out.bel (Nat.le_refl _)).below HB.out (Nat.le_refl _)) (by simp; omega) HB.out.size ?_
        intro v2 wq12 ho hg hv2
        rw [List.nil_append] at ho
        obtain ⟨A2, k2, rfl⟩ := ho.form'
        have hne0 : some gl ≠ (Value.slice (some ⟨gE, 0, none⟩) 0 0).ownBlock := fun e => HNE.out gl e.symm rfl 
        replace HNE : Hid (∀ g, (Value.slice A2 Mod.length k2).ownBlock = some g → g ≠ gl) := hid' (fun g hg2 => hv2.elim (fun h => HNE.out g (h ▸ hg2)) (fun h => (by have h0 := HL.out.lt; rw [h] at hg2; have h3 := Option.some.inj hg2; omega))) 
        replace HL := Lib.hid (HL.out.grown hg hne0) 
        have HA := Lib.hid ho
        replace HB := Lib.hid (HE0.out.bgrown HB.out HB.out.size hg)
        clear ho hg hv2 HE0 hne0 
        refine hK.out _ _ ((fun h => ⟨h.c0, h.c1, h.c2⟩) (HF2.out.on HB.out)) (fun hHeld2 => ?_)
        clear hK K
        replace hHeld := hHeld2
        clear hHeld2
        try simp only [List.getElem_toArray, List.getElem_cons_zero, List.getElem_cons_succ, Act.put, List.setIfInBounds_toArray, List.set_cons_zero, List.set_cons_succ]
        refine Kept.take (i := 8) (v := ?_) rfl (by kernel_rfl) (by kernel_rfl) (by kernel_rfl) (fun _ _ _ h => h) (Or.inl ⟨by kernel_rfl, ?_⟩) hHeld ?_
        rotate_left
        · intro w' hSw; (try dsimp only at hSw); first | (go_simp; done) | (go_simp; with_reducible rfl)
        try simp only [List.getElem_toArray, List.getElem_cons_zero, List.getElem_cons_succ, Act.put, List.setIfInBounds_toArray, List.set_cons_zero, List.set_cons_succ]
        refine Kept.take (i := 13) (v := ?_) rfl (by kernel_rfl) (by kernel_rfl) (by kernel_rfl) (fun _ _ _ h => h) (Or.inl ⟨by kernel_rfl, ?_⟩) hHeld ?_
        rotate_left
        · intro w' hSw; (try dsimp only at hSw); first | (go_simp; done) | (go_simp; with_reducible rfl)
        try simp only [List.getElem_toArray, List.getElem_cons_zero, List.getElem_cons_succ, Act.put, List.setIfInBounds_toArray, List.set_cons_zero, List.set_cons_succ]
        refine Kept.only (i := 14) (o := ?op13) (by kernel_rfl) ?ho13 (fun K hK => ?_)
        case ho13 => (conv => lhs; simp only [List.getElem?_toArray, List.getElem?_cons_succ, List.getElem?_cons_zero])
        go_simp
        obtain ⟨wq14, ga, e1, e2, hX, hb⟩ := mk_box wq12 118 [.int .i64 P, .int .i64 M, .slice A2 Mod.length k2, .int .i64 (q : Int), .slice (some ⟨ge, 0, none⟩) (q - 1) ce, .slice (some ⟨gl, 0, none⟩) q q]
        rw [e1, e2]
        have HG := Lib.hid hX
        have hga : w2.heap.size ≤ ga := (by have := HB.out.size; omega)
        have hgl : ga ≠ gl := (by have := HL.out.lt; omega)
        replace HA := Lib.hid (HA.out.below hb (Nat.le_refl _))
        replace HL := Lib.hid (HL.out.belowS hb)
        replace HB := Lib.hid (bl_trans HB.out hb)
        clear e1 e2 hX hb
        refine hK.out _ _ ((fun h => ⟨h.c0, h.c1, h.c2⟩) (HF2.out.on HB.out)) (fun hHeld2 => ?_)
        clear hK K
        replace hHeld := hHeld2
        clear hHeld2
        try simp only [List.getElem_toArray, List.getElem_cons_zero, List.getElem_cons_succ, Act.put, List.setIfInBounds_toArray, List.set_cons_zero, List.set_cons_succ]
        refine Kept.only (i := 15) (by kernel_rfl) rfl (fun K hK => ?_)
        go_simp
        refine hK.out _ _ hHeld (fun hHeld2 => ?_)
        clear hK K
        clear hHeld2
        refine Kept.done (by kernel_rfl) ?_
        try simp only [List.getElem_toArray, List.getElem_cons_zero, List.getElem_cons_succ, Act.put, List.setIfInBounds_toArray, List.set_cons_zero, List.set_cons_succ]
        clear hHeld
        go_wp2_with fail
        go_meet
        exact ⟨ga, _, gl, rfl, hga, HLB, hgl, HG, HA, HL, HNE, HB⟩
    case way22 =>
      go_simp
      obtain ⟨wq15, gl, e1, e2, hX, hb⟩ := mk_row wq1 q
      rw [e1, e2]
      have HL := Lib.hid hX
      have HLB : w2.heap.size ≤ gl := (by have := HB.out.size; omega)
      
      
      
      
      replace HB := Lib.hid (bl_trans HB.out hb)
      clear e1 e2 hX hb
      refine hK.out _ _ ((fun h => ⟨h.c0, h.c1, h.c2⟩) (HF2.out.on HB.out)) (fun hHeld2 => ?_)
      clear hK K
      replace hHeld := hHeld2
      clear hHeld2
      try simp only [List.getElem_toArray, List.getElem_cons_zero, List.getElem_cons_succ, Act.put, List.setIfInBounds_toArray, List.set_cons_zero, List.set_cons_succ]
      refine Kept.only (i := 4) (o := ?op16) (by kernel_rfl) ?ho16 (fun K hK => ?_)
      case ho16 => (conv => lhs; simp only [List.getElem?_toArray, List.getElem?_cons_succ, List.getElem?_cons_zero])
      go_simp
      obtain ⟨wq17, gE, e1, e2, hX, hb⟩ := mk_empty wq15
      rw [e1, e2]
      have HE0 := Lib.hid (hX.mono (B' := w2.heap.size) (by have := HB.out.size; omega))
      have HNE : Hid (∀ g, (Value.slice (some ⟨gE, 0, none⟩) 0 0).ownBlock = some g → g ≠ gl) := hid' fun g hg => (by have h1 := HL.out.lt; simp [Value.ownBlock] at hg; omega) 
      replace HL := Lib.hid (HL.out.belowS hb) 
      replace HB := Lib.hid (bl_trans HB.out hb)
      clear e1 e2 hX hb
      refine hK.out _ _ ((fun h => ⟨h.c0, h.c1, h.c2⟩) (HF2.out.on HB.out)) (fun hHeld2 => ?_)
      clear hK K
      replace hHeld := hHeld2
      clear hHeld2
      try simp only [List.getElem_toArray, List.getElem_cons_zero, List.getElem_cons_succ, Act.put, List.setIfInBounds_toArray, List.set_cons_zero, List.set_cons_succ]
      refine Kept.only (i := 7) (o := ?op18) (by kernel_rfl) ?ho18 (fun K hK => ?_)
      case ho18 => (conv => lhs; simp only [List.getElem?_toArray, List.getElem?_cons_succ, List.getElem?_cons_zero])
      refine step_catI rfl _ _ rfl w2.heap.size _ _ rfl HE0.out _ Mod rfl ((HM.out.below HF2.out.bel (Nat.le_refl _)).below HB.out (Nat.le_refl _)) (by simp; omega) HB.out.size ?_
      intro v2 wq19 ho hg hv2
      rw [List.nil_append] at ho
      obtain ⟨A2, k2, rfl⟩ := ho.form'
      have hne0 : some gl ≠ (Value.slice (some ⟨gE, 0, none⟩) 0 0).ownBlock := fun e => HNE.out gl e.symm rfl 
      replace HNE : Hid (∀ g, (Value.slice A2 Mod.length k2).ownBlock = some g → g ≠ gl) := hid' (fun g hg2 => hv2.elim (fun h => HNE.out g (h ▸ hg2)) (fun h => (by have h0 := HL.out.lt; rw [h] at hg2; have h3 := Option.some.inj hg2; omega))) 
      replace HL := Lib.hid (HL.out.grown hg hne0) 
      have HA := Lib.hid ho
      replace HB := Lib.hid (HE0.out.bgrown HB.out HB.out.size hg)
      clear ho hg hv2 HE0 hne0 
      refine hK.out _ _ ((fun h => ⟨h.c0, h.c1, h.c2⟩) (HF2.out.on HB.out)) (fun hHeld2 => ?_)
      clear hK K
      replace hHeld := hHeld2
      clear hHeld2
      try simp only [List.getElem_toArray, List.getElem_cons_zero, List.getElem_cons_succ, Act.put, List.setIfInBounds_toArray, List.set_cons_zero, List.set_cons_succ]
      refine Kept.take (i := 8) (v := ?_) rfl (by kernel_rfl) (by kernel_rfl) (by kernel_rfl) (fun _ _ _ h => h) (Or.inl ⟨by kernel_rfl, ?_⟩) hHeld ?_
      rotate_left
      · intro w' hSw; (try dsimp only at hSw); first | (go_simp; done) | (go_simp; with_reducible rfl)
      try simp only [List.getElem_toArray, List.getElem_cons_zero, List.getElem_cons_succ, Act.put, List.setIfInBounds_toArray, List.set_cons_zero, List.set_cons_succ]
      refine Kept.take (i := 13) (v := ?_) rfl (by kernel_rfl) (by kernel_rfl) (by kernel_rfl) (fun _ _ _ h => h) (Or.inl ⟨by kernel_rfl, ?_⟩) hHeld ?_
      rotate_left
      · intro w' hSw; (try dsimp only at hSw); first | (go_simp; done) | (go_simp; with_reducible rfl)
      try simp only [List.getElem_toArray, List.getElem_cons_zero, List.getElem_cons_succ, Act.put, List.setIfInBounds_toArray, List.set_cons_zero, List.set_cons_succ]
      refine Kept.only (i := 14) (o := ?op20) (by kernel_rfl) ?ho20 (fun K hK => ?_)
      case ho20 => (conv => lhs; simp only [List.getElem?_toArray, List.getElem?_cons_succ, List.getElem?_cons_zero])
      go_simp
      obtain ⟨wq21, ga, e1, e2, hX, hb⟩ := mk_box wq19 118 [.int .i64 P, .int .i64 M, .slice A2 Mod.length k2, .int .i64 (q : Int), .slice (some ⟨ge, 0, none⟩) (q - 1) ce, .slice (some ⟨gl, 0, none⟩) q q]
      rw [e1, e2]
      have HG := Lib.hid hX
      have hga : w2.heap.size ≤ ga := (by have := HB.out.size; omega)
      have hgl : ga ≠ gl := (by have := HL.out.lt; omega)
      replace HA := Lib.hid (HA.out.below hb (Nat.le_refl _))
      replace HL := Lib.hid (HL.out.belowS hb)
      replace HB := Lib.hid (bl_trans HB.out hb)
      clear e1 e2 hX hb
      refine hK.out _ _ ((fun h => ⟨h.c0, h.c1, h.c2⟩) (HF2.out.on HB.out)) (fun hHeld2 => ?_)
      clear hK K
      replace hHeld := hHeld2
      clear hHeld2
      try simp only [List.getElem_toArray, List.getElem_cons_zero, List.getElem_cons_succ, Act.put, List.setIfInBounds_toArray, List.set_cons_zero, List.set_cons_succ]
      refine Kept.only (i := 15) (by kernel_rfl) rfl (fun K hK => ?_)
      go_simp
      refine hK.out _ _ hHeld (fun hHeld2 => ?_)
      clear hK K
      clear hHeld2
      refine Kept.done (by kernel_rfl) ?_
      try simp only [List.getElem_toArray, List.getElem_cons_zero, List.getElem_cons_succ, Act.put, List.setIfInBounds_toArray, List.set_cons_zero, List.set_cons_succ]
      clear hHeld
      go_wp2_with fail
      go_meet
      exact ⟨ga, _, gl, rfl, hga, HLB, hgl, HG, HA, HL, HNE, HB⟩
  case rest =>
    clear c0 c1 c2 hmki
    obtain ⟨ga, mv2, gl, rfl, hga, hgl, hne, HG, HA, HL, HNE, HB⟩ := hcut
    have hgel : ge ≠ gl := by omega
    have HE3 := Lib.hid (HE2.out.below HB.out (Nat.le_refl _)); clear HE2
    have hge3 : w.heap.size ≤ w2.heap.size := HF2.out.bel.size
    go_wp2_with fail
    go_loopw [39] (fun i wr => ∃ k : Nat, k ≤ q - 1 ∧ i = .int .i64 (k : Int) ∧ Hid (Blk wr ga 118 [.int .i64 P, .int .i64 M, mv2, .int .i64 (q : Int), .slice (some ⟨ge, 0, none⟩) (q - 1) ce, .slice (some ⟨gl, 0, none⟩) q q]) ∧ Hid (OI w2.heap.size wr mv2 Mod) ∧ Hid (RI wr gl (logTo E q k)) ∧ Hid (OI w.heap.size wr (.slice (some ⟨ge, 0, none⟩) (q - 1) ce) E) ∧ Hid (Below w2.heap.size w2 wr)) (fun i _ => (q - 1 - (intOf i).toNat))
    case atStart => exact ⟨0, Nat.zero_le _, rfl, HG, HA, HL, HE3, HB⟩
    case round =>
      clear HG HA HL HE3 HB
      obtain ⟨k, hk, rfl, HG, HA, HL, HE, HB⟩ := hrel
      have g5 : wr.cell? ⟨ga, 5, none⟩ = some (.slice (some ⟨gl, 0, none⟩) q q) := HG.out.cell 5
      by_cases hlt : k < q - 1
      · have e1 := HE.out.cell k (by rw [HEL.out]; exact hlt)
        have hr := HEU.out k hlt
        have HSET : Hid (logTo E q (k + 1) = (logTo E q k).set (E.getD k 0).toNat (k : Int)) := rfl
        generalize E.getD k 0 = x at e1 hr HSET
        obtain ⟨xn, rfl⟩ : ∃ xn : Nat, x = (xn : Int) := ⟨x.toNat, by omega⟩
        obtain ⟨hx0, hx1⟩ := hr
        have hxq : xn < q := by omega
        have l1 := HL.out.cell xn (by rw [logTo_len]; exact hxq)
        have lf := HL.out.frozen xn
        rw [Int.toNat_natCast] at HSET
        have HL2 := Lib.hid (HL.out.set xn (k : Int))
        rw [← HSET.out] at HL2
        have HG2 := Lib.hid (HG.out.far (p := ⟨gl, xn, none⟩) hne (.int .i64 (k : Int)))
        have HA2 := Lib.hid (HA.out.grown (gr_set1 wr gl xn (.int .i64 (k : Int))) fun g hg e => HNE.out g hg (Option.some.inj e).symm)
        have HE2 := Lib.hid (HE.out.grown (gr_set1 wr gl xn (.int .i64 (k : Int))) fun g hg e => (by have h1 : gl = g := Option.some.inj e; have h2 : ge = g := Option.some.inj hg; omega))
        have HB2 := Lib.hid (HB.out.setCell (p := ⟨gl, xn, none⟩) hgl (.int .i64 (k : Int)))
        generalize (logTo E q k).getD xn 0 = old at l1
        go_wp2_with fail
        exact ⟨⟨k + 1, by omega, by push_cast; rfl, HG2, HA2, HL2, HE2, HB2⟩, by simp only [intOf]; omega⟩
      · obtain rfl : k = q - 1 := by omega
        go_wp2_with fail
        go_ret2
        refine ⟨ga, rfl, GF.sep (by omega) HG.out (HA.out.mono hge3) (by omega) HM.out.wfs HE.out HL.out (by omega) ?_ HFLD.out HQ.out, bl_trans HF2.out.bel HB.out⟩
        exact HT.out
end Go.Proofs.Ytgabhlalamnbgaa

/- ref09.Combine; ref10.Zero, Pivots. -/
namespace Go.Proofs.Ytgabhlalamnbgaa
open Go.RowKit
set_option linter.unusedVariables false
set_option maxRecDepth 100000

/-- the sum of the first i rows, each times its entry of x -/
def combTo (O : FOps) (x : List Int) (rows : List (List Int)) (n : Nat) : Nat → List Int
  | 0 => List.replicate n 0
  | i + 1 => if x.getD i 0 ≠ 0 then addToL O (combTo O x rows n i) (x.getD i 0) (rows.getD i []) else combTo O x rows n i
def combL (O : FOps) (x : List Int) (rows : List (List Int)) (n : Nat) : List Int := combTo O x rows n (min rows.length x.length)
theorem combTo_len (O : FOps) (x : List Int) (rows : List (List Int)) (n : Nat) : ∀ i, (combTo O x rows n i).length = n
  | 0 => by simp [combTo]
  | i + 1 => by rw [combTo]; split
                · rw [addToL_len, combTo_len O x rows n i]
                · exact combTo_len O x rows n i
theorem combTo_rng {O : FOps} {q : Int} (hO : O.Lt q) (x : List Int) (rows : List (List Int)) (n : Nat) : ∀ i, Rng q (combTo O x rows n i)
  | 0 => Rng.zero hO.pos n
  | i + 1 => by
    rw [combTo]
    split
    · exact (Rows.addTo hO (combTo_rng hO x rows n i) _ _).2
    · exact combTo_rng hO x rows n i

end Go.Proofs.Ytgabhlalamnbgaa

/- ref09.Check. -/
namespace Go.Proofs.Ytgabhlalamnbgaa
open Go.RowKit
set_option linter.unusedVariables false
set_option maxRecDepth 100000

/-- the boxes of a field and a matrix that were handed over by value -/
structure FMBox (w w0 : World) (P M : Int) (mv : Value) (cols : Int) (rv : Value) : Prop where
  fb : FBox w w0 P M mv
  mb : Blk w0 (w.heap.size + 1) 24 [.int .i64 cols, rv]
theorem FMBox.mk' (w : World) (P M : Int) (mv : Value) (cols : Int) (rv : Value) : FMBox w ((w.alloc (.cells #[.int .i64 P, .int .i64 M, mv] 32)).alloc (.cells #[.int .i64 cols, rv] 24)) P M mv cols rv :=
  ⟨(FBox.mk' w P M mv).on (bl_alloc _ _), by
    have := Blk.new (w.alloc (.cells #[.int .i64 P, .int .i64 M, mv] 32)) 24 [.int .i64 cols, rv]
    rw [World.size_alloc] at this
    exact this⟩
theorem FMBox.on {w w0 w1 : World} {P M cols : Int} {mv rv : Value} (h : FMBox w w0 P M mv cols rv) (hb : Below w0.heap.size w0 w1) : FMBox w w1 P M mv cols rv := ⟨h.fb.on hb, h.mb.belowS hb⟩
theorem FMBox.d0 {w w0 : World} {P M cols : Int} {mv rv : Value} (h : FMBox w w0 P M mv cols rv) : w0.cell? ⟨w.heap.size + 1, 0, none⟩ = some (.int .i64 cols) := h.mb.cell 0
theorem FMBox.d1 {w w0 : World} {P M cols : Int} {mv rv : Value} (h : FMBox w w0 P M mv cols rv) : w0.cell? ⟨w.heap.size + 1, 1, none⟩ = some rv := h.mb.cell 1

def lensOK (cols : Int) (rows : List (List Int)) : Bool := rows.all fun r => (r.length : Int) == cols
def entsOK (q : Int) (rows : List (List Int)) : Bool := rows.all fun r => entriesF q r == 0
/-- the error of a matrix over a field -/
noncomputable def matE (P M : Int) (Mod : List Int) (cols : Int) (rows : List (List Int)) : Int :=
  if checkF P M Mod ≠ 0 then checkF P M Mod else if cols < 0 ∨ 256 < cols ∨ 256 < (rows.length : Int) then 3 else if lensOK cols rows = true then (if entsOK (orderF P M) rows = true then 0 else 2) else 3
theorem all_of_getD {p : List Int → Bool} {rows : List (List Int)} (h : ∀ j, j < rows.length → p (rows.getD j []) = true) : rows.all p = true := by
  rw [List.all_eq_true]
  intro x hx
  obtain ⟨i, hi, rfl⟩ := List.mem_iff_getElem.1 hx
  have := h i hi
  simpa [List.getD, hi] using this
theorem all_not {p : List Int → Bool} {rows : List (List Int)} {k : Nat} (hk : k < rows.length) (h : p (rows.getD k []) = false) : rows.all p = false := by
  rw [List.all_eq_false]
  refine ⟨rows[k], List.getElem_mem hk, ?_⟩
  simp [List.getD, hk] at h
  simp [h]
theorem entriesF_cases (q : Int) (l : List Int) : entriesF q l = 0 ∨ entriesF q l = 2 := by unfold entriesF; split <;> simp

set_option maxHeartbeats 16000000 in
theorem rMCheck_any (w : World) (P M cols : Int) (mv rv : Value) (Mod : List Int) (rows : List (List Int)) (hm : SI w mv Mod) (hv : SS w rv rows) :
    Calls Try.prog 15 #[.agg #[.int .i64 P, .int .i64 M, mv], .agg #[.int .i64 cols, rv]] w (RetI w (matE P M Mod cols rows)) := by
  have HM := Lib.hid hm; clear hm
  obtain ⟨A, c, rfl, hv⟩ := hv
  have hrl := hv.len
  have HV := Lib.hid (show SS w (.slice A rows.length c) rows from ⟨A, c, rfl, hv⟩); clear hv
  obtain ⟨n, hn⟩ : ∃ n, n = rows.length := ⟨_, rfl⟩
  have HF := Lib.hid (FMBox.mk' w P M mv cols (.slice A n c))
  rw [← hn] at HV hrl ⊢
  by_cases hck : checkF P M Mod = 0
  case neg =>
    have HE : Hid (matE P M Mod cols rows = checkF P M Mod) := by show _ = _; unfold matE; rw [if_pos hck]
    have hb : (checkF P M Mod != 0) = true := by rw [bne_iff_ne]; exact hck
    clear hck hn
    go_enter Try.func15, Try.ntmps15
    go_wp2_with fail
    generalize hw0 : (w.alloc (.cells #[.int .i64 P, .int .i64 M, mv] 32)).alloc (.cells #[.int .i64 cols, .slice A n c] 24) = w0 at *
    have c0 := HF.out.fb.c0; have c1 := HF.out.fb.c1; have c2 := HF.out.fb.c2
    go_wp2_with fail
    refine (rCheck_any _ P M mv Mod (HM.out.below HF.out.fb.bel (Nat.le_refl _))).mono ?_
    rintro e w1 ⟨rfl, hb1⟩
    have HB1 := Lib.hid (bl_trans HF.out.fb.bel hb1); clear hb1
    go_wp2_with fail
    go_ret
    exact ⟨by rw [HE.out]; rfl, HB1.out⟩
  have HK := Lib.hid hck
  by_cases hcn : cols < 0 ∨ 256 < cols ∨ 256 < (n : Int)
  · have HE : Hid (matE P M Mod cols rows = 3) := by show _ = _; unfold matE; rw [if_neg (by rw [hck]; decide), ← hn, if_pos hcn]
    rw [HE.out]
    have HCK := Lib.hid hck; clear hck hn
    go_enter Try.func15, Try.ntmps15
    go_wp2_with fail
    generalize hw0 : (w.alloc (.cells #[.int .i64 P, .int .i64 M, mv] 32)).alloc (.cells #[.int .i64 cols, .slice A n c] 24) = w0 at *
    have c0 := HF.out.fb.c0; have c1 := HF.out.fb.c1; have c2 := HF.out.fb.c2
    go_wp2_with fail
    refine (rCheck_any _ P M mv Mod (HM.out.below HF.out.fb.bel (Nat.le_refl _))).mono ?_
    rintro e w1 ⟨rfl, hb1⟩
    rw [HCK.out]
    have HF1 := Lib.hid (HF.out.on hb1); clear hb1
    have d0 := HF1.out.d0; have d1 := HF1.out.d1
    by_cases h1 : cols < 0
    · go_wp2_with fail
      go_ret
      exact ⟨rfl, HF1.out.fb.bel⟩
    by_cases h2 : 256 < cols
    · go_wp2_with fail
      go_ret
      exact ⟨rfl, HF1.out.fb.bel⟩
    have h3 : 256 < (n : Int) := by omega
    clear hcn
    go_wp2_with fail
    go_ret
    exact ⟨rfl, HF1.out.fb.bel⟩
  have HCN : Hid (¬ (cols < 0 ∨ 256 < cols ∨ 256 < (rows.length : Int))) := by show ¬ _; rw [← hn]; exact hcn
  obtain ⟨h1, h2, h3⟩ : ¬ cols < 0 ∧ ¬ 256 < cols ∧ ¬ 256 < (n : Int) := by omega
  have HCK := Lib.hid hck; clear hck hcn HK
  have HN := Lib.hid hn; clear hn
  go_enter Try.func15, Try.ntmps15
  go_wp2_with fail
  generalize hw0 : (w.alloc (.cells #[.int .i64 P, .int .i64 M, mv] 32)).alloc (.cells #[.int .i64 cols, .slice A n c] 24) = w0 at *
  have c0 := HF.out.fb.c0; have c1 := HF.out.fb.c1; have c2 := HF.out.fb.c2
  go_wp2_with fail
  refine (rCheck_any _ P M mv Mod (HM.out.below HF.out.fb.bel (Nat.le_refl _))).mono ?_
  rintro e w1 ⟨rfl, hb1⟩
  rw [HCK.out]
  have HF1 := Lib.hid (HF.out.on hb1); clear hb1
  have d0 := HF1.out.d0; have d1 := HF1.out.d1
  clear c0 c1 c2
  go_wp2_with fail
  clear d0 d1
  go_loopw [6] (fun i wr => ∃ k : Nat, k ≤ n ∧ i = .int .i64 (k : Int) ∧ Hid (∀ j, j < k → ((rows.getD j []).length : Int) = cols) ∧ Hid (FMBox w wr P M mv cols (.slice A n c))) (fun i _ => (n - intOf i).toNat)
  case atStart => exact ⟨0, Nat.zero_le _, rfl, hid' fun j hj => absurd hj (by omega), HF1.out⟩
  case round =>
    obtain ⟨k, hk, rfl, HG, HW⟩ := hrel
    have d0 := HW.out.d0; have d1 := HW.out.d1
    by_cases hlt : k < n
    · obtain ⟨ad, Ak, ck, x, rfl, hc, HX, HXE⟩ := (HV.out.below HW.out.fb.bel (Nat.le_refl _)).eltA (k := k) (by rw [← HN.out]; exact hlt)
      by_cases hx : (x.length : Int) = cols
      · have hxb : (((x.length : Nat) : Int) != cols) = false := by rw [bne_eq_false_iff_eq]; exact hx
        have HXX := Lib.hid hx; clear hx
        go_wp2_with fail
        go_quiet (fail)
        go_wp2_with fail
        exact ⟨⟨k + 1, by omega, rfl, hid' fun j hj => by
          by_cases e : j = k
          · subst e; rw [HXE.out]; exact HXX.out
          · exact HG.out j (by omega), hid' (HW.out.on (bl_drewN _ _))⟩, by simp only [intOf]; omega⟩
      · have hxb : (((x.length : Nat) : Int) != cols) = true := by rw [bne_iff_ne]; exact hx
        have HE : Hid (matE P M Mod cols rows = 3) := by
          show _ = _
          unfold matE
          rw [if_neg (by rw [HCK.out]; decide), if_neg HCN.out, if_neg]
          rw [show lensOK cols rows = false from all_not (k := k) (by rw [← HN.out]; exact hlt) (by rw [HXE.out]; simpa using hx)]
          decide
        clear hx
        go_wp2_with fail
        go_quiet (fail)
        go_wp2_with fail
        go_ret
        exact ⟨by rw [HE.out]; rfl, (HW.out.on (bl_drewN _ _)).fb.bel⟩
    · obtain rfl : n = k := by omega
      have HL : Hid (lensOK cols rows = true) := all_of_getD fun j hj => by
        have := HG.out j (by rw [HN.out]; exact hj)
        simpa using this
      clear hlt hk HG
      go_wp2_with fail
      clear d0 d1
      go_loopw [7] (fun i wr => ∃ k : Nat, k ≤ n ∧ i = .int .i64 (k : Int) ∧ Hid (∀ j, j < k → entriesF (orderF P M) (rows.getD j []) = 0) ∧ Hid (FMBox w wr P M mv cols (.slice A n c))) (fun i _ => (n - intOf i).toNat)
      case atStart => exact ⟨0, Nat.zero_le _, rfl, hid' fun j hj => absurd hj (by omega), HW.out⟩
      case round =>
        obtain ⟨k, hk, rfl, HG, HW⟩ := hrel
        have c0 := HW.out.fb.c0; have c1 := HW.out.fb.c1; have c2 := HW.out.fb.c2; have d1 := HW.out.d1
        by_cases hlt : k < n
        · obtain ⟨ad, Ak, ck, x, rfl, hc, HX, HXE⟩ := (HV.out.below HW.out.fb.bel (Nat.le_refl _)).eltA (k := k) (by rw [← HN.out]; exact hlt)
          go_wp2_with fail
          go_still_tail 6, (by kernel_rfl)
          change wpList _ _ _ _ _ wr.drew
          go_wp2_with fail
          refine (entries_any _ P M mv _ x (HX.out.si.below (bl_drew _) (Nat.le_refl _))).mono ?_
          rintro e w2 ⟨rfl, hb2⟩
          have HW2 := Lib.hid (HW.out.on (bl_trans (bl_drew _) hb2))
          clear hb2 hc c0 c1 c2 d1
          by_cases hx : entriesF (orderF P M) x = 0
          · rw [hx]
            have HXX := Lib.hid hx; clear hx
            go_wp2_with fail
            exact ⟨⟨k + 1, by omega, rfl, hid' fun j hj => by
              by_cases e : j = k
              · subst e; rw [HXE.out]; exact HXX.out
              · exact HG.out j (by omega), HW2⟩, by simp only [intOf]; omega⟩
          · have hx2 : entriesF (orderF P M) x = 2 := (entriesF_cases _ _).resolve_left hx
            have HE : Hid (matE P M Mod cols rows = 2) := by
              show _ = _
              unfold matE
              rw [if_neg (by rw [HCK.out]; decide), if_neg HCN.out, if_pos HL.out, if_neg]
              rw [show entsOK (orderF P M) rows = false from all_not (k := k) (by rw [← HN.out]; exact hlt) (by rw [HXE.out, hx2]; rfl)]
              decide
            rw [hx2]
            clear hx hx2
            go_wp2_with fail
            go_ret
            exact ⟨by rw [HE.out]; rfl, HW2.out.fb.bel⟩
        · obtain rfl : n = k := by omega
          have HE : Hid (matE P M Mod cols rows = 0) := by
            show _ = _
            unfold matE
            rw [if_neg (by rw [HCK.out]; decide), if_neg HCN.out, if_pos HL.out, if_pos]
            exact all_of_getD fun j hj => by
              have := HG.out j (by rw [HN.out]; exact hj)
              simpa using this
          go_wp2_with fail
          go_ret
          exact ⟨by rw [HE.out]; rfl, HW.out.fb.bel⟩
end Go.Proofs.Ytgabhlalamnbgaa

/- (*GF).Is; matrix.entries, matrix.check, matrix.open (of one matrix), matrix.Check. -/
namespace Go.Proofs.Ytgabhlalamnbgaa
open Go.RowKit
set_option linter.unusedVariables false
set_option maxRecDepth 100000

set_option maxHeartbeats 4000000 in
theorem gis_any (w : World) (a : Nat) (P M x : Int) (Mod : List Int) (h : GF w a P M Mod) : Calls Try.prog 95 #[.pointer (some ⟨a, 0, none⟩), .int .i64 x] w (fun e w' => e = .returned (.bool (isB P M x)) ∧ w = w') := by
  obtain ⟨q, mv, ge, ce, gl, cl, E, L, h⟩ := h
  have c3 := h.c3
  have HE : Hid (isB P M x = (decide (0 ≤ x) && decide (x < (q : Int)))) := by show _ = _; unfold isB; rw [h.ord]
  clear h
  by_cases hx : 0 ≤ x
  · have hx1 : decide (0 ≤ x) = true := by simpa using hx
    rw [hx1, Bool.true_and] at HE
    by_cases hq : x < (q : Int)
    · have hq1 : decide (x < (q : Int)) = true := by simpa using hq
      rw [hq1] at HE
      go_enter Try.func95, Try.ntmps95
      go_wp2_with fail
      go_ret
      exact ⟨by rw [HE.out]; rfl, rfl⟩
    · have hq1 : decide (x < (q : Int)) = false := by simpa using hq
      rw [hq1] at HE
      go_enter Try.func95, Try.ntmps95
      go_wp2_with fail
      go_ret
      exact ⟨by rw [HE.out]; rfl, rfl⟩
  · have hx1 : decide (0 ≤ x) = false := by simpa using hx
    rw [hx1, Bool.false_and] at HE
    go_enter Try.func95, Try.ntmps95
    go_wp2_with fail
    go_ret
    exact ⟨by rw [HE.out]; rfl, rfl⟩

set_option maxHeartbeats 4000000 in
theorem mentries_any (w : World) (a : Nat) (P M : Int) (Mod l : List Int) (v : Value) (h : GF w a P M Mod) (hl : SI w v l) :
    Calls Try.prog 91 #[.pointer (some ⟨a, 0, none⟩), v] w (fun e w' => e = .returned (.int .i64 (entriesF (orderF P M) l)) ∧ w = w') := by
  obtain ⟨A, c, rfl, hl⟩ := hl
  have hn := hl.len
  have HL := Lib.hid hl; clear hl
  have HG := Lib.hid h; clear h
  go_enter Try.func91, Try.ntmps91
  go_wp2_with fail
  go_loop [9] (fun i => ∃ k : Nat, k ≤ l.length ∧ i = .int .i64 (k : Int) ∧ Hid (∀ j, j < k → 0 ≤ l.getD j 0 ∧ l.getD j 0 < orderF P M)) (fun i => l.length - (intOf i).toNat)
  case atStart => exact ⟨0, Nat.zero_le _, rfl, hid' fun j hj => absurd hj (by omega)⟩
  case round =>
    obtain ⟨k, hk, rfl, HK⟩ := hrel
    by_cases hlt : k < l.length
    · obtain ⟨ad, x, rfl, hc, _, HX⟩ := HL.out.elt hlt
      by_cases hx : 0 ≤ x ∧ x < orderF P M
      · have HB : Hid (isB P M x = true) := isB_true hx
        have HXX := Lib.hid hx; clear hx
        go_wp2_with fail
        refine (gis_any _ a P M x Mod HG.out).mono ?_
        rintro e w1 ⟨rfl, rfl⟩
        rw [HB.out]
        go_wp2_with fail
        go_round
        case rel => exact ⟨k + 1, by omega, by go_num, hid' fun j hj => by
          by_cases e : j = k
          · subst e; rw [HX.out]; exact HXX.out
          · exact HK.out j (by omega)⟩
        case measure => simp [intOf]; omega
      · have HB : Hid (isB P M x = false) := isB_false hx
        have HE : Hid (entriesF (orderF P M) l = 2) := entriesF_bad hlt (by rw [HX.out]; exact hx)
        clear hx
        go_wp2_with fail
        refine (gis_any _ a P M x Mod HG.out).mono ?_
        rintro e w1 ⟨rfl, rfl⟩
        rw [HB.out]
        go_wp2_with fail
        go_ret
        exact ⟨by rw [HE.out]; rfl, rfl⟩
    · obtain rfl : l.length = k := by omega
      have HE : Hid (entriesF (orderF P M) l = 0) := entriesF_ok HK.out
      go_wp2_with fail
      go_ret
      exact ⟨by rw [HE.out]; rfl, rfl⟩

/-- the error of a matrix whose field is right -/
def chkE (q cols : Int) (rows : List (List Int)) : Int := if cols < 0 ∨ 256 < cols ∨ 256 < (rows.length : Int) then 3 else if lensOK cols rows = true then (if entsOK q rows = true then 0 else 2) else 3
theorem matE_ok {P M : Int} {Mod : List Int} (hf : FieldP P M Mod) (cols : Int) (rows : List (List Int)) : matE P M Mod cols rows = chkE (orderF P M) cols rows := by
  unfold matE chkE
  rw [if_neg (by rw [checkF_ok hf]; decide)]
theorem matE_no {P M : Int} {Mod : List Int} (hf : ¬ FieldP P M Mod) (cols : Int) (rows : List (List Int)) : matE P M Mod cols rows = 1 := by
  unfold matE
  rw [if_pos (by rw [checkF_bad hf]; decide), checkF_bad hf]

set_option maxHeartbeats 8000000 in
theorem mcheck_any (w : World) (a : Nat) (P M cols : Int) (Mod : List Int) (rv : Value) (rows : List (List Int)) (h : GF w a P M Mod) (hv : SS w rv rows) :
    Calls Try.prog 87 #[.pointer (some ⟨a, 0, none⟩), .agg #[.int .i64 cols, rv]] w (RetI w (chkE (orderF P M) cols rows)) := by
  obtain ⟨A, c, rfl, hv⟩ := hv
  have hrl := hv.len
  have HG := Lib.hid (h.on (bl_alloc w (.cells #[.int .i64 cols, .slice A rows.length c] 24))); clear h
  have HV := Lib.hid ((show SS w (.slice A rows.length c) rows from ⟨A, c, rfl, hv⟩).below (bl_alloc w (.cells #[.int .i64 cols, .slice A rows.length c] 24)) (Nat.le_refl _)); clear hv
  have HB := Lib.hid (bl_alloc w (.cells #[.int .i64 cols, .slice A rows.length c] 24))
  have HBX := Lib.hid (Blk.new w 24 [.int .i64 cols, .slice A rows.length c])
  obtain ⟨n, hn⟩ : ∃ n, n = rows.length := ⟨_, rfl⟩
  rw [← hn] at HV HG HB HBX hrl ⊢
  have HN := Lib.hid hn; clear hn
  have d0 : (w.alloc (.cells #[.int .i64 cols, .slice A n c] 24)).cell? ⟨w.heap.size, 0, none⟩ = some (.int .i64 cols) := HBX.out.cell 0
  have d1 : (w.alloc (.cells #[.int .i64 cols, .slice A n c] 24)).cell? ⟨w.heap.size, 1, none⟩ = some (.slice A n c) := HBX.out.cell 1
  by_cases hcn : cols < 0 ∨ 256 < cols ∨ 256 < (n : Int)
  · have HE : Hid (chkE (orderF P M) cols rows = 3) := by show _ = _; unfold chkE; rw [← HN.out, if_pos hcn]
    rw [HE.out]
    by_cases h1 : cols < 0
    · have b1 : decide (cols < 0) = true := by simpa using h1
      clear hcn
      go_enter Try.func87, Try.ntmps87
      go_wp2_with fail
      go_ret
      exact ⟨rfl, HB.out⟩
    have b1 : decide (cols < 0) = false := by simpa using h1
    by_cases h2 : 256 < cols
    · have b2 : decide (256 < cols) = true := by simpa using h2
      clear hcn
      go_enter Try.func87, Try.ntmps87
      go_wp2_with fail
      go_ret
      exact ⟨rfl, HB.out⟩
    have b2 : decide (256 < cols) = false := by simpa using h2
    have h3 : 256 < (n : Int) := by omega
    have b3 : decide (256 < (n : Int)) = true := by simpa using h3
    clear hcn
    go_enter Try.func87, Try.ntmps87
    go_wp2_with fail
    go_ret
    exact ⟨rfl, HB.out⟩
  have HCN : Hid (¬ (cols < 0 ∨ 256 < cols ∨ 256 < (rows.length : Int))) := by show ¬ _; rw [← HN.out]; exact hcn
  obtain ⟨h1, h2, h3⟩ : ¬ cols < 0 ∧ ¬ 256 < cols ∧ ¬ 256 < (n : Int) := by omega
  have b1 : decide (cols < 0) = false := by simpa using h1
  have b2 : decide (256 < cols) = false := by simpa using h2
  have b3 : decide (256 < (n : Int)) = false := by simpa using h3
  clear hcn
  go_enter Try.func87, Try.ntmps87
  go_wp2_with fail
  clear b1 b2 b3
  generalize hw0 : w.alloc (.cells #[.int .i64 cols, .slice A n c] 24) = w0 at *
  clear hw0
  go_loop [27] (fun i => ∃ k : Nat, k ≤ n ∧ i = .int .i64 (k : Int) ∧ Hid (∀ j, j < k → ((rows.getD j []).length : Int) = cols)) (fun i => (n - (intOf i).toNat))
  case atStart => exact ⟨0, Nat.zero_le _, rfl, hid' fun j hj => absurd hj (by omega)⟩
  case round =>
    obtain ⟨k, hk, rfl, HK⟩ := hrel
    by_cases hlt : k < n
    · obtain ⟨ad, Ak, ck, x, rfl, hc, HX, HXE⟩ := HV.out.eltA (k := k) (by rw [← HN.out]; exact hlt)
      by_cases hx : (x.length : Int) = cols
      · have hxb : (((x.length : Nat) : Int) != cols) = false := by rw [bne_eq_false_iff_eq]; exact hx
        have HXX := Lib.hid hx; clear hx
        go_wp2_with fail
        go_round
        case rel => exact ⟨k + 1, by omega, by go_num, hid' fun j hj => by
          by_cases e : j = k
          · subst e; rw [HXE.out]; exact HXX.out
          · exact HK.out j (by omega)⟩
        case measure => simp [intOf]; omega
      · have hxb : (((x.length : Nat) : Int) != cols) = true := by rw [bne_iff_ne]; exact hx
        have HE : Hid (chkE (orderF P M) cols rows = 3) := by
          show _ = _
          unfold chkE
          rw [if_neg HCN.out, if_neg]
          rw [show lensOK cols rows = false from all_not (k := k) (by rw [← HN.out]; exact hlt) (by rw [HXE.out]; simpa using hx)]
          decide
        clear hx
        go_wp2_with fail
        go_ret
        exact ⟨by rw [HE.out]; rfl, HB.out⟩
    · obtain rfl : n = k := by omega
      have HL : Hid (lensOK cols rows = true) := all_of_getD fun j hj => by
        have := HK.out j (by rw [HN.out]; exact hj)
        simpa using this
      clear hlt hk HK
      go_wp2_with fail
      go_loop [40] (fun i => ∃ k : Nat, k ≤ n ∧ i = .int .i64 (k : Int) ∧ Hid (∀ j, j < k → entriesF (orderF P M) (rows.getD j []) = 0)) (fun i => (n - (intOf i).toNat))
      case atStart => exact ⟨0, Nat.zero_le _, rfl, hid' fun j hj => absurd hj (by omega)⟩
      case round =>
        obtain ⟨k, hk, rfl, HK⟩ := hrel
        by_cases hlt : k < n
        · obtain ⟨ad, Ak, ck, x, rfl, hc, HX, HXE⟩ := HV.out.eltA (k := k) (by rw [← HN.out]; exact hlt)
          go_wp2_with fail
          refine (mentries_any _ a P M Mod x _ HG.out HX.out.si).mono ?_
          rintro e w2 ⟨rfl, rfl⟩
          by_cases hx : entriesF (orderF P M) x = 0
          · rw [hx]
            have HXX := Lib.hid hx; clear hx
            go_wp2_with fail
            go_round
            case rel => exact ⟨k + 1, by omega, by go_num, hid' fun j hj => by
              by_cases e : j = k
              · subst e; rw [HXE.out]; exact HXX.out
              · exact HK.out j (by omega)⟩
            case measure => simp [intOf]; omega
          · have hx2 : entriesF (orderF P M) x = 2 := (entriesF_cases _ _).resolve_left hx
            have HE : Hid (chkE (orderF P M) cols rows = 2) := by
              show _ = _
              unfold chkE
              rw [if_neg HCN.out, if_pos HL.out, if_neg]
              rw [show entsOK (orderF P M) rows = false from all_not (k := k) (by rw [← HN.out]; exact hlt) (by rw [HXE.out, hx2]; rfl)]
              decide
            rw [hx2]
            clear hx hx2
            go_wp2_with fail
            go_ret
            exact ⟨by rw [HE.out]; rfl, HB.out⟩
        · obtain rfl : n = k := by omega
          have HE : Hid (chkE (orderF P M) cols rows = 0) := by
            show _ = _
            unfold chkE
            rw [if_neg HCN.out, if_pos HL.out, if_pos]
            exact all_of_getD fun j hj => by
              have := HK.out j (by rw [HN.out]; exact hj)
              simpa using this
          go_wp2_with fail
          go_ret
          exact ⟨by rw [HE.out]; rfl, HB.out⟩
end Go.Proofs.Ytgabhlalamnbgaa

/- matrix.open of one matrix; matrix.Check. -/
namespace Go.Proofs.Ytgabhlalamnbgaa
open Go.RowKit
set_option linter.unusedVariables false
set_option maxRecDepth 100000

set_option maxHeartbeats 8000000 in
theorem mopen_fno (w : World) (P M : Int) (mv lv : Value) (Mod : List Int) (hm : SI w mv Mod) (hf : ¬ FieldP P M Mod) :
    Calls Try.prog 79 #[.agg #[.int .i64 P, .int .i64 M, mv], lv] w (RetG0 w) := by
  have HM := Lib.hid hm; clear hm
  have HF := Lib.hid (FBox.mk' w P M mv)
  go_enter Try.func79, Try.ntmps79
  go_wp2_with fail
  generalize hw0 : w.alloc (.cells #[.int .i64 P, .int .i64 M, mv] 32) = w0 at *
  have c0 := HF.out.c0; have c1 := HF.out.c1; have c2 := HF.out.c2
  go_wp2_with fail
  refine (new_no _ P M mv Mod (HM.out.below HF.out.bel (Nat.le_refl _)) hf).mono ?_
  rintro e w1 ⟨rfl, hb1⟩
  have HB1 := Lib.hid (bl_trans HF.out.bel hb1); clear hb1
  go_wp2_with fail
  go_ret2
  exact ⟨rfl, HB1.out⟩

/-- open's results where the field is right -/
def RetGE (w : World) (P M : Int) (Mod : List Int) (er : Int) (e : Ending) (w' : World) : Prop :=
  (er = 0 → RetG w P M Mod e w') ∧ (er ≠ 0 → e = .returned (.tuple #[.pointer none, .int .i64 er]) ∧ Below w.heap.size w w')
set_option maxHeartbeats 8000000 in
theorem mopen1_any (w : World) (P M cols : Int) (mv rv : Value) (gl : Nat) (Mod : List Int) (rows : List (List Int)) (hm : SI w mv Mod) (hv : SS w rv rows) (hf : FieldP P M Mod)
    (hl0 : w.cell? ⟨gl, 0, none⟩ = some (.int .i64 cols)) (hl1 : w.cell? ⟨gl, 1, none⟩ = some rv) :
    Calls Try.prog 79 #[.agg #[.int .i64 P, .int .i64 M, mv], .slice (some ⟨gl, 0, none⟩) 1 1] w (RetGE w P M Mod (chkE (orderF P M) cols rows)) := by
  have HM := Lib.hid hm; have HV := Lib.hid hv; clear hm hv
  obtain ⟨RA, rc, rfl, _⟩ := HV.out
  have HF := Lib.hid (FBox.mk' w P M mv)
  have HL0 := Lib.hid hl0; have HL1 := Lib.hid hl1; clear hl0 hl1
  go_enter Try.func79, Try.ntmps79
  go_wp2_with fail
  generalize hw0 : w.alloc (.cells #[.int .i64 P, .int .i64 M, mv] 32) = w0 at *
  have c0 := HF.out.c0; have c1 := HF.out.c1; have c2 := HF.out.c2
  go_wp2_with fail
  refine (new_ok _ P M mv Mod (HM.out.below HF.out.bel (Nat.le_refl _)) hf).mono ?_
  rintro e w1 ⟨a, rfl, hg1, hb1⟩
  have HG1 := Lib.hid (hg1.mono HF.out.bel.size)
  have HB1 := Lib.hid (bl_trans HF.out.bel hb1); clear hb1 hg1 c0 c1 c2
  go_wp2_with fail
  go_loopw [20] (fun i wr => (i = .int .i64 0 ∧ Hid (wr = w1)) ∨ (i = .int .i64 1 ∧ Hid (chkE (orderF P M) cols rows = 0) ∧ Hid (Below w1.heap.size w1 wr))) (fun i _ => (1 - intOf i).toNat)
  case atStart => exact .inl ⟨rfl, rfl⟩
  case round =>
    rcases hrel with ⟨rfl, HW⟩ | ⟨rfl, HC, HW⟩
    · obtain rfl := HW.out
      have d0 := cell_below HB1.out HL0.out
      have d1 := cell_below HB1.out HL1.out
      have HBA := Lib.hid (bl_alloc wr (.cells #[.int .i64 cols, .slice RA rows.length rc] 24))
      go_wp2_with fail
      refine (mcheck_any _ a P M cols Mod _ rows (HG1.out.on HBA.out).out ((HV.out.below HB1.out (Nat.le_refl _)).below HBA.out (Nat.le_refl _))).mono ?_
      rintro e w3 ⟨rfl, hb3⟩
      have HB3 := Lib.hid (bl_trans HBA.out hb3); clear hb3 HBA d0 d1
      by_cases hc : chkE (orderF P M) cols rows = 0
      · rw [hc]
        have HC := Lib.hid hc; clear hc
        go_wp2_with fail
        exact ⟨.inr ⟨rfl, HC, HB3⟩, by simp only [intOf]; omega⟩
      · have hb : (chkE (orderF P M) cols rows != 0) = true := by rw [bne_iff_ne]; exact hc
        have HC := Lib.hid hc; clear hc
        go_wp2_with fail
        go_ret2
        exact ⟨fun h => absurd h HC.out, fun _ => ⟨rfl, bl_trans HB1.out HB3.out⟩⟩
    · go_wp2_with fail
      go_ret2
      refine ⟨fun _ => ⟨a, rfl, (HG1.out.mono (Nat.le_refl _)).on HW.out, bl_trans HB1.out HW.out⟩, fun h => absurd HC.out h⟩

set_option maxHeartbeats 8000000 in
theorem mCheck_any (w : World) (P M cols : Int) (mv rv : Value) (Mod : List Int) (rows : List (List Int)) (hm : SI w mv Mod) (hv : SS w rv rows) :
    Calls Try.prog 67 #[.agg #[.int .i64 P, .int .i64 M, mv], .agg #[.int .i64 cols, rv]] w (RetI w (matE P M Mod cols rows)) := by
  have HM := Lib.hid hm; have HV := Lib.hid hv; clear hm hv
  obtain ⟨RA, rc, rfl, _⟩ := HV.out
  have HF := Lib.hid (FMBox.mk' w P M mv cols (.slice RA rows.length rc))
  generalize hn : rows.length = n at HF HV ⊢
  by_cases hf : FieldP P M Mod
  · have HE : Hid (matE P M Mod cols rows = chkE (orderF P M) cols rows) := matE_ok hf cols rows
    go_enter Try.func67, Try.ntmps67
    go_wp2_with fail
    generalize hw0 : (w.alloc (.cells #[.int .i64 P, .int .i64 M, mv] 32)).alloc (.cells #[.int .i64 cols, .slice RA n rc] 24) = w0 at *
    have c0 := HF.out.fb.c0; have c1 := HF.out.fb.c1; have c2 := HF.out.fb.c2; have d0 := HF.out.d0; have d1 := HF.out.d1
    have hsz : w0.heap.size = w.heap.size + 1 + 1 := by rw [← hw0, World.size_alloc, World.size_alloc]
    have HBL := Lib.hid (Blk.new w0 24 [.int .i64 cols, .slice RA n rc])
    have B0 : Hid ((w0.alloc (.cells #[.int .i64 cols, .slice RA n rc] 24)).cell? ⟨w.heap.size + 1 + 1, 0, none⟩ = some (.int .i64 cols)) := hid' (by rw [← hsz]; exact HBL.out.cell 0)
    have B1 : Hid ((w0.alloc (.cells #[.int .i64 cols, .slice RA n rc] 24)).cell? ⟨w.heap.size + 1 + 1, 1, none⟩ = some (.slice RA n rc)) := hid' (by rw [← hsz]; exact HBL.out.cell 1)
    have HBA := Lib.hid (bl_alloc w0 (.cells #[.int .i64 cols, .slice RA n rc] 24))
    have HB1 := Lib.hid (bl_trans HF.out.fb.bel HBA.out)
    clear hn hsz hw0
    refine (mopen1_any _ P M cols mv (.slice RA n rc) (w.heap.size + 1 + 1) Mod rows (HM.out.below HB1.out (Nat.le_refl _)) (HV.out.below HB1.out (Nat.le_refl _)) hf B0.out B1.out).mono ?_
    rintro e w1 ⟨h1, h2⟩
    by_cases hc : chkE (orderF P M) cols rows = 0
    · obtain ⟨a, rfl, _, hb2⟩ := h1 hc
      have HB2 := Lib.hid (bl_trans HB1.out hb2)
      have HC := Lib.hid hc
      clear hc h1 h2 hb2 c0 c1 c2 d0 d1
      go_wp2_with fail
      go_ret
      exact ⟨by rw [HE.out, HC.out]; rfl, HB2.out⟩
    · obtain ⟨rfl, hb2⟩ := h2 hc
      have HB2 := Lib.hid (bl_trans HB1.out hb2)
      clear hc h1 h2 hb2 c0 c1 c2 d0 d1
      go_wp2_with fail
      go_ret
      exact ⟨by rw [HE.out]; rfl, HB2.out⟩
  · have HE : Hid (matE P M Mod cols rows = 1) := matE_no hf cols rows
    go_enter Try.func67, Try.ntmps67
    go_wp2_with fail
    generalize hw0 : (w.alloc (.cells #[.int .i64 P, .int .i64 M, mv] 32)).alloc (.cells #[.int .i64 cols, .slice RA n rc] 24) = w0 at *
    have c0 := HF.out.fb.c0; have c1 := HF.out.fb.c1; have c2 := HF.out.fb.c2; have d0 := HF.out.d0; have d1 := HF.out.d1
    have HB1 := Lib.hid (bl_trans HF.out.fb.bel (bl_alloc w0 (.cells #[.int .i64 cols, .slice RA n rc] 24)))
    clear hn hw0
    refine (mopen_fno _ P M mv (.slice (some ⟨w.heap.size + 1 + 1, 0, none⟩) 1 1) Mod (HM.out.below HB1.out (Nat.le_refl _)) hf).mono ?_
    rintro e w1 ⟨rfl, hb2⟩
    have HB2 := Lib.hid (bl_trans HB1.out hb2)
    clear hb2 c0 c1 c2 d0 d1
    go_wp2_with fail
    go_ret
    exact ⟨by rw [HE.out]; rfl, HB2.out⟩
end Go.Proofs.Ytgabhlalamnbgaa

/- Words for slices of edges (two ints each) and for slices of such slices. -/
namespace Go.Proofs.Ytgabhlalamnbgaa
open Go.RowKit
set_option linter.unusedVariables false
set_option maxRecDepth 100000

theorem Try.infoEdge : (Try.prog.info? 81).map (fun i => (i.zero, i.size, i.bytes)) = some (some (.agg #[.int .i64 0, .int .i64 0]), 2, 16) := by kernel_rfl
theorem Try.infoEdges : (Try.prog.info? 79).map (fun i => (i.zero, i.size, i.bytes)) = some (some (.slice none 0 0), 1, 24) := by kernel_rfl

def flatE : List (Int × Int) → List Value
  | [] => []
  | e :: es => .int .i64 e.1 :: .int .i64 e.2 :: flatE es
theorem flatE_len : ∀ es, (flatE es).length = es.length * 2
  | [] => rfl
  | e :: es => by rw [flatE, List.length_cons, List.length_cons, flatE_len es, List.length_cons]; omega
theorem flatE_append : ∀ a b, flatE (a ++ b) = flatE a ++ flatE b
  | [], b => rfl
  | e :: a, b => by rw [List.cons_append, flatE, flatE_append a b, flatE]; rfl
theorem flatE_fst : ∀ (es : List (Int × Int)) (k : Nat), k < es.length → (flatE es)[k * 2]? = some (.int .i64 (es.getD k (0, 0)).1)
  | [], k, h => absurd h (by simp)
  | e :: es, 0, h => rfl
  | e :: es, k + 1, h => by
    rw [flatE, show (k + 1) * 2 = k * 2 + 1 + 1 by omega, List.getElem?_cons_succ, List.getElem?_cons_succ, flatE_fst es k (by simpa using h)]
    simp
theorem flatE_snd : ∀ (es : List (Int × Int)) (k : Nat), k < es.length → (flatE es)[k * 2 + 1]? = some (.int .i64 (es.getD k (0, 0)).2)
  | [], k, h => absurd h (by simp)
  | e :: es, 0, h => rfl
  | e :: es, k + 1, h => by
    rw [flatE, show (k + 1) * 2 + 1 = k * 2 + 1 + 1 + 1 by omega, List.getElem?_cons_succ, List.getElem?_cons_succ, flatE_snd es k (by simpa using h)]
    simp

/-- the slice v of edges is the call's own, and holds es -/
def EO (B : Nat) (w : World) (v : Value) (es : List (Int × Int)) : Prop := w.ownsRow B 81 2 v es.length (flatE es)
/-- the slice v of edges reads as es -/
def EI (w : World) (v : Value) (es : List (Int × Int)) : Prop := ∃ A c, v = .slice A es.length c ∧ ∀ k, k < es.length → ∃ ad, A = some ad ∧ w.cell? (ad.add (k * 2)) = some (.int .i64 (es.getD k (0, 0)).1) ∧ w.cell? (ad.add (k * 2 + 1)) = some (.int .i64 (es.getD k (0, 0)).2)
section
variable {B : Nat} {w w' : World} {v : Value} {es : List (Int × Int)}
theorem EO.nil (B : Nat) (w : World) : EO B w (.slice none 0 0) [] := World.ownsRow_nil w B 81 2
theorem EO.lt (h : EO B w v es) {g : Nat} (hg : v.ownBlock = some g) : B ≤ g ∧ g < w.heap.size := World.ownsRow.lt h g hg
theorem EO.form' (h : EO B w v es) : ∃ A c, v = .slice A es.length c := by
  rcases h.2 with ⟨rfl, h0⟩ | ⟨g, cap, cur, rfl, _⟩
  · exact ⟨none, 0, by rw [h0]⟩
  · exact ⟨_, _, rfl⟩
theorem EO.typ (h : EO B w v es) {g : Nat} (hg : v.ownBlock = some g) : ∃ cs, w.heap[g]? = some (.cells cs 81 (0, 0)) := by
  rcases h.2 with ⟨rfl, h0⟩ | ⟨g', cap, cur, rfl, _, hc, _⟩
  · simp [Value.ownBlock] at hg
  · simp [Value.ownBlock] at hg; subst hg; exact ⟨_, hc⟩
theorem EO.keep (h : EO B w v es) (hk : ∀ g, v.ownBlock = some g → w'.heap[g]? = w.heap[g]?) : EO B w' v es := by
  refine ⟨h.1, ?_⟩
  rcases h.2 with hn | ⟨g, cap, cur, rfl, hb, hgg, rest⟩
  · exact .inl hn
  · exact .inr ⟨g, cap, cur, rfl, hb, (hk g rfl).trans hgg, rest⟩
theorem EO.grown {row : Option Nat} (h : EO B w v es) (hg : w.grownBy w' row) (hne : ∀ g, v.ownBlock = some g → row ≠ some g) : EO B w' v es := h.keep fun g hgg => hg.block g (h.lt hgg).2 (fun e => hne g hgg e.symm)
theorem EO.sep (h : EO B w v es) : Sep B w fun w2 => EI w2 v es := fun w2 h2 => by
  have hc := h.2
  rcases hc with ⟨rfl, h0⟩ | ⟨g, cap, cur, rfl, hb, hg, hn, _, _, _⟩
  · obtain rfl : es = [] := List.eq_nil_of_length_eq_zero h0
    exact ⟨none, 0, rfl, fun k hk => absurd hk (by simp)⟩
  · have hgl := (Array.getElem?_eq_some_iff.1 hg).1
    refine ⟨some ⟨g, 0, none⟩, cap, rfl, fun k hk => ⟨_, rfl, ?_, ?_⟩⟩
    · rw [h2 _ (by rw [block_of_add]; exact hb) (by rw [block_of_add]; exact hgl)]
      exact World.ownsRow.cells h (g := g) rfl (k * 2) _ (flatE_fst es k hk)
    · rw [h2 _ (by rw [block_of_add]; exact hb) (by rw [block_of_add]; exact hgl)]
      exact World.ownsRow.cells h (g := g) rfl (k * 2 + 1) _ (flatE_snd es k hk)
theorem EI.keep (h : EI w v es) (hk : ∀ p : Addr, p.block < w.heap.size → w'.cell? p = w.cell? p) : EI w' v es := by
  obtain ⟨A, c, rfl, h⟩ := h
  refine ⟨A, c, rfl, fun k hkk => ?_⟩
  obtain ⟨ad, e, h1, h2⟩ := h k hkk
  exact ⟨ad, e, (hk _ (World.block_lt_of_cell? _ _ h1)).trans h1, (hk _ (World.block_lt_of_cell? _ _ h2)).trans h2⟩
/-- the edge at k -/
theorem EI.elt {A : Option Addr} {n c : Nat} (h : EI w (.slice A n c) es) {k : Nat} (hk : k < es.length) : ∃ ad x y, A = some ad ∧ w.cell? (ad.add (k * 2)) = some (.int .i64 x) ∧ w.cell? ⟨(ad.add (k * 2)).block, (ad.add (k * 2)).off + 1, none⟩ = some (.int .i64 y) ∧ Hid (es.getD k (0, 0) = (x, y)) := by
  obtain ⟨A', c', e, h⟩ := h
  injection e with e1 e2 e3
  subst e1
  obtain ⟨ad, e, h1, h2⟩ := h k hk
  have e2 : ad.add (k * 2 + 1) = ⟨(ad.add (k * 2)).block, (ad.add (k * 2)).off + 1, none⟩ := by
    rw [← add_of_add]; simp [Addr.add]
  rw [e2] at h2
  exact ⟨ad, _, _, e, h1, h2, rfl⟩
end

/-- block gA is a row of slices of edges of the call's own -/
def AE (B : Nat) (w : World) (gA : Nat) (ess : List (List (Int × Int))) : Prop := ∃ us : List Value, us.length = ess.length ∧ Blk w gA 79 us ∧
  (∀ i, i < ess.length → ∃ u, us[i]? = some u ∧ EO B w u (ess.getD i [])) ∧ (∀ (i j : Nat) (u v : Value) (g : Nat), i ≠ j → us[i]? = some u → us[j]? = some v → u.ownBlock = some g → v.ownBlock ≠ some g)
section
variable {B : Nat} {w w' : World} {gA : Nat} {ess : List (List (Int × Int))}
theorem AE.lt (h : AE B w gA ess) : gA < w.heap.size := by obtain ⟨us, _, hb, _⟩ := h; exact hb.lt
theorem AE.made (w : World) (n : Nat) : AE B (w.alloc (.cells (madeCells #[.slice none 0 0] n) 79)) w.heap.size (List.replicate n []) := by
  refine ⟨List.replicate n (.slice none 0 0), by simp, ?_, fun i hi => ?_, fun i j u v g _ hu _ hg => ?_⟩
  · have := Blk.new w 79 (madeCells #[.slice none 0 0] n).toList
    rw [toList_madeCells_one] at this
    have e : (madeCells #[.slice none 0 0] n) = (List.replicate n (Value.slice none 0 0)).toArray := by rw [← toList_madeCells_one]
    rw [e]
    exact this
  · rw [List.length_replicate] at hi
    refine ⟨.slice none 0 0, by simp [hi], ?_⟩
    have : (List.replicate n ([] : List (Int × Int))).getD i [] = [] := by simp [List.getD, hi]
    rw [this]
    exact EO.nil _ _
  · have : u = .slice none 0 0 := by
      have hi := (List.getElem?_eq_some_iff.1 hu)
      obtain ⟨h1, h2⟩ := hi
      rw [← h2]; simp
    subst this
    simp [Value.ownBlock] at hg
/-- another block has turned -/
theorem AE.grown {row : Option Nat} (h : AE B w gA ess) (hg : w.grownBy w' row) (ht : ∀ g, row = some g → ∃ cs t s, w.heap[g]? = some (.cells cs t s) ∧ t ≠ 81 ∧ t ≠ 79) : AE B w' gA ess := by
  obtain ⟨us, hl, hb, he, ha⟩ := h
  refine ⟨us, hl, hb.grown hg fun e => ?_, fun i hi => ?_, ha⟩
  · obtain ⟨cs, t, s, h1, _, h3⟩ := ht gA e.symm
    unfold Blk at hb
    rw [hb] at h1
    injection h1 with h1
    injection h1 with _ h1 _
    exact h3 h1.symm
  · obtain ⟨u, hu, ho⟩ := he i hi
    refine ⟨u, hu, ho.grown hg fun g hgu e => ?_⟩
    obtain ⟨cs, t, s, h1, h2, _⟩ := ht g e
    obtain ⟨cs', h4⟩ := ho.typ hgu
    rw [h4] at h1
    injection h1 with h1
    injection h1 with _ h1 _
    exact h2 h1.symm
theorem AE.on (h : AE B w gA ess) (hb : Below w.heap.size w w') : AE B w' gA ess := h.grown (gr_below hb none) fun g e => by cases e
theorem AE.alloc (h : AE B w gA ess) (o : Obj) : AE B (w.alloc o) gA ess := h.on (bl_alloc w o)
/-- one edge more at p -/
theorem AE.elt (h : AE B w gA ess) {p : Nat} (hp : p < ess.length) (e : Int × Int) : ∃ A n c, n = (ess.getD p []).length ∧ w.cell? ⟨gA, p, none⟩ = some (.slice A n c) ∧ w.frozen? ⟨gA, p, none⟩ = false ∧ Hid (EO B w (.slice A n c) (ess.getD p [])) ∧
    Hid (∀ v' w', EO B w' v' (ess.getD p [] ++ [e]) → w.grownBy w' (Value.slice A n c).ownBlock → (v'.ownBlock = (Value.slice A n c).ownBlock ∨ v'.ownBlock = some w.heap.size) → AE B (w'.setCell ⟨gA, p, none⟩ v') gA (ess.set p (ess.getD p [] ++ [e])) ∧ w.grownBy w' (Value.slice A n c).ownBlock) := by
  obtain ⟨us, hl, hb, he, ha⟩ := h
  obtain ⟨u, hu, ho⟩ := he p hp
  obtain ⟨A, c, rfl⟩ := ho.form'
  refine ⟨A, _, c, rfl, (hb.cell p).trans hu, hb.frozen p, ho, hid' fun v' w' h1 h2 h3 => ⟨?_, h2⟩⟩
  have hne : some gA ≠ (Value.slice A (ess.getD p []).length c).ownBlock := fun e => by
    obtain ⟨cs, h4⟩ := ho.typ e.symm
    unfold Blk at hb
    rw [hb] at h4
    injection h4 with h4
    injection h4 with _ h4 _
    exact absurd h4 (by decide)
  have hb2 := hb.grown h2 hne
  have hv'ne : ∀ g, v'.ownBlock = some g → g ≠ gA := fun g hg e => by
    subst e
    rcases h3 with h3 | h3
    · exact hne (by rw [← h3, hg])
    · rw [h3] at hg
      have := Option.some.inj hg
      have := hb.lt
      omega
  refine ⟨us.set p v', by simp [hl], hb2.set_ p v', fun i hi => ?_, fun i j x y g hij hx hy hg => ?_⟩
  · rw [List.length_set] at hi
    by_cases ei : p = i
    · subst ei
      refine ⟨v', by rw [List.getElem?_set_self (by omega)], ?_⟩
      have : (ess.set p (ess.getD p [] ++ [e])).getD p [] = ess.getD p [] ++ [e] := by simp [List.getD, hp]
      rw [this]
      exact h1.grown (gr_set1 w' gA p v') fun g hg e => hv'ne g hg (Option.some.inj e).symm
    · obtain ⟨x, hx, hox⟩ := he i hi
      refine ⟨x, by rw [List.getElem?_set_ne ei]; exact hx, ?_⟩
      have : (ess.set p (ess.getD p [] ++ [e])).getD i [] = ess.getD i [] := by simp [List.getD, List.getElem?_set_ne ei]
      rw [this]
      refine (hox.grown h2 fun g hg e => ha i p x _ g (fun e => ei e.symm) hx hu hg e).grown (gr_set1 w' gA p v') fun g hg e => ?_
      have e2 := Option.some.inj e
      subst e2
      obtain ⟨cs, h4⟩ := hox.typ hg
      unfold Blk at hb
      rw [hb] at h4
      injection h4 with h4
      injection h4 with _ h4 _
      exact absurd h4 (by decide)
  · by_cases ei : p = i
    · subst ei
      rw [List.getElem?_set_self (by omega)] at hx
      obtain rfl := Option.some.inj hx
      rw [List.getElem?_set_ne hij] at hy
      have hjl : j < ess.length := by have := (List.getElem?_eq_some_iff.1 hy).1; omega
      obtain ⟨y', hy', hoy⟩ := he j hjl
      rw [hy'] at hy
      obtain rfl := Option.some.inj hy
      rcases h3 with h3 | h3
      · rw [h3] at hg
        exact ha p j _ _ g hij hu hy' hg
      · rw [h3] at hg
        obtain rfl := Option.some.inj hg
        intro e
        have := (hoy.lt e).2
        omega
    · rw [List.getElem?_set_ne ei] at hx
      by_cases ej : p = j
      · subst ej
        rw [List.getElem?_set_self (by omega)] at hy
        obtain rfl := Option.some.inj hy
        have hil : i < ess.length := by have := (List.getElem?_eq_some_iff.1 hx).1; omega
        obtain ⟨x', hx', hox⟩ := he i hil
        rw [hx'] at hx
        obtain rfl := Option.some.inj hx
        rcases h3 with h3 | h3
        · rw [h3]
          exact ha i p _ _ g hij hx' hu hg
        · rw [h3]
          intro e
          have := Option.some.inj e
          have := (hox.lt hg).2
          omega
      · rw [List.getElem?_set_ne ej] at hy
        exact ha i j x y g hij hx hy hg
end

section
variable {ops : Array Oper} {rest : List Oper} {o : Oper} {a : Act} {w : World} {K : Act → World → Prop} {Q : Exit → Act → World → Prop} {E : Prop}
/-- 'append(es, e)', es a slice of edges of the call's own -/
theorem step_pushE (hg : o.guard = none) (s x : Operand)
    (ho : o.op = .call { callee := .builtin .append, args := #[s, x], argTypes := #[79, 79] })
    (B : Nat) (v : Value) (es : List (Int × Int)) (hs : a.eval s = v) (hown : EO B w v es) (g c : Nat) (e : Int × Int) (hx : a.eval x = .slice (some ⟨g, 0, none⟩) 1 c) (h0 : w.cell? ⟨g, 0, none⟩ = some (.int .i64 e.1)) (h1 : w.cell? ⟨g, 1, none⟩ = some (.int .i64 e.2))
    (hl : es.length + 1 ≤ 1000000000) (hB : B ≤ w.heap.size)
    (h : ∀ v' w', EO B w' v' (es ++ [e]) → w.grownBy w' v.ownBlock → (v'.ownBlock = v.ownBlock ∨ v'.ownBlock = some w.heap.size) → K (a.put o.dst v') w') :
    if Region.wanted o (yielded ops a.tmps) = true then Oper.wp Try.prog o a w K Q else E := by
  rw [if_pos (by simp [Region.wanted, hg])]
  obtain ⟨i0, hi, hz0, hz1, hz2⟩ := info_parts Try.infoEdge
  obtain ⟨v', w', hrun, r1, r2, _, r4⟩ := run_append_own_at (P := Try.prog) w B 79 o.type 81 i0 (.agg #[.int .i64 0, .int .i64 0]) 2 16 Try.underlying79 hi hz0 hz1 hz2 rfl (by decide) v es.length (flatE es) hown
    ⟨g, 0, none⟩ 1 c [.int .i64 e.1, .int .i64 e.2] rfl (by
      intro j u hj
      match j, hj with
      | 0, hj => simp at hj; subst hj; simpa [Addr.add] using h0
      | 1, hj => simp at hj; subst hj; simpa [Addr.add] using h1) (by intro u hu; simp at hu; rcases hu with rfl | rfl <;> rfl) (by unfold maxLen; omega) (by omega) hB
  unfold Oper.wp execOp
  simp only [ho, resolve, invoke, builtin, Sem.run_bind, Sem.run_pure, Result.andThen_ok, List.map_toArray, List.map_cons, List.map_nil, hs, hx, hrun]
  refine h v' w' ?_ r2 r4
  unfold EO
  rw [flatE_append, List.length_append]
  exact r1
end
/-- 'make([][]edge, n)' -/
theorem run_mkE (n : Nat) (h : n ≤ 1000000) (w : World) : (Instr.makeSlice 75 (.int .i64 (n : Int)) (.int .i64 (n : Int))).run Try.prog w =
    .ok (.slice (some ⟨w.heap.size, 0, none⟩) n n) (w.alloc (.cells (madeCells #[.slice none 0 0] n) 79)) :=
  run_make_row' (P := Try.prog) 75 79 (.slice none 0 0) 24 Try.underlying75 Try.infoEdges rfl .i64 .i64 n (by omega) (by omega) w

/-- the row gA of slices of edges reads as ess -/
def EEat (w : World) (gA : Nat) (ess : List (List (Int × Int))) : Prop := ∀ p, p < ess.length → ∃ u, w.cell? ⟨gA, p, none⟩ = some u ∧ EI w u (ess.getD p [])
theorem EEat.keep {w w' : World} {gA : Nat} {ess : List (List (Int × Int))} (h : EEat w gA ess) (hk : ∀ p : Addr, p.block < w.heap.size → w'.cell? p = w.cell? p) : EEat w' gA ess := fun p hp => by
  obtain ⟨u, hc, he⟩ := h p hp
  exact ⟨u, (hk _ (World.block_lt_of_cell? _ _ hc)).trans hc, he.keep hk⟩
theorem AE.sep {B : Nat} {w : World} {gA : Nat} {ess : List (List (Int × Int))} (h : AE B w gA ess) (hA : B ≤ gA) : Sep B w fun w2 => EEat w2 gA ess := fun w2 h2 p hp => by
  obtain ⟨us, hl, hb, he, ha⟩ := h
  obtain ⟨u, hu, ho⟩ := he p hp
  exact ⟨u, (h2 ⟨gA, p, none⟩ hA hb.lt).trans ((hb.cell p).trans hu), ho.sep w2 h2⟩
theorem EEat.elt {w : World} {gA : Nat} {ess : List (List (Int × Int))} (h : EEat w gA ess) {p : Nat} (hp : p < ess.length) : ∃ A c es, w.cell? ⟨gA, p, none⟩ = some (.slice A es.length c) ∧ Hid (EI w (.slice A es.length c) es) ∧ Hid (ess.getD p [] = es) := by
  obtain ⟨u, hc, A, c, hu, h⟩ := h p hp
  subst hu
  exact ⟨A, c, _, hc, ⟨A, c, rfl, h⟩, rfl⟩

/-- block g is a graph: its checks, and the edges of each position -/
def GR (w : World) (g : Nat) (cks : List (List Int)) (ess : List (List (Int × Int))) : Prop := ∃ cv gA, w.cell? ⟨g, 0, none⟩ = some cv ∧ w.cell? ⟨g, 1, none⟩ = some (.slice (some ⟨gA, 0, none⟩) ess.length ess.length) ∧ SS w cv cks ∧ EEat w gA ess
theorem GR.keep {w w' : World} {g : Nat} {cks : List (List Int)} {ess : List (List (Int × Int))} (h : GR w g cks ess) (hk : ∀ p : Addr, p.block < w.heap.size → w'.cell? p = w.cell? p) : GR w' g cks ess := by
  obtain ⟨cv, gA, h0, h1, ⟨A, c, rfl, hs⟩, he⟩ := h
  exact ⟨_, gA, (hk _ (World.block_lt_of_cell? _ _ h0)).trans h0, (hk _ (World.block_lt_of_cell? _ _ h1)).trans h1, ⟨A, c, rfl, hs.keep hk⟩, he.keep hk⟩
theorem GR.below {w w' : World} {g : Nat} {cks : List (List Int)} {ess : List (List (Int × Int))} {B : Nat} (h : GR w g cks ess) (hb : Below B w w') (hB : w.heap.size ≤ B) : GR w' g cks ess := h.keep fun _ hp => hb.cell (Nat.lt_of_lt_of_le hp hB)
theorem GR.on {w w' : World} {g : Nat} {cks : List (List Int)} {ess : List (List (Int × Int))} (h : GR w g cks ess) (hb : Below w.heap.size w w') : GR w' g cks ess := h.below hb (Nat.le_refl _)
end Go.Proofs.Ytgabhlalamnbgaa

/- Slices of slices of ints of the call's own, beside blocks of other types and one row that grows. -/
namespace Go.Proofs.Ytgabhlalamnbgaa
open Go.RowKit
set_option linter.unusedVariables false

/-- block g is one of ints -/
def IntB (w : World) (g : Nat) : Prop := ∃ cs s, w.heap[g]? = some (.cells cs 3 s)
/-- the blocks in which no row of ints lies, and that of l -/
def XI (B : Nat) (w : World) (l : Value) (g : Nat) : Prop := g < B ∨ ¬ IntB w g ∨ l.ownBlock = some g
/-- checks v of the call's own, beside a row l that grows -/
def CK (B : Nat) (w : World) (v l : Value) (xss : List (List Int)) : Prop := OS B (XI B w l) w v xss
theorem IntB.lt {w : World} {g : Nat} (h : IntB w g) : g < w.heap.size := by
  obtain ⟨cs, s, h⟩ := h
  exact (Array.getElem?_eq_some_iff.1 h).1
theorem OI.intB {B : Nat} {w : World} {v : Value} {xs : List Int} (h : OI B w v xs) {g : Nat} (hg : v.ownBlock = some g) : IntB w g := by
  rcases h.2 with ⟨rfl, _⟩ | ⟨g', cap, cur, rfl, _, hc, _⟩
  · simp [Value.ownBlock] at hg
  · simp [Value.ownBlock] at hg; subst hg; exact ⟨_, _, hc⟩
theorem OS.ne_int {B : Nat} {X : Nat → Prop} {w : World} {v : Value} {l : List (List Int)} (h : OS B X w v l) {g : Nat} (hg : v.ownBlock = some g) : ¬ IntB w g := by
  obtain ⟨us, hr, _⟩ := h
  rcases hr.2 with ⟨rfl, _⟩ | ⟨g2, cap2, cur2, rfl, _, hc2, _⟩
  · simp [Value.ownBlock] at hg
  · simp [Value.ownBlock] at hg; subst hg
    rintro ⟨cs, s, h1⟩
    rw [hc2] at h1
    injection h1 with h1
    injection h1 with _ h1 _
    exact absurd h1 (by decide)
theorem OS.typ {B : Nat} {X : Nat → Prop} {w : World} {v : Value} {l : List (List Int)} (h : OS B X w v l) {g : Nat} (hg : v.ownBlock = some g) : ∃ cs, w.heap[g]? = some (.cells cs 25 (0, 0)) := by
  obtain ⟨us, hr, _⟩ := h
  rcases hr.2 with ⟨rfl, _⟩ | ⟨g2, cap2, cur2, rfl, _, hc2, _⟩
  · simp [Value.ownBlock] at hg
  · simp [Value.ownBlock] at hg; subst hg; exact ⟨_, hc2⟩
/-- a block of another type -/
theorem not_int {w : World} {g : Nat} {cs : Array Value} {t : TypeId} {s : Nat × Nat} (h : w.heap[g]? = some (.cells cs t s)) (ht : t ≠ 3) : ¬ IntB w g := by
  rintro ⟨cs', s', h1⟩
  rw [h] at h1
  injection h1 with h1
  injection h1 with _ h1 _
  exact ht h1
section
variable {B : Nat} {w w' : World} {v l l' : Value} {xss : List (List Int)}
theorem OS.renew {w0 w1 : World} {l0 l1 : Value} (h : OS B (XI B w0 l0) w1 v xss) (hi : ∀ g, IntB w0 g → l0.ownBlock ≠ some g → IntB w1 g ∧ l1.ownBlock ≠ some g) : CK B w1 v l1 xss :=
  h.names fun g _ hg => Classical.byContradiction fun hn => by
    have h1 : IntB w0 g := Classical.byContradiction fun h => hn (.inr (.inl h))
    have h2 : l0.ownBlock ≠ some g := fun h => hn (.inr (.inr h))
    obtain ⟨h3, h4⟩ := hi g h1 h2
    rcases hg with hg | hg | hg
    · exact hn (.inl hg)
    · exact hg h3
    · exact h4 hg
theorem CK.nil (B : Nat) (w : World) (l : Value) : CK B w (.slice none 0 0) l [] := OS.nil _ _ _
theorem CK.on (h : CK B w v l xss) (hb : Below w.heap.size w w') : CK B w' v l xss :=
  OS.renew (OS.below h hb) fun g h1 h2 => ⟨by obtain ⟨cs, s, hc⟩ := h1; exact ⟨cs, s, (hb.block g (Array.getElem?_eq_some_iff.1 hc).1).trans hc⟩, h2⟩
/-- a block of another type has turned -/
theorem CK.grown {row : Option Nat} (h : CK B w v l xss) (hg : w.grownBy w' row) (ht : ∀ g, row = some g → v.ownBlock ≠ some g ∧ ¬ IntB w g) : CK B w' v l xss :=
  OS.renew (OS.grown h hg fun g e => ⟨(ht g e).1, .inr (.inl (ht g e).2)⟩) fun g h1 h2 => ⟨by
    obtain ⟨cs, s, hc⟩ := h1
    refine ⟨cs, s, (hg.block g (Array.getElem?_eq_some_iff.1 hc).1 fun e => ?_).trans hc⟩
    exact (ht g e.symm).2 ⟨cs, s, hc⟩, h2⟩
/-- the row l has grown -/
theorem CK.push (h : CK B w v l xss) {C : Nat} {xs : List Int} (hl : OI C w l xs) (hg : w.grownBy w' l.ownBlock) (hl' : l'.ownBlock = l.ownBlock ∨ l'.ownBlock = some w.heap.size) : CK B w' v l' xss :=
  OS.renew (OS.grown h hg fun g e => ⟨OS.ne_oi h hl e, .inr (.inr e)⟩) fun g h1 h2 => ⟨by
    obtain ⟨cs, s, hc⟩ := h1
    exact ⟨cs, s, (hg.block g (Array.getElem?_eq_some_iff.1 hc).1 fun e => h2 e.symm).trans hc⟩, by
    rcases hl' with e | e
    · rw [e]; exact h2
    · rw [e]; intro e2; have := Option.some.inj e2; have := h1.lt; omega⟩
/-- the row is to be laid beside the others -/
theorem CK.out (h : CK B w v l xss) : OS B (XI B w (.slice none 0 0)) w v xss := OS.names h fun g _ hg => by
  rcases hg with hg | hg | hg
  · exact .inl hg
  · exact .inr (.inl hg)
  · simp [Value.ownBlock] at hg
theorem CK.apart {xs : List Int} (h : CK B w v l xss) (hl : OI B w l xs) : 0 < xs.length → ∀ g, l.ownBlock = some g → v.ownBlock ≠ some g ∧ ¬ XI B w (.slice none 0 0) g := fun _ g hg =>
  ⟨OS.ne_oi h hl hg, fun hx => by
    rcases hx with hx | hx | hx
    · have := (hl.lt hg).1; omega
    · exact hx (hl.intB hg)
    · simp [Value.ownBlock] at hx⟩
/-- behind an append of a row -/
theorem CK.laid {row : Option Nat} {v0 : Value} {yss : List (List Int)} (h : OS B (XI B w (.slice none 0 0)) w' v xss) (h0 : OS B (XI B w l) w v0 yss) (hr : row = v0.ownBlock) (hg : w.grownBy w' row) : CK B w' v (.slice none 0 0) xss :=
  OS.renew h fun g h1 h2 => ⟨by
    obtain ⟨cs, s, hc⟩ := h1
    refine ⟨cs, s, (hg.block g (Array.getElem?_eq_some_iff.1 hc).1 fun e => ?_).trans hc⟩
    exact OS.ne_int h0 (by rw [← hr]; exact e.symm) ⟨cs, s, hc⟩, by simp [Value.ownBlock]⟩
end
theorem CK.sep {B : Nat} {w : World} {v l : Value} {xss : List (List Int)} (h : CK B w v l xss) (hl : xss.length ≤ 17592186044416) : Sep B w fun w2 => SS w2 v xss := OS.sep h (fun g hg => .inl hg) hl
end Go.Proofs.Ytgabhlalamnbgaa

/- The graph of a matrix of bits: the positions of each check, the edges of each position. No program in sight. -/
namespace Go.Proofs.Ytgabhlalamnbgaa

theorem filt_yes {f : Nat → Bool} {k : Nat} (h : f k = true) : (List.range (k + 1)).filter f = (List.range k).filter f ++ [k] := by rw [List.range_succ, List.filter_append]; simp [h]
theorem filt_no {f : Nat → Bool} {k : Nat} (h : f k = false) : (List.range (k + 1)).filter f = (List.range k).filter f := by rw [List.range_succ, List.filter_append]; simp [h]
/-- the positions below k at which a row has 1 -/
def onesTo (row : List Int) (k : Nat) : List Int := ((List.range k).filter fun p => row.getD p 0 == 1).map fun (p : Nat) => (p : Int)
theorem onesTo_zero (row : List Int) : onesTo row 0 = [] := rfl
theorem onesTo_yes {row : List Int} {k : Nat} (h : row.getD k 0 = 1) : onesTo row (k + 1) = onesTo row k ++ [(k : Int)] := by
  unfold onesTo
  rw [filt_yes (by rw [beq_iff_eq]; exact h), List.map_append]; rfl
theorem onesTo_no {row : List Int} {k : Nat} (h : row.getD k 0 ≠ 1) : onesTo row (k + 1) = onesTo row k := by
  unfold onesTo
  rw [filt_no (by rw [beq_eq_false_iff_ne]; exact h)]
theorem onesTo_len (row : List Int) (k : Nat) : (onesTo row k).length ≤ k := by
  unfold onesTo
  rw [List.length_map]
  have := List.length_filter_le (fun p => row.getD p 0 == 1) (List.range k)
  simpa using this
theorem onesTo_mem {row : List Int} {k : Nat} {x : Int} : x ∈ onesTo row k ↔ ∃ p : Nat, x = (p : Int) ∧ p < k ∧ row.getD p 0 = 1 := by
  unfold onesTo
  rw [List.mem_map]
  constructor
  · rintro ⟨p, hp, rfl⟩
    rw [List.mem_filter, List.mem_range] at hp
    exact ⟨p, rfl, hp.1, by simpa using hp.2⟩
  · rintro ⟨p, rfl, h1, h2⟩
    exact ⟨p, by rw [List.mem_filter, List.mem_range]; exact ⟨h1, by simpa using h2⟩, rfl⟩
theorem onesTo_bd (row : List Int) (k j : Nat) : 0 ≤ (onesTo row k).getD j 0 ∧ (onesTo row k).getD j 0 ≤ k := by
  by_cases h : j < (onesTo row k).length
  · have hm : (onesTo row k).getD j 0 ∈ onesTo row k := by rw [List.getD_eq_getElem?_getD, List.getElem?_eq_getElem h]; exact List.getElem_mem h
    obtain ⟨p, hp, h1, _⟩ := onesTo_mem.1 hm
    omega
  · rw [getD_len (by omega)]; omega
/-- the edges of position p, of the first i rows: the row, and the place in its check -/
def edgesTo (rows : List (List Int)) (p i : Nat) : List (Int × Int) := ((List.range i).filter fun j => (rows.getD j []).getD p 0 == 1).map fun (j : Nat) => ((j : Int), ((onesTo (rows.getD j []) p).length : Int))
theorem edgesTo_yes {rows : List (List Int)} {p i : Nat} (h : (rows.getD i []).getD p 0 = 1) : edgesTo rows p (i + 1) = edgesTo rows p i ++ [((i : Int), ((onesTo (rows.getD i []) p).length : Int))] := by
  unfold edgesTo
  rw [filt_yes (by rw [beq_iff_eq]; exact h), List.map_append]; rfl
theorem edgesTo_no {rows : List (List Int)} {p i : Nat} (h : (rows.getD i []).getD p 0 ≠ 1) : edgesTo rows p (i + 1) = edgesTo rows p i := by
  unfold edgesTo
  rw [filt_no (by rw [beq_eq_false_iff_ne]; exact h)]
theorem edgesTo_len (rows : List (List Int)) (p i : Nat) : (edgesTo rows p i).length ≤ i := by
  unfold edgesTo
  rw [List.length_map]
  have := List.length_filter_le (fun j => (rows.getD j []).getD p 0 == 1) (List.range i)
  simpa using this
/-- in row i, behind k columns -/
def atTo (rows : List (List Int)) (n i k : Nat) : List (List (Int × Int)) := (List.range n).map fun p => edgesTo rows p (if p < k then i + 1 else i)
theorem atTo_len (rows : List (List Int)) (n i k : Nat) : (atTo rows n i k).length = n := by simp [atTo]
theorem atTo_getD {rows : List (List Int)} {n i k p : Nat} (h : p < n) : (atTo rows n i k).getD p [] = edgesTo rows p (if p < k then i + 1 else i) := by simp [atTo, List.getD, h]
theorem atTo_start (rows : List (List Int)) (n : Nat) : atTo rows n 0 0 = List.replicate n [] := by simp [atTo, edgesTo, List.map_const']
theorem atTo_end (rows : List (List Int)) (n i : Nat) : atTo rows n i n = atTo rows n (i + 1) 0 := List.map_congr_left fun p hp => by rw [if_pos (by simpa using hp), if_neg (by omega)]
theorem atTo_yes {rows : List (List Int)} {n i k : Nat} (hk : k < n) (h : (rows.getD i []).getD k 0 = 1) : (atTo rows n i k).set k ((atTo rows n i k).getD k [] ++ [((i : Int), ((onesTo (rows.getD i []) k).length : Int))]) = atTo rows n i (k + 1) := by
  rw [atTo_getD hk, if_neg (by omega), ← edgesTo_yes h]
  apply List.ext_getElem?
  intro p
  by_cases hp : p < n
  · by_cases e : k = p
    · subst e; simp [atTo, hp]
    · have h2 : (p < k + 1) = (p < k) := by simp; omega
      simp [atTo, List.getElem?_set, e, hp, h2]
  · simp [atTo, List.getElem?_set, hp]
theorem atTo_no {rows : List (List Int)} {n i k : Nat} (h : (rows.getD i []).getD k 0 ≠ 1) : atTo rows n i (k + 1) = atTo rows n i k := List.map_congr_left fun p hp => by
  by_cases e : p = k
  · subst e; rw [if_pos (by omega), if_neg (by omega), edgesTo_no h]
  · by_cases h2 : p < k
    · rw [if_pos (by omega), if_pos h2]
    · rw [if_neg (by omega), if_neg h2]
/-- the checks of the first i rows -/
def cksTo (rows : List (List Int)) (n i : Nat) : List (List Int) := (List.range i).map fun j => onesTo (rows.getD j []) n
theorem cksTo_succ (rows : List (List Int)) (n i : Nat) : cksTo rows n (i + 1) = cksTo rows n i ++ [onesTo (rows.getD i []) n] := by unfold cksTo; rw [List.range_succ, List.map_append]; rfl
theorem cksTo_len (rows : List (List Int)) (n i : Nat) : (cksTo rows n i).length = i := by simp [cksTo]
theorem cksTo_getD {rows : List (List Int)} {n i j : Nat} (h : j < i) : (cksTo rows n i).getD j [] = onesTo (rows.getD j []) n := by simp [cksTo, List.getD, h]
end Go.Proofs.Ytgabhlalamnbgaa
