/- Texts of a claim, merged: words, plain facts and walks that the last of its texts uses. -/
import Derived.Test.YtodgdoglhecolaaGreatZA3
import Derived.Test.YtodgdoglhecolaaGreatZA4
import Derived.Test.YtodgdoglhecolaaGreatZA5
import Derived.Deep.CutRange
import Derived.Lib.LazyBuf
import Derived.WalkSpells
import Derived.BigQuiet
set_option linter.unusedSimpArgs false
set_option linter.unusedVariables false

namespace Go.Proofs.YtodgdoglhecolaaGreat
open Go.RowKit
set_option maxRecDepth 100000
structure GFat (w : World) (a : Nat) (P M : Int) (Mod : List Int) (q : Nat) (mv : Value) (ge ce gl cl : Nat) (E L : List Int) : Prop where
 c0 : w.cell? ⟨a, 0, none⟩ = some (.int .i64 P)
 c1 : w.cell? ⟨a, 1, none⟩ = some (.int .i64 M)
 c2 : w.cell? ⟨a, 2, none⟩ = some mv
 c3 : w.cell? ⟨a, 3, none⟩ = some (.int .i64 (q : Int))
 c4 : w.cell? ⟨a, 4, none⟩ = some (.slice (some ⟨ge, 0, none⟩) (q - 1) ce)
 c5 : w.cell? ⟨a, 5, none⟩ = some (.slice (some ⟨gl, 0, none⟩) q cl)
 mod : SI w mv Mod
 exp : ∀ k, k < q - 1 → w.cell? ⟨ge, k, none⟩ = some (.int .i64 (E.getD k 0))
 log : ∀ k, k < q → w.cell? ⟨gl, k, none⟩ = some (.int .i64 (L.getD k 0))
 tab : TabP (refOps P M Mod) q E L
 fld : FieldP P M Mod
 ord : orderF P M = (q : Int)
def GF (w : World) (a : Nat) (P M : Int) (Mod : List Int) : Prop := ∃ q mv ge ce gl cl E L, GFat w a P M Mod q mv ge ce gl cl E L
theorem GFat.keep {w w' : World} {a : Nat} {P M : Int} {Mod : List Int} {q : Nat} {mv : Value} {ge ce gl cl : Nat} {E L : List Int} (h : GFat w a P M Mod q mv ge ce gl cl E L) (hk : ∀ p : Addr, p.block < w.heap.size → w'.cell? p = w.cell? p) : GFat w' a P M Mod q mv ge ce gl cl E L :=
 have key : ∀ {p : Addr} {v : Value}, w.cell? p = some v → w'.cell? p = some v := fun h => (hk _ (World.block_lt_of_cell? _ _ h)).trans h
 ⟨key h.c0, key h.c1, key h.c2, key h.c3, key h.c4, key h.c5, h.mod.keep hk, fun k hk' => key (h.exp k hk'), fun k hk' => key (h.log k hk'), h.tab, h.fld, h.ord⟩
theorem GF.keep {w w' : World} {a : Nat} {P M : Int} {Mod : List Int} (h : GF w a P M Mod) (hk : ∀ p : Addr, p.block < w.heap.size → w'.cell? p = w.cell? p) : GF w' a P M Mod := by
 obtain ⟨q, mv, ge, ce, gl, cl, E, L, h⟩ := h
 exact ⟨q, mv, ge, ce, gl, cl, E, L, h.keep hk⟩
theorem GF.below {w w' : World} {a : Nat} {P M : Int} {Mod : List Int} {B : Nat} (h : GF w a P M Mod) (hb : Below B w w') (hB : w.heap.size ≤ B) : GF w' a P M Mod := h.keep fun _ hp => hb.cell (Nat.lt_of_lt_of_le hp hB)
theorem GF.on {w w' : World} {a : Nat} {P M : Int} {Mod : List Int} (h : GF w a P M Mod) (hb : Below w.heap.size w w') : GF w' a P M Mod := h.below hb (Nat.le_refl _)
theorem GF.fld {w : World} {a : Nat} {P M : Int} {Mod : List Int} (h : GF w a P M Mod) : FieldP P M Mod := by
 obtain ⟨q, mv, ge, ce, gl, cl, E, L, h⟩ := h
 exact h.fld
theorem GF.sep {B : Nat} {w : World} {a : Nat} {P M : Int} {Mod E L : List Int} {q : Nat} {mv : Value} {ge ce gl cl : Nat} (ha : B ≤ a)
  (hb : Blk w a 122 [.int .i64 P, .int .i64 M, mv, .int .i64 (q : Int), .slice (some ⟨ge, 0, none⟩) (q - 1) ce, .slice (some ⟨gl, 0, none⟩) q cl])
  (hm : OI B w mv Mod) (hml : Mod.length ≤ 17592186044416) (hmw : ∀ k, I64 (Mod.getD k 0)) (he : OI B w (.slice (some ⟨ge, 0, none⟩) (q - 1) ce) E) (hl : RI w gl L) (hgl : B ≤ gl)
  (ht : TabP (refOps P M Mod) q E L) (hf : FieldP P M Mod) (ho : orderF P M = (q : Int)) : Sep B w fun w2 => GF w2 a P M Mod := fun w2 h2 => by
 have hal := hb.lt
 have ca : ∀ i, w2.cell? ⟨a, i, none⟩ = w.cell? ⟨a, i, none⟩ := fun i => h2 ⟨a, i, none⟩ ha hal
 have hge : B ≤ ge ∧ ge < w.heap.size := he.lt rfl
 refine ⟨q, mv, ge, ce, gl, cl, E, L, (ca 0).trans (hb.cell 0), (ca 1).trans (hb.cell 1), (ca 2).trans (hb.cell 2), (ca 3).trans (hb.cell 3), (ca 4).trans (hb.cell 4), (ca 5).trans (hb.cell 5), (hm.sep hml hmw) w2 h2, fun k hk => ?_, fun k hk => ?_, ht, hf, ho⟩
 ·rw [h2 ⟨ge, k, none⟩ hge.1 hge.2]
  exact he.cell k (by rw [ht.el]; exact hk)
 ·rw [h2 ⟨gl, k, none⟩ hgl hl.lt]
  exact hl.cell k (by rw [ht.ll]; exact hk)
def RetG (w : World) (P M : Int) (Mod : List Int) (e : Ending) (w' : World) : Prop := ∃ a, e = .returned (.tuple #[.pointer (some ⟨a, 0, none⟩), .int .i64 0]) ∧ Sep w.heap.size w' (fun w2 => GF w2 a P M Mod) ∧ Below w.heap.size w w'
def RetG0 (w : World) (e : Ending) (w' : World) : Prop := e = .returned (.tuple #[.pointer none, .int .i64 1]) ∧ Below w.heap.size w w'
set_option maxHeartbeats 8000000 in
theorem new_no (w : World) (P M : Int) (mv : Value) (Mod : List Int) (h : SI w mv Mod) (hf : ¬ FieldP P M Mod) :
  Calls Tryz.prog 65 #[.agg #[.int .i64 P, .int .i64 M, mv]] w (RetG0 w) := by
 have HM := Lib.hid h; clear h
 have HF := Lib.hid (FBox.mk' w P M mv)
 by_cases hs : ShapeP P M Mod
 ·have HG : Hid (genL (refOps P M Mod) (orderF P M) = []) := gen_none hs hf
  have HS := Lib.hid hs
  have HSB : Hid (shapeB P M Mod = true) := shapeB_true hs
  have hq2 := one_lt_order hs.1
  have hqb := orderF_bounds P M
  generalize hq : orderF P M = q at HG hq2 hqb
  have HQ := Lib.hid hq; clear hq hs hf
  go_enter Tryz.func65, Tryz.ntmps65
  go_wp2_with fail
  obtain ⟨w0, hw0⟩ : ∃ w0, w0 = w.alloc (.cells #[.int .i64 P, .int .i64 M, mv] 24) := ⟨_, rfl⟩
  rw [← hw0] at HF ⊢
  clear hw0
  have c0 := HF.out.c0; have c1 := HF.out.c1; have c2 := HF.out.c2
  go_wp2_with fail
  refine (shape_any _ P M mv Mod (HM.out.below HF.out.bel (Nat.le_refl _))).mono ?_
  rintro e w1 ⟨rfl, hb1⟩
  rw [HSB.out]
  have HF1 := Lib.hid (HF.out.on hb1); clear hb1 c0 c1 c2
  have c0 := HF1.out.c0; have c1 := HF1.out.c1; have c2 := HF1.out.c2
  go_wp2_with fail
  refine (forder_any _ _ _).mono ?_
  rintro e w2 ⟨rfl, rfl⟩
  go_wp2_with fail
  refine (generator_any _ P M mv Mod (HM.out.below HF1.out.bel (Nat.le_refl _)) HS.out).mono ?_
  rintro e w2 ⟨u, rfl, _, hn, hb2⟩
  obtain rfl := hn (by rw [HQ.out]; exact HG.out)
  have hnil := fun (w : World) (l c : Nat) => run_eql_slice_nil (P := Tryz.prog) w 22 3 none l c Tryz.underlying22
  have HF2 := Lib.hid (HF1.out.on hb2); clear hb2 c0 c1 c2 hn
  go_wp2_with fail
  go_ret2
  exact ⟨rfl, HF2.out.bel⟩
 ·have HSB : Hid (shapeB P M Mod = false) := shapeB_false hs
  clear hs hf
  go_enter Tryz.func65, Tryz.ntmps65
  go_wp2_with fail
  obtain ⟨w0, hw0⟩ : ∃ w0, w0 = w.alloc (.cells #[.int .i64 P, .int .i64 M, mv] 24) := ⟨_, rfl⟩
  rw [← hw0] at HF ⊢
  clear hw0
  have c0 := HF.out.c0; have c1 := HF.out.c1; have c2 := HF.out.c2
  go_wp2_with fail
  refine (shape_any _ P M mv Mod (HM.out.below HF.out.bel (Nat.le_refl _))).mono ?_
  rintro e w1 ⟨rfl, hb1⟩
  rw [HSB.out]
  have HF1 := Lib.hid (HF.out.on hb1); clear hb1 c0 c1 c2
  go_wp2_with fail
  go_ret2
  exact ⟨rfl, HF1.out.bel⟩
set_option maxHeartbeats 16000000 in
theorem new_ok (w : World) (P M : Int) (mv : Value) (Mod : List Int) (h : SI w mv Mod) (hf : FieldP P M Mod) :
   Calls Tryz.prog 65 #[.agg #[.int .i64 P, .int .i64 M, mv]] w (RetG w P M Mod) := by
 have HM := Lib.hid h; clear h
 have HF := Lib.hid (FBox.mk' w P M mv)
 have hs : ShapeP P M Mod := ⟨hf.1, hf.2.1, hf.2.2.1⟩
 have hO := ref_fld hf
 obtain ⟨x, hx, hord, hgen⟩ := gen_field hO
 have HSB : Hid (shapeB P M Mod = true) := shapeB_true hs
 have hq2 := one_lt_order hs.1
 have hqb := orderF_bounds P M
 have hml : Mod.length ≤ 100000 := by
   obtain ⟨h1, h2⟩ := hs.2.2
   obtain ⟨_, _, h3, h4, _, _⟩ := order_ne hs.1
   by_cases e : M = 1
   · rw [h1 e]; simp
   · have := (h2 e).1; omega
 obtain ⟨q, hq⟩ : ∃ q : Nat, orderF P M = (q : Int) := ⟨(orderF P M).toNat, by omega⟩
 have HQ := Lib.hid hq
 rw [hq] at hx hord hgen hq2 hqb hO
 rw [Int.toNat_natCast] at hord hgen
 have HT := Lib.hid (tab_of hO hx hord)
 have hq1 : 1 < q := by omega
 have hq256 : q ≤ 256 := by omega
 have HGE : Hid (genL (refOps P M Mod) (orderF P M) = (List.range (q - 1)).map (powO (refOps P M Mod) x)) := by show _ = _; rw [hq]; exact hgen
 obtain ⟨E, hE⟩ : ∃ E, E = (List.range (q - 1)).map (powO (refOps P M Mod) x) := ⟨_, rfl⟩
 rw [← hE] at HT HGE
 have HS := Lib.hid hs; have HFLD := Lib.hid hf
 clear hE hgen hord hx hs hf hq hO
 have hEl : E.length = q - 1 := HT.out.el
 have HEU : Hid (∀ k, k < q - 1 → 0 ≤ E.getD k 0 ∧ E.getD k 0 < (q : Int)) := hid' fun k hk => by
   have := HT.out.unit (by rw [← HQ.out]; exact ref_fld HFLD.out) hk
   have h1 := this.1; have h2 := this.2; omega
 have HEL := Lib.hid hEl; clear hEl
 have hmki := fun (w : World) => run_mkI q (by omega) w
 go_enter Tryz.func65, Tryz.ntmps65
 go_wp2_with fail
 obtain ⟨w0, hw0⟩ : ∃ w0, w0 = w.alloc (.cells #[.int .i64 P, .int .i64 M, mv] 24) := ⟨_, rfl⟩
 rw [← hw0] at HF ⊢
 clear hw0
 have c0 := HF.out.c0; have c1 := HF.out.c1; have c2 := HF.out.c2
 go_wp2_with fail
 refine (shape_any _ P M mv Mod (HM.out.below HF.out.bel (Nat.le_refl _))).mono ?_
 rintro e w1 ⟨rfl, hb1⟩
 rw [HSB.out]
 have HF1 := Lib.hid (HF.out.on hb1); clear hb1 c0 c1 c2
 have c0 := HF1.out.c0; have c1 := HF1.out.c1; have c2 := HF1.out.c2
 go_wp2_with fail
 refine (forder_any _ _ _).mono ?_
 rintro e w2 ⟨rfl, rfl⟩
 go_wp2_with fail
 refine (generator_any _ P M mv Mod (HM.out.below HF1.out.bel (Nat.le_refl _)) HS.out).mono ?_
 rintro e w2 ⟨u, rfl, hou, _, hb2⟩
 rw [HGE.out] at hou
 obtain ⟨ge, ce, rfl, hge1, hge2⟩ := hou.form (by rw [HEL.out]; omega)
 rw [HEL.out] at hou ⊢
 have HE2 := Lib.hid (hou.mono HF1.out.bel.size)
 have HF2 := Lib.hid (HF1.out.on hb2); clear hb2 c0 c1 c2 hou
 have hnil := fun (w : World) (l c : Nat) => run_eql_slice_nil (P := Tryz.prog) w 22 3 (some ⟨ge, 0, none⟩) l c Tryz.underlying22
 rw [HQ.out]
 have c0 := HF2.out.c0; have c1 := HF2.out.c1; have c2 := HF2.out.c2
 go_upto_region 7 with fail
 clear hnil
 go_cut [6] from 22 to 36 (fun t6 wc => ∃ a mv2 gl, t6 = .pointer (some ⟨a, 0, none⟩) ∧ w2.heap.size ≤ a ∧ w2.heap.size ≤ gl ∧ a ≠ gl ∧ Hid (Blk wc a 122 [.int .i64 P, .int .i64 M, mv2, .int .i64 (q : Int), .slice (some ⟨ge, 0, none⟩) (q - 1) ce, .slice (some ⟨gl, 0, none⟩) q q]) ∧ Hid (OI w2.heap.size wc mv2 Mod) ∧ Hid (RI wc gl (List.replicate q 0)) ∧ Hid (∀ g, mv2.ownBlock = some g → g ≠ gl) ∧ Hid (Below w2.heap.size w2 wc))
 case first =>
   refine Kept.start (S := fun w' => w'.cell? ⟨w.heap.size, 0, none⟩ = some (.int .i64 P) ∧ w'.cell? ⟨w.heap.size, 1, none⟩ = some (.int .i64 M) ∧ w'.cell? ⟨w.heap.size, 2, none⟩ = some mv) (by kernel_rfl) (⟨c0, c1, c2⟩) (fun hHeld => ?_)
   change Kept _ _ _ _ 16 _ _ _
   have hdrew := bl_drew w2
   generalize w2.drew = wq1 at hdrew hHeld ⊢
   have HB := Lib.hid hdrew
   clear c0 c1 c2
   clear hdrew
   refine Kept.tk 0 (v := ?_) rfl ?_ hHeld ?_
   rotate_left
   · intro w' h; (try dsimp only at h); go_simp <;> with_reducible rfl
   try simp only [tda, tdb, tdc, Act.put, tdd, tde, tdf]
   refine Kept.tk 1 (v := ?_) rfl ?_ hHeld ?_
   rotate_left
   · intro w' h; (try dsimp only at h); go_simp <;> with_reducible rfl
   try simp only [tda, tdb, tdc, Act.put, tdd, tde, tdf]
   refine Kept.tk 2 (v := ?_) rfl ?_ hHeld ?_
   rotate_left
   · intro w' h; (try dsimp only at h); go_simp <;> with_reducible rfl
   try simp only [tda, tdb, tdc, Act.put, tdd, tde, tdf]
   refine Kept.tk 3 (v := ?_) rfl ?_ hHeld ?_
   rotate_left
   · intro w' h; (try dsimp only at h); go_simp <;> with_reducible rfl
   try simp only [tda, tdb, tdc, Act.put, tdd, tde, tdf]
   refine Kept.tk 5 (v := ?_) rfl ?_ hHeld ?_
   rotate_left
   · intro w' h; (try dsimp only at h); go_simp <;> with_reducible rfl
   try simp only [tda, tdb, tdc, Act.put, tdd, tde, tdf]
   refine Kept.tk 6 (v := ?_) rfl ?_ hHeld ?_
   rotate_left
   · intro w' h; (try dsimp only at h); go_simp <;> with_reducible rfl
   try simp only [tda, tdb, tdc, Act.put, tdd, tde, tdf]
   refine Kept.tk 9 (v := ?_) rfl ?_ hHeld ?_
   rotate_left
   · intro w' h; (try dsimp only at h); go_simp <;> with_reducible rfl
   try simp only [tda, tdb, tdc, Act.put, tdd, tde, tdf]
   refine Kept.tk 10 (v := ?_) rfl ?_ hHeld ?_
   rotate_left
   · intro w' h; (try dsimp only at h); go_simp <;> with_reducible rfl
   try simp only [tda, tdb, tdc, Act.put, tdd, tde, tdf]
   refine Kept.tk 11 (v := ?_) rfl ?_ hHeld ?_
   rotate_left
   · intro w' h; (try dsimp only at h); go_simp <;> with_reducible rfl
   try simp only [tda, tdb, tdc, Act.put, tdd, tde, tdf]
   refine Kept.two (i := 4) (j := 12) (oi := ?opa2) (oj := ?opb2) (by kernel_rfl) ?hoa2 ?hob2 (fun K hK => ?way12) (fun K hK => ?way22)
   case hoa2 => (conv => lhs; simp only [tdg, tdh, tdi])
   case hob2 => (conv => lhs; simp only [tdg, tdh, tdi])
   case way12 =>
     go_simp
     obtain ⟨wq3, gE, e1, e2, hX, hb⟩ := mk_empty wq1
     rw [e1, e2]
     have HE0 := Lib.hid (hX.mono (B' := w2.heap.size) (by have := HB.out.size; omega))
     replace HB := Lib.hid (bl_trans HB.out hb)
     clear e1 e2 hX hb
     refine hK.out _ _ ((fun h => ⟨h.c0, h.c1, h.c2⟩) (HF2.out.on HB.out)) (fun hHeld2 => ?_)
     clear hK K
     replace hHeld := hHeld2
     clear hHeld2
     try simp only [tda, tdb, tdc, Act.put, tdd, tde, tdf]
     refine Kept.two (i := 7) (j := 12) (oi := ?opa4) (oj := ?opb4) (by kernel_rfl) ?hoa4 ?hob4 (fun K hK => ?way14) (fun K hK => ?way24)
     case hoa4 => (conv => lhs; simp only [tdg, tdh, tdi])
     case hob4 => (conv => lhs; simp only [tdg, tdh, tdi])
     case way14 =>
       refine step_catI rfl _ _ rfl w2.heap.size _ _ rfl HE0.out _ Mod rfl ((HM.out.below HF2.out.bel (Nat.le_refl _)).below HB.out (Nat.le_refl _)) (by simp; omega) HB.out.size ?_
       intro v2 wq5 ho hg hv2
       rw [List.nil_append] at ho
       obtain ⟨A2, k2, rfl⟩ := ho.form'
       have HA := Lib.hid ho
       replace HB := Lib.hid (HE0.out.bgrown HB.out HB.out.size hg)
       clear ho hg hv2 HE0 
       refine hK.out _ _ ((fun h => ⟨h.c0, h.c1, h.c2⟩) (HF2.out.on HB.out)) (fun hHeld2 => ?_)
       clear hK K
       replace hHeld := hHeld2
       clear hHeld2
       try simp only [tda, tdb, tdc, Act.put, tdd, tde, tdf]
       refine Kept.tk 8 (v := ?_) rfl ?_ hHeld ?_
       rotate_left
       · intro w' h; (try dsimp only at h); go_simp <;> with_reducible rfl
       try simp only [tda, tdb, tdc, Act.put, tdd, tde, tdf]
       refine Kept.only (i := 12) (o := ?op6) (by kernel_rfl) ?ho6 (fun K hK => ?_)
       case ho6 => (conv => lhs; simp only [tdg, tdh, tdi])
       go_simp
       obtain ⟨wq7, gl, e1, e2, hX, hb⟩ := mk_row wq5 q
       rw [e1, e2]
       have HL := Lib.hid hX
       have HLB : w2.heap.size ≤ gl := (by have := HB.out.size; omega)
       have HNE : Hid (∀ g, (Value.slice A2 Mod.length k2).ownBlock = some g → g ≠ gl) := hid' fun g hg => (by have h1 := (HA.out.lt hg).2; omega) 
       replace HA := Lib.hid (HA.out.below hb (Nat.le_refl _)) 
       replace HB := Lib.hid (bl_trans HB.out hb)
       clear e1 e2 hX hb
       refine hK.out _ _ ((fun h => ⟨h.c0, h.c1, h.c2⟩) (HF2.out.on HB.out)) (fun hHeld2 => ?_)
       clear hK K
       replace hHeld := hHeld2
       clear hHeld2
       try simp only [tda, tdb, tdc, Act.put, tdd, tde, tdf]
       refine Kept.tk 13 (v := ?_) rfl ?_ hHeld ?_
       rotate_left
       · intro w' h; (try dsimp only at h); go_simp <;> with_reducible rfl
       try simp only [tda, tdb, tdc, Act.put, tdd, tde, tdf]
       refine Kept.only (i := 14) (o := ?op8) (by kernel_rfl) ?ho8 (fun K hK => ?_)
       case ho8 => (conv => lhs; simp only [tdg, tdh, tdi])
       go_simp
       obtain ⟨wq9, ga, e1, e2, hX, hb⟩ := mk_box wq7 122 [.int .i64 P, .int .i64 M, .slice A2 Mod.length k2, .int .i64 (q : Int), .slice (some ⟨ge, 0, none⟩) (q - 1) ce, .slice (some ⟨gl, 0, none⟩) q q]
       rw [e1, e2]
       have HG := Lib.hid hX
       have hga : w2.heap.size ≤ ga := (by have := HB.out.size; omega)
       have hgl : ga ≠ gl := (by have := HL.out.lt; omega)
       replace HA := Lib.hid (HA.out.below hb (Nat.le_refl _))
       replace HL := Lib.hid (HL.out.belowS hb)
       replace HB := Lib.hid (bl_trans HB.out hb)
       clear e1 e2 hX hb
       refine hK.out _ _ ((fun h => ⟨h.c0, h.c1, h.c2⟩) (HF2.out.on HB.out)) (fun hHeld2 => ?_)
       clear hK K
       replace hHeld := hHeld2
       clear hHeld2
       try simp only [tda, tdb, tdc, Act.put, tdd, tde, tdf]
       refine Kept.only (i := 15) (by kernel_rfl) rfl (fun K hK => ?_)
       go_simp
       refine hK.out _ _ hHeld (fun hHeld2 => ?_)
       clear hK K
       clear hHeld2
       refine Kept.done (by kernel_rfl) ?_
       try simp only [tda, tdb, tdc, Act.put, tdd, tde, tdf]
       clear hHeld
       go_wp2_with fail
       go_meet
       exact ⟨ga, _, gl, rfl, hga, HLB, hgl, HG, HA, HL, HNE, HB⟩
     case way24 =>
       go_simp
       obtain ⟨wq10, gl, e1, e2, hX, hb⟩ := mk_row wq3 q
       rw [e1, e2]
       have HL := Lib.hid hX
       have HLB : w2.heap.size ≤ gl := (by have := HB.out.size; omega)
       have HNE : Hid (∀ g, (Value.slice (some ⟨gE, 0, none⟩) 0 0).ownBlock = some g → g ≠ gl) := hid' fun g hg => (by have h1 := (HE0.out.lt hg).2; omega)  
       replace HE0 := Lib.hid (HE0.out.below hb (Nat.le_refl _))  
       replace HB := Lib.hid (bl_trans HB.out hb)
       clear e1 e2 hX hb
       refine hK.out _ _ ((fun h => ⟨h.c0, h.c1, h.c2⟩) (HF2.out.on HB.out)) (fun hHeld2 => ?_)
       clear hK K
       replace hHeld := hHeld2
       clear hHeld2
       try simp only [tda, tdb, tdc, Act.put, tdd, tde, tdf]
       refine Kept.only (i := 7) (o := ?op11) (by kernel_rfl) ?ho11 (fun K hK => ?_)
       case ho11 => (conv => lhs; simp only [tdg, tdh, tdi])
       refine step_catI rfl _ _ rfl w2.heap.size _ _ rfl HE0.out _ Mod rfl ((HM.out.below HF2.out.bel (Nat.le_refl _)).below HB.out (Nat.le_refl _)) (by simp; omega) HB.out.size ?_
       intro v2 wq12 ho hg hv2
       rw [List.nil_append] at ho
       obtain ⟨A2, k2, rfl⟩ := ho.form'
       have hne0 : some gl ≠ (Value.slice (some ⟨gE, 0, none⟩) 0 0).ownBlock := fun e => HNE.out gl e.symm rfl 
       replace HNE : Hid (∀ g, (Value.slice A2 Mod.length k2).ownBlock = some g → g ≠ gl) := hid' (fun g hg2 => hv2.elim (fun h => HNE.out g (h ▸ hg2)) (fun h => (by have h0 := HL.out.lt; rw [h] at hg2; have h3 := Option.some.inj hg2; omega))) 
       replace HL := Lib.hid (HL.out.grown hg hne0) 
       have HA := Lib.hid ho
       replace HB := Lib.hid (HE0.out.bgrown HB.out HB.out.size hg)
       clear ho hg hv2 HE0 hne0 
       refine hK.out _ _ ((fun h => ⟨h.c0, h.c1, h.c2⟩) (HF2.out.on HB.out)) (fun hHeld2 => ?_)
       clear hK K
       replace hHeld := hHeld2
       clear hHeld2
       try simp only [tda, tdb, tdc, Act.put, tdd, tde, tdf]
       refine Kept.tk 8 (v := ?_) rfl ?_ hHeld ?_
       rotate_left
       · intro w' h; (try dsimp only at h); go_simp <;> with_reducible rfl
       try simp only [tda, tdb, tdc, Act.put, tdd, tde, tdf]
       refine Kept.tk 13 (v := ?_) rfl ?_ hHeld ?_
       rotate_left
       · intro w' h; (try dsimp only at h); go_simp <;> with_reducible rfl
       try simp only [tda, tdb, tdc, Act.put, tdd, tde, tdf]
       refine Kept.only (i := 14) (o := ?op13) (by kernel_rfl) ?ho13 (fun K hK => ?_)
       case ho13 => (conv => lhs; simp only [tdg, tdh, tdi])
       go_simp
       obtain ⟨wq14, ga, e1, e2, hX, hb⟩ := mk_box wq12 122 [.int .i64 P, .int .i64 M, .slice A2 Mod.length k2, .int .i64 (q : Int), .slice (some ⟨ge, 0, none⟩) (q - 1) ce, .slice (some ⟨gl, 0, none⟩) q q]
       rw [e1, e2]
       have HG := Lib.hid hX
       have hga : w2.heap.size ≤ ga := (by have := HB.out.size; omega)
       have hgl : ga ≠ gl := (by have := HL.out.lt; omega)
       replace HA := Lib.hid (HA.out.below hb (Nat.le_refl _))
       replace HL := Lib.hid (HL.out.belowS hb)
       replace HB := Lib.hid (bl_trans HB.out hb)
       clear e1 e2 hX hb
       refine hK.out _ _ ((fun h => ⟨h.c0, h.c1, h.c2⟩) (HF2.out.on HB.out)) (fun hHeld2 => ?_)
       clear hK K
       replace hHeld := hHeld2
       clear hHeld2
       try simp only [tda, tdb, tdc, Act.put, tdd, tde, tdf]
       refine Kept.only (i := 15) (by kernel_rfl) rfl (fun K hK => ?_)
       go_simp
       refine hK.out _ _ hHeld (fun hHeld2 => ?_)
       clear hK K
       clear hHeld2
       refine Kept.done (by kernel_rfl) ?_
       try simp only [tda, tdb, tdc, Act.put, tdd, tde, tdf]
       clear hHeld
       go_wp2_with fail
       go_meet
       exact ⟨ga, _, gl, rfl, hga, HLB, hgl, HG, HA, HL, HNE, HB⟩
   case way22 =>
     go_simp
     obtain ⟨wq15, gl, e1, e2, hX, hb⟩ := mk_row wq1 q
     rw [e1, e2]
     have HL := Lib.hid hX
     have HLB : w2.heap.size ≤ gl := (by have := HB.out.size; omega)
     replace HB := Lib.hid (bl_trans HB.out hb)
     clear e1 e2 hX hb
     refine hK.out _ _ ((fun h => ⟨h.c0, h.c1, h.c2⟩) (HF2.out.on HB.out)) (fun hHeld2 => ?_)
     clear hK K
     replace hHeld := hHeld2
     clear hHeld2
     try simp only [tda, tdb, tdc, Act.put, tdd, tde, tdf]
     refine Kept.only (i := 4) (o := ?op16) (by kernel_rfl) ?ho16 (fun K hK => ?_)
     case ho16 => (conv => lhs; simp only [tdg, tdh, tdi])
     go_simp
     obtain ⟨wq17, gE, e1, e2, hX, hb⟩ := mk_empty wq15
     rw [e1, e2]
     have HE0 := Lib.hid (hX.mono (B' := w2.heap.size) (by have := HB.out.size; omega))
     have HNE : Hid (∀ g, (Value.slice (some ⟨gE, 0, none⟩) 0 0).ownBlock = some g → g ≠ gl) := hid' fun g hg => (by have h1 := HL.out.lt; simp [Value.ownBlock] at hg; omega) 
     replace HL := Lib.hid (HL.out.belowS hb) 
     replace HB := Lib.hid (bl_trans HB.out hb)
     clear e1 e2 hX hb
     refine hK.out _ _ ((fun h => ⟨h.c0, h.c1, h.c2⟩) (HF2.out.on HB.out)) (fun hHeld2 => ?_)
     clear hK K
     replace hHeld := hHeld2
     clear hHeld2
     try simp only [tda, tdb, tdc, Act.put, tdd, tde, tdf]
     refine Kept.only (i := 7) (o := ?op18) (by kernel_rfl) ?ho18 (fun K hK => ?_)
     case ho18 => (conv => lhs; simp only [tdg, tdh, tdi])
     refine step_catI rfl _ _ rfl w2.heap.size _ _ rfl HE0.out _ Mod rfl ((HM.out.below HF2.out.bel (Nat.le_refl _)).below HB.out (Nat.le_refl _)) (by simp; omega) HB.out.size ?_
     intro v2 wq19 ho hg hv2
     rw [List.nil_append] at ho
     obtain ⟨A2, k2, rfl⟩ := ho.form'
     have hne0 : some gl ≠ (Value.slice (some ⟨gE, 0, none⟩) 0 0).ownBlock := fun e => HNE.out gl e.symm rfl 
     replace HNE : Hid (∀ g, (Value.slice A2 Mod.length k2).ownBlock = some g → g ≠ gl) := hid' (fun g hg2 => hv2.elim (fun h => HNE.out g (h ▸ hg2)) (fun h => (by have h0 := HL.out.lt; rw [h] at hg2; have h3 := Option.some.inj hg2; omega))) 
     replace HL := Lib.hid (HL.out.grown hg hne0) 
     have HA := Lib.hid ho
     replace HB := Lib.hid (HE0.out.bgrown HB.out HB.out.size hg)
     clear ho hg hv2 HE0 hne0 
     refine hK.out _ _ ((fun h => ⟨h.c0, h.c1, h.c2⟩) (HF2.out.on HB.out)) (fun hHeld2 => ?_)
     clear hK K
     replace hHeld := hHeld2
     clear hHeld2
     try simp only [tda, tdb, tdc, Act.put, tdd, tde, tdf]
     refine Kept.tk 8 (v := ?_) rfl ?_ hHeld ?_
     rotate_left
     · intro w' h; (try dsimp only at h); go_simp <;> with_reducible rfl
     try simp only [tda, tdb, tdc, Act.put, tdd, tde, tdf]
     refine Kept.tk 13 (v := ?_) rfl ?_ hHeld ?_
     rotate_left
     · intro w' h; (try dsimp only at h); go_simp <;> with_reducible rfl
     try simp only [tda, tdb, tdc, Act.put, tdd, tde, tdf]
     refine Kept.only (i := 14) (o := ?op20) (by kernel_rfl) ?ho20 (fun K hK => ?_)
     case ho20 => (conv => lhs; simp only [tdg, tdh, tdi])
     go_simp
     obtain ⟨wq21, ga, e1, e2, hX, hb⟩ := mk_box wq19 122 [.int .i64 P, .int .i64 M, .slice A2 Mod.length k2, .int .i64 (q : Int), .slice (some ⟨ge, 0, none⟩) (q - 1) ce, .slice (some ⟨gl, 0, none⟩) q q]
     rw [e1, e2]
     have HG := Lib.hid hX
     have hga : w2.heap.size ≤ ga := (by have := HB.out.size; omega)
     have hgl : ga ≠ gl := (by have := HL.out.lt; omega)
     replace HA := Lib.hid (HA.out.below hb (Nat.le_refl _))
     replace HL := Lib.hid (HL.out.belowS hb)
     replace HB := Lib.hid (bl_trans HB.out hb)
     clear e1 e2 hX hb
     refine hK.out _ _ ((fun h => ⟨h.c0, h.c1, h.c2⟩) (HF2.out.on HB.out)) (fun hHeld2 => ?_)
     clear hK K
     replace hHeld := hHeld2
     clear hHeld2
     try simp only [tda, tdb, tdc, Act.put, tdd, tde, tdf]
     refine Kept.only (i := 15) (by kernel_rfl) rfl (fun K hK => ?_)
     go_simp
     refine hK.out _ _ hHeld (fun hHeld2 => ?_)
     clear hK K
     clear hHeld2
     refine Kept.done (by kernel_rfl) ?_
     try simp only [tda, tdb, tdc, Act.put, tdd, tde, tdf]
     clear hHeld
     go_wp2_with fail
     go_meet
     exact ⟨ga, _, gl, rfl, hga, HLB, hgl, HG, HA, HL, HNE, HB⟩
 case rest =>
   clear c0 c1 c2 hmki
   obtain ⟨ga, mv2, gl, rfl, hga, hgl, hne, HG, HA, HL, HNE, HB⟩ := hcut
   have hgel : ge ≠ gl := by omega
   have HE3 := Lib.hid (HE2.out.below HB.out (Nat.le_refl _)); clear HE2
   have hge3 : w.heap.size ≤ w2.heap.size := HF2.out.bel.size
   go_wp2_with fail
   go_loopw [39] (fun i wr => ∃ k : Nat, k ≤ q - 1 ∧ i = .int .i64 (k : Int) ∧ Hid (Blk wr ga 122 [.int .i64 P, .int .i64 M, mv2, .int .i64 (q : Int), .slice (some ⟨ge, 0, none⟩) (q - 1) ce, .slice (some ⟨gl, 0, none⟩) q q]) ∧ Hid (OI w2.heap.size wr mv2 Mod) ∧ Hid (RI wr gl (logTo E q k)) ∧ Hid (OI w.heap.size wr (.slice (some ⟨ge, 0, none⟩) (q - 1) ce) E) ∧ Hid (Below w2.heap.size w2 wr)) (fun i _ => (q - 1 - (intOf i).toNat))
   case atStart => exact ⟨0, Nat.zero_le _, rfl, HG, HA, HL, HE3, HB⟩
   case round =>
     clear HG HA HL HE3 HB
     obtain ⟨k, hk, rfl, HG, HA, HL, HE, HB⟩ := hrel
     have g5 : wr.cell? ⟨ga, 5, none⟩ = some (.slice (some ⟨gl, 0, none⟩) q q) := HG.out.cell 5
     by_cases hlt : k < q - 1
     · have e1 := HE.out.cell k (by rw [HEL.out]; exact hlt)
       have hr := HEU.out k hlt
       have HSET : Hid (logTo E q (k + 1) = (logTo E q k).set (E.getD k 0).toNat (k : Int)) := rfl
       generalize E.getD k 0 = x at e1 hr HSET
       obtain ⟨xn, rfl⟩ : ∃ xn : Nat, x = (xn : Int) := ⟨x.toNat, by omega⟩
       obtain ⟨hx0, hx1⟩ := hr
       have hxq : xn < q := by omega
       have l1 := HL.out.cell xn (by rw [logTo_len]; exact hxq)
       have lf := HL.out.frozen xn
       rw [Int.toNat_natCast] at HSET
       have HL2 := Lib.hid (HL.out.set xn (k : Int))
       rw [← HSET.out] at HL2
       have HG2 := Lib.hid (HG.out.far (p := ⟨gl, xn, none⟩) hne (.int .i64 (k : Int)))
       have HA2 := Lib.hid (HA.out.grown (gr_set1 wr gl xn (.int .i64 (k : Int))) fun g hg e => HNE.out g hg (Option.some.inj e).symm)
       have HE2 := Lib.hid (HE.out.grown (gr_set1 wr gl xn (.int .i64 (k : Int))) fun g hg e => (by have h1 : gl = g := Option.some.inj e; have h2 : ge = g := Option.some.inj hg; omega))
       have HB2 := Lib.hid (HB.out.setCell (p := ⟨gl, xn, none⟩) hgl (.int .i64 (k : Int)))
       generalize (logTo E q k).getD xn 0 = old at l1
       go_wp2_with fail
       exact ⟨⟨k + 1, by omega, by push_cast; rfl, HG2, HA2, HL2, HE2, HB2⟩, by simp only [intOf]; omega⟩
     · obtain rfl : k = q - 1 := by omega
       go_wp2_with fail
       go_ret2
       refine ⟨ga, rfl, GF.sep (by omega) HG.out (HA.out.mono hge3) (by omega) HM.out.wfs HE.out HL.out (by omega) ?_ HFLD.out HQ.out, bl_trans HF2.out.bel HB.out⟩
       exact HT.out
def combTo (O : FOps) (x : List Int) (rows : List (List Int)) (n : Nat) : Nat → List Int
 | 0 => List.replicate n 0
 | i + 1 => if x.getD i 0 ≠ 0 then addToL O (combTo O x rows n i) (x.getD i 0) (rows.getD i []) else combTo O x rows n i
def combL (O : FOps) (x : List Int) (rows : List (List Int)) (n : Nat) : List Int := combTo O x rows n (min rows.length x.length)
theorem combTo_len (O : FOps) (x : List Int) (rows : List (List Int)) (n : Nat) : ∀ i, (combTo O x rows n i).length = n
 | 0 => by simp [combTo]
 | i + 1 => by rw [combTo]; split
               · rw [addToL_len, combTo_len O x rows n i]
               · exact combTo_len O x rows n i
theorem combTo_rng {O : FOps} {q : Int} (hO : O.Lt q) (x : List Int) (rows : List (List Int)) (n : Nat) : ∀ i, Rng q (combTo O x rows n i)
 | 0 => Rng.zero hO.pos n
 | i + 1 => by
  rw [combTo]
  split
  ·exact (Rows.addTo hO (combTo_rng hO x rows n i) _ _).2
  ·exact combTo_rng hO x rows n i
set_option maxHeartbeats 8000000 in
theorem rCombine_any (w : World) (P M : Int) (n : Nat) (mv vx v : Value) (Mod x : List Int) (rows : List (List Int)) (hm : SI w mv Mod) (hx : SI w vx x) (hv : SS w v rows) (ho : orderF P M ≠ 0) (hmod : ModP P M Mod)
  (hR : ∀ k, k < rows.length → k < x.length → n ≤ (rows.getD k []).length) (hn : n ≤ 100000) :
  Calls Tryz.prog 77 #[.agg #[.int .i64 P, .int .i64 M, mv], vx, v, .int .i64 (n : Int)] w (RetO w (combL (refOps P M Mod) x rows n)) := by
 obtain ⟨XA, xc, rfl, hx⟩ := hx
 have hxl := hx.len
 have HX := Lib.hid hx.si; clear hx
 obtain ⟨A, c, rfl, hv⟩ := hv
 have hrl := hv.len
 have HV := Lib.hid (show SS w (.slice A rows.length c) rows from ⟨A, c, rfl, hv⟩); clear hv
 have HM := Lib.hid hm; have HMOD := Lib.hid hmod; have HO := Lib.hid ho; have HR := Lib.hid hR
 have HLT := Lib.hid (refOps_lt ho Mod)
 have hob := orderF_bounds P M
 have HOB := Lib.hid hob
 clear hm hmod ho hR hob
 have HCE : Hid (combL (refOps P M Mod) x rows n = combTo (refOps P M Mod) x rows n (min rows.length x.length)) := rfl
 obtain ⟨k1, hk1⟩ : ∃ k1, k1 = x.length := ⟨_, rfl⟩
 obtain ⟨k2, hk2⟩ : ∃ k2, k2 = rows.length := ⟨_, rfl⟩
 rw [← hk1] at HX hxl HCE ⊢
 rw [← hk2] at HV hrl HCE ⊢
 have HK1 := Lib.hid hk1; have HK2 := Lib.hid hk2; clear hk1 hk2
 have hmk := fun (w : World) => run_mkI n (by omega) w
 have HF := Lib.hid (FBox.mk' w P M mv)
 go_enter Tryz.func77, Tryz.ntmps77
 go_wp2_with fail
 clear hmk
 have HF1 := Lib.hid (HF.out.on (bl_alloc _ (.cells (madeCells #[.int .i64 0] n) 3)))
 have HC0 : Hid (OI w.heap.size ((w.alloc (.cells #[.int .i64 P, .int .i64 M, mv] 24)).alloc (.cells (madeCells #[.int .i64 0] n) 3)) (.slice (some ⟨w.heap.size + 1, 0, none⟩) n n) (List.replicate n 0)) := by
  have := OI.made (B := w.heap.size) (w.alloc (.cells #[.int .i64 P, .int .i64 M, mv] 24)) n (by rw [World.size_alloc]; omega) (by omega)
  rw [World.size_alloc] at this
  exact this
 go_loopw [9, 10] (fun u i wr => ∃ (k : Nat) (UA : Option Addr) (uc : Nat), k ≤ k1 ∧ k ≤ k2 ∧ i = .int .i64 (k : Int) ∧ u = .slice UA n uc ∧ Hid (OI w.heap.size wr (.slice UA n uc) (combTo (refOps P M Mod) x rows n k)) ∧ Hid (FBox w wr P M mv)) (fun _ i _ => (k1 - intOf i).toNat)
 case atStart => exact ⟨0, _, _, Nat.zero_le _, Nat.zero_le _, rfl, rfl, HC0, HF1⟩
 case round =>
  clear HC0 HF1 HF
  obtain ⟨k, UA, uc, hkx, hkr, rfl, rfl, HOI, HFR⟩ := hrel
  by_cases hlt : k < k1 ∧ k < k2
  ·obtain ⟨hl1, hl2⟩ := hlt
   obtain ⟨xa, y, rfl, hc, _, HY⟩ := (HX.out.below HFR.out.bel (Nat.le_refl _)).elt (k := k) (by rw [← HK1.out]; exact hl1)
   obtain ⟨ra, Ak, ck, r, rfl, hd, HRR, HRE⟩ := (HV.out.below HFR.out.bel (Nat.le_refl _)).eltA (k := k) (by rw [← HK2.out]; exact hl2)
   have c0 := HFR.out.c0; have c1 := HFR.out.c1; have c2 := HFR.out.c2
   by_cases hy0 : y = 0
   ·have hyb : (y != 0) = false := by simp [hy0]
    have HCN : Hid (combTo (refOps P M Mod) x rows n (k + 1) = combTo (refOps P M Mod) x rows n k) := by show _ = _; rw [combTo, HY.out, if_neg (by simpa using hy0)]
    clear hy0
    go_wp2_with fail
    exact ⟨⟨k + 1, _, _, by omega, by omega, rfl, rfl, by rw [HCN.out]; exact HOI, HFR⟩, by simp only [intOf]; omega⟩
   ·have hyb : (y != 0) = true := by simp [hy0]
    have HCN : Hid (combTo (refOps P M Mod) x rows n (k + 1) = addToL (refOps P M Mod) (combTo (refOps P M Mod) x rows n k) y r) := by show _ = _; rw [combTo, HY.out, if_pos (by simpa using hy0), HRE.out]
    clear hy0
    have hrn := HR.out k (by rw [← HK2.out]; exact hl2) (by rw [← HK1.out]; exact hl1)
    rw [HRE.out] at hrn
    have HCL : Hid ((combTo (refOps P M Mod) x rows n k).length = n) := combTo_len _ _ _ _ _
    have HCS := Lib.hid (HOI.out.si (by rw [HCL.out]; omega) (fun j => by have := combTo_rng HLT.out x rows n k j; have := HOB.out; exact I64.of_small (by omega) (by omega)))
    go_wp2_with fail
    go_still_tail 10, (by kernel_rfl)
    change wpList _ _ _ _ _ wr.drew
    go_wp2_with fail
    refine (rAddTo_any _ P M y mv _ _ Mod (combTo (refOps P M Mod) x rows n k) r (HM.out.below HFR.out.drew.bel (Nat.le_refl _)) (HCS.out.below (bl_drew _) (Nat.le_refl _)) (HRR.out.si.below (bl_drew _) (Nat.le_refl _)) (by rw [HCL.out]; omega) (by rw [HCL.out]; exact hrn) HO.out HMOD.out).mono ?_
    rintro e w1 ⟨u1, rfl, ho1, hb1⟩
    obtain ⟨A1, cc1, rfl⟩ := ho1.form'
    rw [← HCN.out, combTo_len] at ho1
    rw [← HCN.out, combTo_len]
    have HO1 := Lib.hid (ho1.mono (B' := w.heap.size) (by have := HFR.out.drew.bel.size; exact this))
    have HF1 := Lib.hid (HFR.out.drew.on hb1)
    clear hb1 ho1 c0 c1 c2 hc hd
    go_wp2_with fail
    exact ⟨⟨k + 1, _, _, by omega, by omega, rfl, rfl, HO1, HF1⟩, by simp only [intOf]; omega⟩
  ·have HE : Hid (combL (refOps P M Mod) x rows n = combTo (refOps P M Mod) x rows n k) := by show _ = _; rw [HCE.out, show min k2 k1 = k by omega]
   by_cases hl1 : k < k1
   ·have hl2 : ¬ k < k2 := fun h => hlt ⟨hl1, h⟩
    clear hlt
    go_wp2_with fail
    go_ret
    exact ⟨_, rfl, by rw [HE.out]; exact HOI.out, HFR.out.bel⟩
   ·clear hlt
    by_cases hl2 : k < k2
    all_goals
     go_wp2_with fail
     go_ret
     exact ⟨_, rfl, by rw [HE.out]; exact HOI.out, HFR.out.bel⟩
set_option maxHeartbeats 4000000 in
theorem rZero_any (w : World) (v : Value) (x : List Int) (hx : SI w v x) : Calls Tryz.prog 131 #[v] w (fun e w' => e = .returned (.bool (x.all (· == 0))) ∧ w = w') := by
 obtain ⟨A, c, rfl, hx⟩ := hx
 have hl := hx.len
 have HX := Lib.hid hx.si; clear hx
 obtain ⟨n, hn⟩ : ∃ n, n = x.length := ⟨_, rfl⟩
 rw [← hn] at HX hl ⊢
 have HN := Lib.hid hn; clear hn
 go_enter Tryz.func131, Tryz.ntmps131
 go_wp2_with fail
 go_loop [3] (fun i => ∃ k : Nat, k ≤ n ∧ i = .int .i64 (k : Int) ∧ Hid (∀ j, j < k → x.getD j 0 = 0)) (fun i => (n - intOf i).toNat)
 case atStart => exact ⟨0, Nat.zero_le _, rfl, hid' fun j hj => absurd hj (by omega)⟩
 case round =>
   obtain ⟨k, hk, rfl, HG⟩ := hrel
   by_cases hlt : k < n
   · obtain ⟨ad, y, rfl, hc, _, HY⟩ := HX.out.elt (k := k) (by rw [← HN.out]; exact hlt)
     by_cases hy0 : y = 0
     · have hyb : (y != 0) = false := by simp [hy0]
       have HY0 := Lib.hid hy0; clear hy0
       go_wp2_with fail
       exact ⟨⟨k + 1, by omega, rfl, hid' fun j hj => by
         by_cases e : j = k
         · subst e; rw [HY.out]; exact HY0.out
         · exact HG.out j (by omega)⟩, by simp only [intOf]; omega⟩
     · have hyb : (y != 0) = true := by simp [hy0]
       have HE : Hid (x.all (· == 0) = false) := by
         show _ = _
         rw [List.all_eq_false]
         exact ⟨y, by rw [← HY.out]; exact getD_mem_or k (by rw [← HN.out]; exact hlt), by simp [hy0]⟩
       clear hy0
       go_wp2_with fail
       go_ret
       exact ⟨by rw [HE.out]; rfl, rfl⟩
   · have HE : Hid (x.all (· == 0) = true) := by
       show _ = _
       rw [List.all_eq_true]
       intro y hy
       obtain ⟨i, hi, rfl⟩ := List.mem_iff_getElem.1 hy
       have := HG.out i (by rw [← HN.out] at hi; omega)
       simp [List.getD, hi] at this
       simp [this]
     go_wp2_with fail
     go_ret
     exact ⟨by rw [HE.out]; rfl, rfl⟩
structure FMBox (w w0 : World) (P M : Int) (mv : Value) (cols : Int) (rv : Value) : Prop where
 fb : FBox w w0 P M mv
 mb : Blk w0 (w.heap.size + 1) 27 [.int .i64 cols, rv]
theorem FMBox.mk' (w : World) (P M : Int) (mv : Value) (cols : Int) (rv : Value) : FMBox w ((w.alloc (.cells #[.int .i64 P, .int .i64 M, mv] 24)).alloc (.cells #[.int .i64 cols, rv] 27)) P M mv cols rv :=
 ⟨(FBox.mk' w P M mv).on (bl_alloc _ _), by
  have := Blk.new (w.alloc (.cells #[.int .i64 P, .int .i64 M, mv] 24)) 27 [.int .i64 cols, rv]
  rw [World.size_alloc] at this
  exact this⟩
theorem FMBox.on {w w0 w1 : World} {P M cols : Int} {mv rv : Value} (h : FMBox w w0 P M mv cols rv) (hb : Below w0.heap.size w0 w1) : FMBox w w1 P M mv cols rv := ⟨h.fb.on hb, h.mb.belowS hb⟩
theorem FMBox.d0 {w w0 : World} {P M cols : Int} {mv rv : Value} (h : FMBox w w0 P M mv cols rv) : w0.cell? ⟨w.heap.size + 1, 0, none⟩ = some (.int .i64 cols) := h.mb.cell 0
theorem FMBox.d1 {w w0 : World} {P M cols : Int} {mv rv : Value} (h : FMBox w w0 P M mv cols rv) : w0.cell? ⟨w.heap.size + 1, 1, none⟩ = some rv := h.mb.cell 1
def lensOK (cols : Int) (rows : List (List Int)) : Bool := rows.all fun r => (r.length : Int) == cols
def entsOK (q : Int) (rows : List (List Int)) : Bool := rows.all fun r => entriesF q r == 0
noncomputable def matE (P M : Int) (Mod : List Int) (cols : Int) (rows : List (List Int)) : Int :=
 if checkF P M Mod ≠ 0 then checkF P M Mod else if cols < 0 ∨ 256 < cols ∨ 256 < (rows.length : Int) then 3 else if lensOK cols rows = true then (if entsOK (orderF P M) rows = true then 0 else 2) else 3
theorem all_of_getD {p : List Int → Bool} {rows : List (List Int)} (h : ∀ j, j < rows.length → p (rows.getD j []) = true) : rows.all p = true := by
 rw [List.all_eq_true]
 intro x hx
 obtain ⟨i, hi, rfl⟩ := List.mem_iff_getElem.1 hx
 have := h i hi
 simpa [List.getD, hi] using this
theorem all_not {p : List Int → Bool} {rows : List (List Int)} {k : Nat} (hk : k < rows.length) (h : p (rows.getD k []) = false) : rows.all p = false := by
 rw [List.all_eq_false]
 refine ⟨rows[k], List.getElem_mem hk, ?_⟩
 simp [List.getD, hk] at h
 simp [h]
theorem entriesF_cases (q : Int) (l : List Int) : entriesF q l = 0 ∨ entriesF q l = 2 := by unfold entriesF; split <;> simp
set_option maxHeartbeats 16000000 in
theorem rMCheck_any (w : World) (P M cols : Int) (mv rv : Value) (Mod : List Int) (rows : List (List Int)) (hm : SI w mv Mod) (hv : SS w rv rows) :
  Calls Tryz.prog 13 #[.agg #[.int .i64 P, .int .i64 M, mv], .agg #[.int .i64 cols, rv]] w (RetI w (matE P M Mod cols rows)) := by
 have HM := Lib.hid hm; clear hm
 obtain ⟨A, c, rfl, hv⟩ := hv
 have hrl := hv.len
 have HV := Lib.hid (show SS w (.slice A rows.length c) rows from ⟨A, c, rfl, hv⟩); clear hv
 obtain ⟨n, hn⟩ : ∃ n, n = rows.length := ⟨_, rfl⟩
 have HF := Lib.hid (FMBox.mk' w P M mv cols (.slice A n c))
 rw [← hn] at HV hrl ⊢
 by_cases hck : checkF P M Mod = 0
 case neg =>
  have HE : Hid (matE P M Mod cols rows = checkF P M Mod) := by show _ = _; unfold matE; rw [if_pos hck]
  have hb : (checkF P M Mod != 0) = true := by rw [bne_iff_ne]; exact hck
  clear hck hn
  go_enter Tryz.func13, Tryz.ntmps13
  go_wp2_with fail
  generalize hw0 : (w.alloc (.cells #[.int .i64 P, .int .i64 M, mv] 24)).alloc (.cells #[.int .i64 cols, .slice A n c] 27) = w0 at *
  have c0 := HF.out.fb.c0; have c1 := HF.out.fb.c1; have c2 := HF.out.fb.c2
  go_wp2_with fail
  refine (rCheck_any _ P M mv Mod (HM.out.below HF.out.fb.bel (Nat.le_refl _))).mono ?_
  rintro e w1 ⟨rfl, hb1⟩
  have HB1 := Lib.hid (bl_trans HF.out.fb.bel hb1); clear hb1
  go_wp2_with fail
  go_ret
  exact ⟨by rw [HE.out]; rfl, HB1.out⟩
 have HK := Lib.hid hck
 by_cases hcn : cols < 0 ∨ 256 < cols ∨ 256 < (n : Int)
 ·have HE : Hid (matE P M Mod cols rows = 3) := by show _ = _; unfold matE; rw [if_neg (by rw [hck]; decide), ← hn, if_pos hcn]
  rw [HE.out]
  have HCK := Lib.hid hck; clear hck hn
  go_enter Tryz.func13, Tryz.ntmps13
  go_wp2_with fail
  generalize hw0 : (w.alloc (.cells #[.int .i64 P, .int .i64 M, mv] 24)).alloc (.cells #[.int .i64 cols, .slice A n c] 27) = w0 at *
  have c0 := HF.out.fb.c0; have c1 := HF.out.fb.c1; have c2 := HF.out.fb.c2
  go_wp2_with fail
  refine (rCheck_any _ P M mv Mod (HM.out.below HF.out.fb.bel (Nat.le_refl _))).mono ?_
  rintro e w1 ⟨rfl, hb1⟩
  rw [HCK.out]
  have HF1 := Lib.hid (HF.out.on hb1); clear hb1
  have d0 := HF1.out.d0; have d1 := HF1.out.d1
  by_cases h1 : cols < 0
  ·go_wp2_with fail
   go_ret
   exact ⟨rfl, HF1.out.fb.bel⟩
  by_cases h2 : 256 < cols
  ·go_wp2_with fail
   go_ret
   exact ⟨rfl, HF1.out.fb.bel⟩
  have h3 : 256 < (n : Int) := by omega
  clear hcn
  go_wp2_with fail
  go_ret
  exact ⟨rfl, HF1.out.fb.bel⟩
 have HCN : Hid (¬ (cols < 0 ∨ 256 < cols ∨ 256 < (rows.length : Int))) := by show ¬ _; rw [← hn]; exact hcn
 obtain ⟨h1, h2, h3⟩ : ¬ cols < 0 ∧ ¬ 256 < cols ∧ ¬ 256 < (n : Int) := by omega
 have HCK := Lib.hid hck; clear hck hcn HK
 have HN := Lib.hid hn; clear hn
 go_enter Tryz.func13, Tryz.ntmps13
 go_wp2_with fail
 generalize hw0 : (w.alloc (.cells #[.int .i64 P, .int .i64 M, mv] 24)).alloc (.cells #[.int .i64 cols, .slice A n c] 27) = w0 at *
 have c0 := HF.out.fb.c0; have c1 := HF.out.fb.c1; have c2 := HF.out.fb.c2
 go_wp2_with fail
 refine (rCheck_any _ P M mv Mod (HM.out.below HF.out.fb.bel (Nat.le_refl _))).mono ?_
 rintro e w1 ⟨rfl, hb1⟩
 rw [HCK.out]
 have HF1 := Lib.hid (HF.out.on hb1); clear hb1
 have d0 := HF1.out.d0; have d1 := HF1.out.d1
 clear c0 c1 c2
 go_wp2_with fail
 clear d0 d1
 go_loopw [6] (fun i wr => ∃ k : Nat, k ≤ n ∧ i = .int .i64 (k : Int) ∧ Hid (∀ j, j < k → ((rows.getD j []).length : Int) = cols) ∧ Hid (FMBox w wr P M mv cols (.slice A n c))) (fun i _ => (n - intOf i).toNat)
 case atStart => exact ⟨0, Nat.zero_le _, rfl, hid' fun j hj => absurd hj (by omega), HF1.out⟩
 case round =>
  obtain ⟨k, hk, rfl, HG, HW⟩ := hrel
  have d0 := HW.out.d0; have d1 := HW.out.d1
  by_cases hlt : k < n
  ·obtain ⟨ad, Ak, ck, x, rfl, hc, HX, HXE⟩ := (HV.out.below HW.out.fb.bel (Nat.le_refl _)).eltA (k := k) (by rw [← HN.out]; exact hlt)
   by_cases hx : (x.length : Int) = cols
   ·have hxb : (((x.length : Nat) : Int) != cols) = false := by rw [bne_eq_false_iff_eq]; exact hx
    have HXX := Lib.hid hx; clear hx
    go_wp2_with fail
    go_quiet (fail)
    go_wp2_with fail
    exact ⟨⟨k + 1, by omega, rfl, hid' fun j hj => by
     by_cases e : j = k
     ·subst e; rw [HXE.out]; exact HXX.out
     ·exact HG.out j (by omega), hid' (HW.out.on (bl_drewN _ _))⟩, by simp only [intOf]; omega⟩
   ·have hxb : (((x.length : Nat) : Int) != cols) = true := by rw [bne_iff_ne]; exact hx
    have HE : Hid (matE P M Mod cols rows = 3) := by
     show _ = _
     unfold matE
     rw [if_neg (by rw [HCK.out]; decide), if_neg HCN.out, if_neg]
     rw [show lensOK cols rows = false from all_not (k := k) (by rw [← HN.out]; exact hlt) (by rw [HXE.out]; simpa using hx)]
     decide
    clear hx
    go_wp2_with fail
    go_quiet (fail)
    go_wp2_with fail
    go_ret
    exact ⟨by rw [HE.out]; rfl, (HW.out.on (bl_drewN _ _)).fb.bel⟩
  ·obtain rfl : n = k := by omega
   have HL : Hid (lensOK cols rows = true) := all_of_getD fun j hj => by
    have := HG.out j (by rw [HN.out]; exact hj)
    simpa using this
   clear hlt hk HG
   go_wp2_with fail
   clear d0 d1
   go_loopw [7] (fun i wr => ∃ k : Nat, k ≤ n ∧ i = .int .i64 (k : Int) ∧ Hid (∀ j, j < k → entriesF (orderF P M) (rows.getD j []) = 0) ∧ Hid (FMBox w wr P M mv cols (.slice A n c))) (fun i _ => (n - intOf i).toNat)
   case atStart => exact ⟨0, Nat.zero_le _, rfl, hid' fun j hj => absurd hj (by omega), HW.out⟩
   case round =>
    obtain ⟨k, hk, rfl, HG, HW⟩ := hrel
    have c0 := HW.out.fb.c0; have c1 := HW.out.fb.c1; have c2 := HW.out.fb.c2; have d1 := HW.out.d1
    by_cases hlt : k < n
    ·obtain ⟨ad, Ak, ck, x, rfl, hc, HX, HXE⟩ := (HV.out.below HW.out.fb.bel (Nat.le_refl _)).eltA (k := k) (by rw [← HN.out]; exact hlt)
     go_wp2_with fail
     go_still_tail 6, (by kernel_rfl)
     change wpList _ _ _ _ _ wr.drew
     go_wp2_with fail
     refine (entries_any _ P M mv _ x (HX.out.si.below (bl_drew _) (Nat.le_refl _))).mono ?_
     rintro e w2 ⟨rfl, hb2⟩
     have HW2 := Lib.hid (HW.out.on (bl_trans (bl_drew _) hb2))
     clear hb2 hc c0 c1 c2 d1
     by_cases hx : entriesF (orderF P M) x = 0
     ·rw [hx]
      have HXX := Lib.hid hx; clear hx
      go_wp2_with fail
      exact ⟨⟨k + 1, by omega, rfl, hid' fun j hj => by
       by_cases e : j = k
       ·subst e; rw [HXE.out]; exact HXX.out
       ·exact HG.out j (by omega), HW2⟩, by simp only [intOf]; omega⟩
     ·have hx2 : entriesF (orderF P M) x = 2 := (entriesF_cases _ _).resolve_left hx
      have HE : Hid (matE P M Mod cols rows = 2) := by
       show _ = _
       unfold matE
       rw [if_neg (by rw [HCK.out]; decide), if_neg HCN.out, if_pos HL.out, if_neg]
       rw [show entsOK (orderF P M) rows = false from all_not (k := k) (by rw [← HN.out]; exact hlt) (by rw [HXE.out, hx2]; rfl)]
       decide
      rw [hx2]
      clear hx hx2
      go_wp2_with fail
      go_ret
      exact ⟨by rw [HE.out]; rfl, HW2.out.fb.bel⟩
    ·obtain rfl : n = k := by omega
     have HE : Hid (matE P M Mod cols rows = 0) := by
      show _ = _
      unfold matE
      rw [if_neg (by rw [HCK.out]; decide), if_neg HCN.out, if_pos HL.out, if_pos]
      exact all_of_getD fun j hj => by
       have := HG.out j (by rw [HN.out]; exact hj)
       simpa using this
     go_wp2_with fail
     go_ret
     exact ⟨by rw [HE.out]; rfl, HW.out.fb.bel⟩
set_option maxHeartbeats 4000000 in
theorem gis_any (w : World) (a : Nat) (P M x : Int) (Mod : List Int) (h : GF w a P M Mod) : Calls Tryz.prog 118 #[.pointer (some ⟨a, 0, none⟩), .int .i64 x] w (fun e w' => e = .returned (.bool (isB P M x)) ∧ w = w') := by
 obtain ⟨q, mv, ge, ce, gl, cl, E, L, h⟩ := h
 have c3 := h.c3
 have HE : Hid (isB P M x = (decide (0 ≤ x) && decide (x < (q : Int)))) := by show _ = _; unfold isB; rw [h.ord]
 clear h
 by_cases hx : 0 ≤ x
 ·have hx1 : decide (0 ≤ x) = true := by simpa using hx
  rw [hx1, Bool.true_and] at HE
  by_cases hq : x < (q : Int)
  ·have hq1 : decide (x < (q : Int)) = true := by simpa using hq
   rw [hq1] at HE
   go_enter Tryz.func118, Tryz.ntmps118
   go_wp2_with fail
   go_ret
   exact ⟨by rw [HE.out]; rfl, rfl⟩
  ·have hq1 : decide (x < (q : Int)) = false := by simpa using hq
   rw [hq1] at HE
   go_enter Tryz.func118, Tryz.ntmps118
   go_wp2_with fail
   go_ret
   exact ⟨by rw [HE.out]; rfl, rfl⟩
 ·have hx1 : decide (0 ≤ x) = false := by simpa using hx
  rw [hx1, Bool.false_and] at HE
  go_enter Tryz.func118, Tryz.ntmps118
  go_wp2_with fail
  go_ret
  exact ⟨by rw [HE.out]; rfl, rfl⟩
set_option maxHeartbeats 4000000 in
theorem mentries_any (w : World) (a : Nat) (P M : Int) (Mod l : List Int) (v : Value) (h : GF w a P M Mod) (hl : SI w v l) :
  Calls Tryz.prog 119 #[.pointer (some ⟨a, 0, none⟩), v] w (fun e w' => e = .returned (.int .i64 (entriesF (orderF P M) l)) ∧ w = w') := by
 obtain ⟨A, c, rfl, hl⟩ := hl
 have hn := hl.len
 have HL := Lib.hid hl; clear hl
 have HG := Lib.hid h; clear h
 go_enter Tryz.func119, Tryz.ntmps119
 go_wp2_with fail
 go_loop [9] (fun i => ∃ k : Nat, k ≤ l.length ∧ i = .int .i64 (k : Int) ∧ Hid (∀ j, j < k → 0 ≤ l.getD j 0 ∧ l.getD j 0 < orderF P M)) (fun i => l.length - (intOf i).toNat)
 case atStart => exact ⟨0, Nat.zero_le _, rfl, hid' fun j hj => absurd hj (by omega)⟩
 case round =>
  obtain ⟨k, hk, rfl, HK⟩ := hrel
  by_cases hlt : k < l.length
  ·obtain ⟨ad, x, rfl, hc, _, HX⟩ := HL.out.elt hlt
   by_cases hx : 0 ≤ x ∧ x < orderF P M
   ·have HB : Hid (isB P M x = true) := isB_true hx
    have HXX := Lib.hid hx; clear hx
    go_wp2_with fail
    refine (gis_any _ a P M x Mod HG.out).mono ?_
    rintro e w1 ⟨rfl, rfl⟩
    rw [HB.out]
    go_wp2_with fail
    go_round
    case rel => exact ⟨k + 1, by omega, by go_num, hid' fun j hj => by
     by_cases e : j = k
     ·subst e; rw [HX.out]; exact HXX.out
     ·exact HK.out j (by omega)⟩
    case measure => simp [intOf]; omega
   ·have HB : Hid (isB P M x = false) := isB_false hx
    have HE : Hid (entriesF (orderF P M) l = 2) := entriesF_bad hlt (by rw [HX.out]; exact hx)
    clear hx
    go_wp2_with fail
    refine (gis_any _ a P M x Mod HG.out).mono ?_
    rintro e w1 ⟨rfl, rfl⟩
    rw [HB.out]
    go_wp2_with fail
    go_ret
    exact ⟨by rw [HE.out]; rfl, rfl⟩
  ·obtain rfl : l.length = k := by omega
   have HE : Hid (entriesF (orderF P M) l = 0) := entriesF_ok HK.out
   go_wp2_with fail
   go_ret
   exact ⟨by rw [HE.out]; rfl, rfl⟩
def chkE (q cols : Int) (rows : List (List Int)) : Int := if cols < 0 ∨ 256 < cols ∨ 256 < (rows.length : Int) then 3 else if lensOK cols rows = true then (if entsOK q rows = true then 0 else 2) else 3
theorem matE_ok {P M : Int} {Mod : List Int} (hf : FieldP P M Mod) (cols : Int) (rows : List (List Int)) : matE P M Mod cols rows = chkE (orderF P M) cols rows := by
 unfold matE chkE
 rw [if_neg (by rw [checkF_ok hf]; decide)]
theorem matE_no {P M : Int} {Mod : List Int} (hf : ¬ FieldP P M Mod) (cols : Int) (rows : List (List Int)) : matE P M Mod cols rows = 1 := by
 unfold matE
 rw [if_pos (by rw [checkF_bad hf]; decide), checkF_bad hf]
set_option maxHeartbeats 8000000 in
theorem mcheck_any (w : World) (a : Nat) (P M cols : Int) (Mod : List Int) (rv : Value) (rows : List (List Int)) (h : GF w a P M Mod) (hv : SS w rv rows) :
  Calls Tryz.prog 141 #[.pointer (some ⟨a, 0, none⟩), .agg #[.int .i64 cols, rv]] w (RetI w (chkE (orderF P M) cols rows)) := by
 obtain ⟨A, c, rfl, hv⟩ := hv
 have hrl := hv.len
 have HG := Lib.hid (h.on (bl_alloc w (.cells #[.int .i64 cols, .slice A rows.length c] 27))); clear h
 have HV := Lib.hid ((show SS w (.slice A rows.length c) rows from ⟨A, c, rfl, hv⟩).below (bl_alloc w (.cells #[.int .i64 cols, .slice A rows.length c] 27)) (Nat.le_refl _)); clear hv
 have HB := Lib.hid (bl_alloc w (.cells #[.int .i64 cols, .slice A rows.length c] 27))
 have HBX := Lib.hid (Blk.new w 27 [.int .i64 cols, .slice A rows.length c])
 obtain ⟨n, hn⟩ : ∃ n, n = rows.length := ⟨_, rfl⟩
 rw [← hn] at HV HG HB HBX hrl ⊢
 have HN := Lib.hid hn; clear hn
 have d0 : (w.alloc (.cells #[.int .i64 cols, .slice A n c] 27)).cell? ⟨w.heap.size, 0, none⟩ = some (.int .i64 cols) := HBX.out.cell 0
 have d1 : (w.alloc (.cells #[.int .i64 cols, .slice A n c] 27)).cell? ⟨w.heap.size, 1, none⟩ = some (.slice A n c) := HBX.out.cell 1
 by_cases hcn : cols < 0 ∨ 256 < cols ∨ 256 < (n : Int)
 ·have HE : Hid (chkE (orderF P M) cols rows = 3) := by show _ = _; unfold chkE; rw [← HN.out, if_pos hcn]
  rw [HE.out]
  by_cases h1 : cols < 0
  ·have b1 : decide (cols < 0) = true := by simpa using h1
   clear hcn
   go_enter Tryz.func141, Tryz.ntmps141
   go_wp2_with fail
   go_ret
   exact ⟨rfl, HB.out⟩
  have b1 : decide (cols < 0) = false := by simpa using h1
  by_cases h2 : 256 < cols
  ·have b2 : decide (256 < cols) = true := by simpa using h2
   clear hcn
   go_enter Tryz.func141, Tryz.ntmps141
   go_wp2_with fail
   go_ret
   exact ⟨rfl, HB.out⟩
  have b2 : decide (256 < cols) = false := by simpa using h2
  have h3 : 256 < (n : Int) := by omega
  have b3 : decide (256 < (n : Int)) = true := by simpa using h3
  clear hcn
  go_enter Tryz.func141, Tryz.ntmps141
  go_wp2_with fail
  go_ret
  exact ⟨rfl, HB.out⟩
 have HCN : Hid (¬ (cols < 0 ∨ 256 < cols ∨ 256 < (rows.length : Int))) := by show ¬ _; rw [← HN.out]; exact hcn
 obtain ⟨h1, h2, h3⟩ : ¬ cols < 0 ∧ ¬ 256 < cols ∧ ¬ 256 < (n : Int) := by omega
 have b1 : decide (cols < 0) = false := by simpa using h1
 have b2 : decide (256 < cols) = false := by simpa using h2
 have b3 : decide (256 < (n : Int)) = false := by simpa using h3
 clear hcn
 go_enter Tryz.func141, Tryz.ntmps141
 go_wp2_with fail
 clear b1 b2 b3
 generalize hw0 : w.alloc (.cells #[.int .i64 cols, .slice A n c] 27) = w0 at *
 clear hw0
 go_loop [27] (fun i => ∃ k : Nat, k ≤ n ∧ i = .int .i64 (k : Int) ∧ Hid (∀ j, j < k → ((rows.getD j []).length : Int) = cols)) (fun i => (n - (intOf i).toNat))
 case atStart => exact ⟨0, Nat.zero_le _, rfl, hid' fun j hj => absurd hj (by omega)⟩
 case round =>
  obtain ⟨k, hk, rfl, HK⟩ := hrel
  by_cases hlt : k < n
  ·obtain ⟨ad, Ak, ck, x, rfl, hc, HX, HXE⟩ := HV.out.eltA (k := k) (by rw [← HN.out]; exact hlt)
   by_cases hx : (x.length : Int) = cols
   ·have hxb : (((x.length : Nat) : Int) != cols) = false := by rw [bne_eq_false_iff_eq]; exact hx
    have HXX := Lib.hid hx; clear hx
    go_wp2_with fail
    go_round
    case rel => exact ⟨k + 1, by omega, by go_num, hid' fun j hj => by
     by_cases e : j = k
     ·subst e; rw [HXE.out]; exact HXX.out
     ·exact HK.out j (by omega)⟩
    case measure => simp [intOf]; omega
   ·have hxb : (((x.length : Nat) : Int) != cols) = true := by rw [bne_iff_ne]; exact hx
    have HE : Hid (chkE (orderF P M) cols rows = 3) := by
     show _ = _
     unfold chkE
     rw [if_neg HCN.out, if_neg]
     rw [show lensOK cols rows = false from all_not (k := k) (by rw [← HN.out]; exact hlt) (by rw [HXE.out]; simpa using hx)]
     decide
    clear hx
    go_wp2_with fail
    go_ret
    exact ⟨by rw [HE.out]; rfl, HB.out⟩
  ·obtain rfl : n = k := by omega
   have HL : Hid (lensOK cols rows = true) := all_of_getD fun j hj => by
    have := HK.out j (by rw [HN.out]; exact hj)
    simpa using this
   clear hlt hk HK
   go_wp2_with fail
   go_loop [40] (fun i => ∃ k : Nat, k ≤ n ∧ i = .int .i64 (k : Int) ∧ Hid (∀ j, j < k → entriesF (orderF P M) (rows.getD j []) = 0)) (fun i => (n - (intOf i).toNat))
   case atStart => exact ⟨0, Nat.zero_le _, rfl, hid' fun j hj => absurd hj (by omega)⟩
   case round =>
    obtain ⟨k, hk, rfl, HK⟩ := hrel
    by_cases hlt : k < n
    ·obtain ⟨ad, Ak, ck, x, rfl, hc, HX, HXE⟩ := HV.out.eltA (k := k) (by rw [← HN.out]; exact hlt)
     go_wp2_with fail
     refine (mentries_any _ a P M Mod x _ HG.out HX.out.si).mono ?_
     rintro e w2 ⟨rfl, rfl⟩
     by_cases hx : entriesF (orderF P M) x = 0
     ·rw [hx]
      have HXX := Lib.hid hx; clear hx
      go_wp2_with fail
      go_round
      case rel => exact ⟨k + 1, by omega, by go_num, hid' fun j hj => by
       by_cases e : j = k
       ·subst e; rw [HXE.out]; exact HXX.out
       ·exact HK.out j (by omega)⟩
      case measure => simp [intOf]; omega
     ·have hx2 : entriesF (orderF P M) x = 2 := (entriesF_cases _ _).resolve_left hx
      have HE : Hid (chkE (orderF P M) cols rows = 2) := by
       show _ = _
       unfold chkE
       rw [if_neg HCN.out, if_pos HL.out, if_neg]
       rw [show entsOK (orderF P M) rows = false from all_not (k := k) (by rw [← HN.out]; exact hlt) (by rw [HXE.out, hx2]; rfl)]
       decide
      rw [hx2]
      clear hx hx2
      go_wp2_with fail
      go_ret
      exact ⟨by rw [HE.out]; rfl, HB.out⟩
    ·obtain rfl : n = k := by omega
     have HE : Hid (chkE (orderF P M) cols rows = 0) := by
      show _ = _
      unfold chkE
      rw [if_neg HCN.out, if_pos HL.out, if_pos]
      exact all_of_getD fun j hj => by
       have := HK.out j (by rw [HN.out]; exact hj)
       simpa using this
     go_wp2_with fail
     go_ret
     exact ⟨by rw [HE.out]; rfl, HB.out⟩
end Go.Proofs.YtodgdoglhecolaaGreat
namespace Go.Proofs.YtodgdoglhecolaaGreat
def psum (p : Int) (f : Nat → Int) : Nat → Int
 | 0 => 0
 | k + 1 => psum p f k + f k * p ^ k
theorem psum_shift (p : Int) (f : Nat → Int) : ∀ m, psum p f (m + 1) = psum p (fun i => f (i + 1)) m * p + f 0
 | 0 => by simp [psum]
 | m + 1 => by
  have ih := psum_shift p f m
  rw [psum, ih, psum, Int.add_mul, Int.pow_succ]
  have : f (m + 1) * (p ^ m * p) = f (m + 1) * p ^ m * p := (Int.mul_assoc _ _ _).symm
  rw [this]; omega
theorem psum_congr {p : Int} {f g : Nat → Int} : ∀ {m}, (∀ i, i < m → f i = g i) → psum p f m = psum p g m
 | 0, _ => rfl
 | m + 1, h => by rw [psum, psum, psum_congr fun i hi => h i (by omega), h m (by omega)]
theorem value_row (p : Int) : ∀ (m : Nat) (f : Nat → Int), valueF p (rowOf m f) = psum p f m
 | 0, f => rfl
 | m + 1, f => by
  rw [psum_shift, ← value_row p m]
  have : rowOf (m + 1) f = f 0 :: rowOf m (fun i => f (i + 1)) := by
   unfold rowOf; rw [List.range_succ_eq_map, List.map_cons, List.map_map]; rfl
  rw [this, valueF]
theorem psum_cut {p : Int} {f : Nat → Int} {k m : Nat} (h : k ≤ m) (hz : ∀ i, k ≤ i → i < m → f i = 0) : psum p f m = psum p f k := by
 obtain ⟨d, rfl⟩ : ∃ d, m = k + d := ⟨m - k, by omega⟩
 induction d with
 | zero => rfl
 | succ d ih =>
  rw [← Nat.add_assoc, psum, ih (by omega) (fun i h1 h2 => hz i h1 (by omega)), hz (k + d) (by omega) (by omega)]
  simp
theorem psum_bd {p : Int} (hp : 2 ≤ p) {f : Nat → Int} (hf : ∀ i, 0 ≤ f i ∧ f i < p) : ∀ m, 0 ≤ psum p f m ∧ psum p f m < p ^ m
 | 0 => by simp [psum]
 | m + 1 => by
  obtain ⟨h1, h2⟩ := psum_bd hp hf m
  obtain ⟨h3, h4⟩ := hf m
  have hpp : 0 < p ^ m := Int.pow_pos (by omega)
  have h5 : 0 ≤ f m * p ^ m := Int.mul_nonneg h3 (by omega)
  have h6 : f m * p ^ m ≤ (p - 1) * p ^ m := Int.mul_le_mul_of_nonneg_right (by omega) (by omega)
  have h7 : (p - 1) * p ^ m = p ^ m * p - p ^ m := by rw [Int.sub_mul, Int.one_mul, Int.mul_comm]
  rw [psum, Int.pow_succ]
  omega
def adg (p x y : Int) (i : Nat) : Int := (x / p ^ i % p + y / p ^ i % p) % p
def ndg (p x : Int) (i : Nat) : Int := (p - x / p ^ i % p) % p
theorem adg_bd {p : Int} (hp : 2 ≤ p) (x y : Int) (i : Nat) : 0 ≤ adg p x y i ∧ adg p x y i < p := ⟨Int.emod_nonneg _ (by omega), Int.emod_lt_of_pos _ (by omega)⟩
theorem ndg_bd {p : Int} (hp : 2 ≤ p) (x : Int) (i : Nat) : 0 ≤ ndg p x i ∧ ndg p x i < p := ⟨Int.emod_nonneg _ (by omega), Int.emod_lt_of_pos _ (by omega)⟩
theorem div_pow_succ2 {p : Int} (hp : 2 ≤ p) (x : Int) (k : Nat) : x / p ^ k / p = x / p ^ (k + 1) := by
 rw [Int.ediv_ediv_of_nonneg (Int.le_of_lt (Int.pow_pos (by omega))), Int.pow_succ]
theorem div_gone {p : Int} (hp : 2 ≤ p) {x : Int} {k : Nat} (h : x / p ^ k = 0) : ∀ i, k ≤ i → x / p ^ i = 0 := fun i hi => by
 obtain ⟨d, rfl⟩ : ∃ d, i = k + d := ⟨i - k, by omega⟩
 rw [Int.pow_add, ← Int.ediv_ediv_of_nonneg (Int.le_of_lt (Int.pow_pos (by omega))), h, Int.zero_ediv]
theorem addF_psum {P M : Int} (x y : Int) : addF P M x y = psum P (adg P (inQ (orderF P M) x) (inQ (orderF P M) y)) M.toNat := by
 unfold addF
 rw [value_row]
 refine psum_congr fun i hi => ?_
 unfold digF adg
 rw [digitsF_getD hi, digitsF_getD hi]
theorem negF_psum {P M : Int} (x : Int) : negF P M x = psum P (ndg P (inQ (orderF P M) x)) M.toNat := by
 unfold negF
 rw [value_row]
 refine psum_congr fun i hi => ?_
 unfold digF ndg
 rw [digitsF_getD hi]
theorem inQ_in {q x : Int} : inQ q (inQ q x) = inQ q x := by
 unfold inQ
 by_cases h : 0 ≤ x ∧ x < q
 ·rw [if_pos h, if_pos h]
 ·rw [if_neg h]; split <;> rfl
theorem digF_in (P M x : Int) : digF P M (inQ (orderF P M) x) = digF P M x := by unfold digF; rw [inQ_in]
theorem mulR_in (P M : Int) (Mod : List Int) (x y : Int) : mulR P M Mod (inQ (orderF P M) x) (inQ (orderF P M) y) = mulR P M Mod x y := by unfold mulR; rw [digF_in, digF_in]
theorem mulR_in1 (P M : Int) (Mod : List Int) (x y : Int) : mulR P M Mod (inQ (orderF P M) x) y = mulR P M Mod x y := by unfold mulR; rw [digF_in]
theorem invTo_in (P M : Int) (Mod : List Int) (x : Int) : ∀ k, invTo P M Mod (inQ (orderF P M) x) k = invTo P M Mod x k
 | 0 => rfl
 | k + 1 => by rw [invTo, invTo, invTo_in P M Mod x k, mulR_in1]
theorem invF_in (P M : Int) (Mod : List Int) (x : Int) : invF P M Mod (inQ (orderF P M) x) = invF P M Mod x := invTo_in P M Mod x _
theorem xor_psum : ∀ (m x y : Nat), x < 2 ^ m → y < 2 ^ m → psum 2 (adg 2 (x : Int) (y : Int)) m = ((x ^^^ y : Nat) : Int)
 | 0, x, y, hx, hy => by
  obtain rfl : x = 0 := by simpa using hx
  obtain rfl : y = 0 := by simpa using hy
  rfl
 | m + 1, x, y, hx, hy => by
  rw [Nat.pow_succ] at hx hy
  have ih := xor_psum m (x / 2) (y / 2) (by omega) (by omega)
  have e : ∀ i, adg 2 (x : Int) (y : Int) (i + 1) = adg 2 ((x / 2 : Nat) : Int) ((y / 2 : Nat) : Int) i := fun i => by
   have h2 : ∀ z : Nat, ((z : Int)) / 2 ^ (i + 1) = ((z / 2 : Nat) : Int) / 2 ^ i := fun z => by
    rw [Int.pow_succ, Int.mul_comm, ← Int.ediv_ediv_of_nonneg (by omega)]; push_cast; rfl
   unfold adg
   rw [h2, h2]
  have h0 : adg 2 (x : Int) (y : Int) 0 = (((x + y) % 2 : Nat) : Int) := by
   unfold adg
   simp
  rw [psum_shift, psum_congr fun i _ => e i, ih, h0]
  have h3 : (x ^^^ y) / 2 = x / 2 ^^^ y / 2 := Nat.xor_div_two
  have h4 : (x ^^^ y) % 2 = (x + y) % 2 := by
   have h := Nat.xor_mod_two_pow (a := x) (b := y) (n := 1)
   rw [Nat.pow_one] at h
   rw [h]
   rcases Nat.mod_two_eq_zero_or_one x with h1 | h1 <;> rcases Nat.mod_two_eq_zero_or_one y with h2 | h2 <;> rw [h1, h2, Nat.add_mod, h1, h2] <;> decide
  rw [← h3, ← h4]
  omega
end Go.Proofs.YtodgdoglhecolaaGreat
namespace Go.Proofs.YtodgdoglhecolaaGreat
open Go.RowKit
set_option maxRecDepth 100000
set_option maxHeartbeats 4000000 in
theorem gin_any (w : World) (a : Nat) (P M x : Int) (Mod : List Int) (h : GF w a P M Mod) : Calls Tryz.prog 115 #[.pointer (some ⟨a, 0, none⟩), .int .i64 x] w (fun e w' => e = .returned (.int .i64 (inQ (orderF P M) x)) ∧ w = w') := by
 have HG := Lib.hid h; clear h
 by_cases hx : 0 ≤ x ∧ x < orderF P M
 ·have HB : Hid (isB P M x = true) := isB_true hx
  have HE : Hid (inQ (orderF P M) x = x) := by show _ = _; unfold inQ; rw [if_pos hx]
  clear hx
  go_enter Tryz.func115, Tryz.ntmps115
  go_wp2_with fail
  refine (gis_any _ a P M x Mod HG.out).mono ?_
  rintro e w1 ⟨rfl, rfl⟩
  rw [HB.out]
  go_wp2_with fail
  go_ret
  exact ⟨by rw [HE.out]; rfl, rfl⟩
 ·have HB : Hid (isB P M x = false) := isB_false hx
  have HE : Hid (inQ (orderF P M) x = 0) := by show _ = _; unfold inQ; rw [if_neg hx]
  clear hx
  go_enter Tryz.func115, Tryz.ntmps115
  go_wp2_with fail
  refine (gis_any _ a P M x Mod HG.out).mono ?_
  rintro e w1 ⟨rfl, rfl⟩
  rw [HB.out]
  go_wp2_with fail
  go_ret
  exact ⟨by rw [HE.out]; rfl, rfl⟩
theorem inQ_rng {q : Int} (hq : 0 < q) (x : Int) : 0 ≤ inQ q x ∧ inQ q x < q := by unfold inQ; split <;> omega
theorem div_last {P M x : Int} (ho : orderF P M ≠ 0) (hx : 0 ≤ x) (hq : x < orderF P M) : x / P ^ M.toNat = 0 := by
 obtain ⟨_, _, _, _, _, hq2⟩ := order_ne ho
 rw [hq2] at hq
 exact Int.ediv_eq_zero_of_lt hx hq
theorem mul_rng {d t P : Int} (h0 : 0 ≤ d) (h1 : d ≤ 256) (t0 : 0 ≤ t) (t1 : t ≤ 256) : 0 ≤ d * t ∧ d * t ≤ 65536 := by
 refine ⟨Int.mul_nonneg h0 t0, ?_⟩
 have h2 : d * t ≤ 256 * t := Int.mul_le_mul_of_nonneg_right h1 t0
 omega
theorem ndg_gone {P A : Int} (hP : 2 ≤ P) {k m : Nat} (h : A / P ^ k = 0) : ∀ i, k ≤ i → i < m → ndg P A i = 0 := fun i hi _ => by
 unfold ndg
 rw [div_gone hP h i hi]
 simp
theorem adg_gone {P A B : Int} (hP : 2 ≤ P) {k m : Nat} (h : A / P ^ k = 0) (h2 : B / P ^ k = 0) : ∀ i, k ≤ i → i < m → adg P A B i = 0 := fun i hi _ => by
 unfold adg
 rw [div_gone hP h i hi, div_gone hP h2 i hi]
 simp
set_option maxHeartbeats 8000000 in
theorem gneg_any (w : World) (a : Nat) (P M x : Int) (Mod : List Int) (h : GF w a P M Mod) : Calls Tryz.prog 123 #[.pointer (some ⟨a, 0, none⟩), .int .i64 x] w (RetI w (negF P M x)) := by
 have HG := Lib.hid h
 obtain ⟨q, mv, ge, ce, gl, cl, E, L, h⟩ := h
 have c0 := h.c0
 have ho := h.fld.1
 clear h
 have HP := Lib.hid (negF_psum (P := P) (M := M) x)
 obtain ⟨hP2, hP3, hM1, hM8, hqq, _⟩ := order_ne ho
 have hob := orderF_bounds P M
 have hA := inQ_rng (q := orderF P M) (by omega) x
 have HLAST := Lib.hid (div_last ho hA.1 hA.2)
 have HPOW : Hid (∀ k, k ≤ M.toNat → P ^ k ≤ 256) := hid' fun k hk => by
   have := pow_mono' (show 2 ≤ P by omega) hk
   omega
 obtain ⟨A, hAe⟩ : ∃ A, A = inQ (orderF P M) x := ⟨_, rfl⟩
 rw [← hAe] at HP hA HLAST
 have HAE := Lib.hid hAe; clear hAe
 obtain ⟨hA0, hA1⟩ := hA
 have hA2 : A ≤ 256 := by omega
 have HD := Lib.hid (div_small hA0 hA2 hP2)
 clear hqq hob hA1 ho
 obtain ⟨m, hm⟩ : ∃ m, m = M.toNat := ⟨_, rfl⟩
 rw [← hm] at HP HLAST HPOW
 clear hm
 have hPz : ¬ P = 0 := by omega
 go_enter Tryz.func123, Tryz.ntmps123
 go_wp2_with fail
 refine (gin_any _ a P M x Mod HG.out).mono ?_
 rintro e w1 ⟨rfl, rfl⟩
 rw [← HAE.out]
 go_wp2_with fail
 go_loopw [1, 5, 6] (fun u s t wr => ∃ k : Nat, k ≤ m ∧ u = .int .i64 (A / P ^ k) ∧ s = .int .i64 (psum P (ndg P A) k) ∧ t = .int .i64 (P ^ k) ∧ Hid (Below w.heap.size w wr)) (fun u _ _ _ => (intOf u).toNat)
 case atStart => exact ⟨0, Nat.zero_le _, by simp, rfl, by simp, bl_refl _⟩
 case round =>
   obtain ⟨k, hk, rfl, rfl, rfl, HB⟩ := hrel
   have HDk := HD.out k
   have HNX : Hid (A / P ^ (k + 1) = A / P ^ k / P) := (div_pow_succ2 hP2 A k).symm
   have HPN : Hid (P ^ (k + 1) = P ^ k * P) := Int.pow_succ P k
   have HSN : Hid (psum P (ndg P A) (k + 1) = psum P (ndg P A) k + -(A / P ^ k % P) % P * P ^ k) := by
     show _ = _
     rw [psum, ndg, Int.sub_emod_left]
   have HSB := psum_bd hP2 (fun i => ndg_bd hP2 A i) k
   have ht0 := pow_pos' hP2 k
   have ht1 := HPOW.out k hk
   have HGONE : Hid (A / P ^ k = 0 → psum P (ndg P A) m = psum P (ndg P A) k) := hid' fun h0 => psum_cut hk (ndg_gone hP2 h0)
   have HLK : Hid (k = m → A / P ^ k = 0) := hid' fun e => by rw [e]; exact HLAST.out
   generalize A / P ^ k = u at HDk HNX HSN HGONE HLK ⊢
   generalize psum P (ndg P A) k = s at HSN HSB HGONE ⊢
   generalize P ^ k = t at HPN HSN HSB ht0 ht1 ⊢
   have c0' := cell_below HB.out c0
   by_cases hu : 0 < u
   · have hkm : k < m := by
       rcases Nat.lt_or_ge k m with h | h
       · exact h
       · have := HLK.out (by omega); omega
     have hr1 := Int.emod_nonneg u hPz
     have hr2 := Int.emod_lt_of_pos u (show 0 < P by omega)
     have hr3 := Int.emod_nonneg (-(u % P)) hPz
     have hr4 := Int.emod_lt_of_pos (-(u % P)) (show 0 < P by omega)
     have hm1 := mul_rng (P := P) hr3 (by omega) (show 0 ≤ t by omega) ht1
     have hm2 := mul_rng (P := P) (show 0 ≤ t by omega) ht1 (show 0 ≤ P by omega) hP3
     obtain ⟨hm10, hm11⟩ := hm1
     obtain ⟨hm20, hm21⟩ := hm2
     have hdec : u / P < u := Int.ediv_lt_self_of_pos_of_ne_one hu (by omega)
     have hd0 : 0 ≤ u / P := Int.ediv_nonneg (by omega) (by omega)
     go_wp2_with fail
     go_quiet (fail)
     go_wp2_with fail
     exact ⟨⟨k + 1, by omega, by rw [HNX.out], by rw [HSN.out], by rw [HPN.out], bl_trans HB.out (bl_drewN _ _)⟩, by simp only [intOf]; omega⟩
   · have HE : Hid (negF P M x = s) := by show _ = _; rw [HP.out]; exact HGONE.out (by omega)
     go_wp2_with fail
     go_ret
     exact ⟨by rw [HE.out]; rfl, HB.out⟩
set_option maxHeartbeats 8000000 in
theorem gadd_any (w : World) (a : Nat) (P M x y : Int) (Mod : List Int) (h : GF w a P M Mod) : Calls Tryz.prog 71 #[.pointer (some ⟨a, 0, none⟩), .int .i64 x, .int .i64 y] w (RetI w (addF P M x y)) := by
 have HG := Lib.hid h
 obtain ⟨q, mv, ge, ce, gl, cl, E, L, h⟩ := h
 have c0 := h.c0
 have ho := h.fld.1
 clear h
 have HP := Lib.hid (addF_psum (P := P) (M := M) x y)
 obtain ⟨hP2, hP3, hM1, hM8, hqq, hq2⟩ := order_ne ho
 have hob := orderF_bounds P M
 have hA := inQ_rng (q := orderF P M) (by omega) x
 have hB := inQ_rng (q := orderF P M) (by omega) y
 have HLA := Lib.hid (div_last ho hA.1 hA.2)
 have HLB := Lib.hid (div_last ho hB.1 hB.2)
 have HPOW : Hid (∀ k, k ≤ M.toNat → P ^ k ≤ 256) := hid' fun k hk => by
   have := pow_mono' (show 2 ≤ P by omega) hk
   omega
 obtain ⟨A, hAe⟩ : ∃ A, A = inQ (orderF P M) x := ⟨_, rfl⟩
 obtain ⟨B, hBe⟩ : ∃ B, B = inQ (orderF P M) y := ⟨_, rfl⟩
 rw [← hAe] at HP hA HLA
 rw [← hBe] at HP hB HLB
 have HAE := Lib.hid hAe; have HBE := Lib.hid hBe; clear hAe hBe
 obtain ⟨hA0, hA1⟩ := hA
 obtain ⟨hB0, hB1⟩ := hB
 have hA2 : A ≤ 256 := by omega
 have hB2 : B ≤ 256 := by omega
 by_cases htwo : P = 2
 · subst htwo
   obtain ⟨An, rfl⟩ : ∃ An : Nat, A = (An : Int) := ⟨A.toNat, by omega⟩
   obtain ⟨Bn, rfl⟩ : ∃ Bn : Nat, B = (Bn : Int) := ⟨B.toNat, by omega⟩
   have hpw : (2 : Int) ^ M.toNat = ((2 ^ M.toNat : Nat) : Int) := by push_cast; rfl
   have HX : Hid (addF 2 M x y = ((An ^^^ Bn : Nat) : Int)) := by
     show _ = _
     rw [HP.out]
     exact xor_psum _ _ _ (by omega) (by omega)
   have HXX := Lib.hid (i64_xor_nat An Bn (by omega) (by omega))
   clear HP HLA HLB HPOW hqq hq2 hob ho hpw
   go_enter Tryz.func71, Tryz.ntmps71
   go_wp2_with fail
   refine (gin_any _ a 2 M x Mod HG.out).mono ?_
   rintro e w1 ⟨rfl, rfl⟩
   rw [← HAE.out]
   go_wp2_with fail
   refine (gin_any _ a 2 M y Mod HG.out).mono ?_
   rintro e w1 ⟨rfl, rfl⟩
   rw [← HBE.out]
   go_wp2_with fail
   go_ret
   exact ⟨by rw [HX.out, ← HXX.out]; rfl, bl_refl _⟩
 have hne : (P == 2) = false := by simpa using htwo
 have HDA := Lib.hid (div_small hA0 hA2 hP2)
 have HDB := Lib.hid (div_small hB0 hB2 hP2)
 clear hqq hob hA1 hB1 ho hq2
 obtain ⟨m, hm⟩ : ∃ m, m = M.toNat := ⟨_, rfl⟩
 rw [← hm] at HP HLA HLB HPOW
 clear hm
 have hPz : ¬ P = 0 := by omega
 go_enter Tryz.func71, Tryz.ntmps71
 go_wp2_with fail
 refine (gin_any _ a P M x Mod HG.out).mono ?_
 rintro e w1 ⟨rfl, rfl⟩
 rw [← HAE.out]
 go_wp2_with fail
 refine (gin_any _ a P M y Mod HG.out).mono ?_
 rintro e w1 ⟨rfl, rfl⟩
 rw [← HBE.out]
 go_wp2_with fail
 go_loopw [1, 2, 7, 8] (fun u v s t wr => ∃ k : Nat, k ≤ m ∧ u = .int .i64 (A / P ^ k) ∧ v = .int .i64 (B / P ^ k) ∧ s = .int .i64 (psum P (adg P A B) k) ∧ t = .int .i64 (P ^ k) ∧ Hid (Below w.heap.size w wr)) (fun u v _ _ _ => (intOf u).toNat + (intOf v).toNat)
 case atStart => exact ⟨0, Nat.zero_le _, by simp, by simp, rfl, by simp, bl_refl _⟩
 case round =>
   obtain ⟨k, hk, rfl, rfl, rfl, rfl, HB⟩ := hrel
   have HDk := HDA.out k
   have HDl := HDB.out k
   have HNX : Hid (A / P ^ (k + 1) = A / P ^ k / P) := (div_pow_succ2 hP2 A k).symm
   have HNY : Hid (B / P ^ (k + 1) = B / P ^ k / P) := (div_pow_succ2 hP2 B k).symm
   have HPN : Hid (P ^ (k + 1) = P ^ k * P) := Int.pow_succ P k
   have HSN : Hid (psum P (adg P A B) (k + 1) = psum P (adg P A B) k + (A / P ^ k + B / P ^ k) % P * P ^ k) := by
     show _ = _
     rw [psum, adg, Int.emod_add_emod, Int.add_emod_emod]
   have HSB := psum_bd hP2 (fun i => adg_bd hP2 A B i) k
   have ht0 := pow_pos' hP2 k
   have ht1 := HPOW.out k hk
   have HGONE : Hid (A / P ^ k = 0 → B / P ^ k = 0 → psum P (adg P A B) m = psum P (adg P A B) k) := hid' fun h0 h1 => psum_cut hk (adg_gone hP2 h0 h1)
   have HLK : Hid (k = m → A / P ^ k = 0 ∧ B / P ^ k = 0) := hid' fun e => by rw [e]; exact ⟨HLA.out, HLB.out⟩
   generalize A / P ^ k = u at HDk HNX HSN HGONE HLK ⊢
   generalize B / P ^ k = v at HDl HNY HSN HGONE HLK ⊢
   generalize psum P (adg P A B) k = s at HSN HSB HGONE ⊢
   generalize P ^ k = t at HPN HSN HSB ht0 ht1 ⊢
   have c0' := cell_below HB.out c0
   by_cases huv : 0 < u ∨ 0 < v
   · have hkm : k < m := by
       rcases Nat.lt_or_ge k m with h | h
       · exact h
       · have := HLK.out (by omega); omega
     have hr1 := Int.emod_nonneg u hPz
     have hr2 := Int.emod_lt_of_pos u (show 0 < P by omega)
     have hr1' := Int.emod_nonneg v hPz
     have hr2' := Int.emod_lt_of_pos v (show 0 < P by omega)
     have hr3 := Int.emod_nonneg (u + v) hPz
     have hr4 := Int.emod_lt_of_pos (u + v) (show 0 < P by omega)
     have hm1 := mul_rng (P := P) hr3 (by omega) (show 0 ≤ t by omega) ht1
     have hm2 := mul_rng (P := P) (show 0 ≤ t by omega) ht1 (show 0 ≤ P by omega) hP3
     obtain ⟨hm10, hm11⟩ := hm1
     obtain ⟨hm20, hm21⟩ := hm2
     have hdu : u / P ≤ u := Int.ediv_le_self _ (by omega)
     have hdv : v / P ≤ v := Int.ediv_le_self _ (by omega)
     have hd0 : 0 ≤ u / P := Int.ediv_nonneg (by omega) (by omega)
     have hd1 : 0 ≤ v / P := Int.ediv_nonneg (by omega) (by omega)
     have hdec : u / P + v / P < u + v := by
       rcases huv with h | h
       · have : u / P < u := Int.ediv_lt_self_of_pos_of_ne_one h (by omega)
         omega
       · have : v / P < v := Int.ediv_lt_self_of_pos_of_ne_one h (by omega)
         omega
     clear huv
     cases hu : decide (0 < u) with
     | true =>
       go_wp2_with fail
       go_quiet (fail)
       go_wp2_with fail
       exact ⟨⟨k + 1, by omega, by rw [HNX.out], by rw [HNY.out], by rw [HSN.out], by rw [HPN.out], bl_trans HB.out (bl_drewN _ _)⟩, by simp only [intOf]; omega⟩
     | false =>
       have hu0 : ¬ 0 < u := by simpa using hu
       have hv : decide (0 < v) = true := by
         have : 0 ≤ u / P := hd0
         have : u = 0 := by omega
         rw [decide_eq_true_eq]
         subst this
         simp at hdec
         omega
       clear hu0
       go_wp2_with fail
       go_quiet (fail)
       go_wp2_with fail
       exact ⟨⟨k + 1, by omega, by rw [HNX.out], by rw [HNY.out], by rw [HSN.out], by rw [HPN.out], bl_trans HB.out (bl_drewN _ _)⟩, by simp only [intOf]; omega⟩
   · have HE : Hid (addF P M x y = s) := by show _ = _; rw [HP.out]; exact HGONE.out (by omega) (by omega)
     have hu : decide (0 < u) = false := by simp; omega
     have hv : decide (0 < v) = false := by simp; omega
     clear huv
     go_wp2_with fail
     go_ret
     exact ⟨by rw [HE.out]; rfl, HB.out⟩
set_option maxHeartbeats 4000000 in
theorem gsub_any (w : World) (a : Nat) (P M x y : Int) (Mod : List Int) (h : GF w a P M Mod) : Calls Tryz.prog 153 #[.pointer (some ⟨a, 0, none⟩), .int .i64 x, .int .i64 y] w (RetI w (addF P M x (negF P M y))) := by
 have HG := Lib.hid h; clear h
 go_enter Tryz.func153, Tryz.ntmps153
 go_wp2_with fail
 refine (gneg_any _ a P M y Mod HG.out).mono ?_
 rintro e w1 ⟨rfl, hb1⟩
 have HG1 := Lib.hid (HG.out.on hb1)
 have HB1 := Lib.hid hb1; clear hb1
 go_wp2_with fail
 refine (gadd_any _ a P M x _ Mod HG1.out).mono ?_
 rintro e w2 ⟨rfl, hb2⟩
 have HB2 := Lib.hid (bl_trans HB1.out hb2); clear hb2
 go_wp2_with fail
 go_ret
 exact ⟨rfl, HB2.out⟩
theorem mulR_z1 {P M x y : Int} {Mod : List Int} (hf : FieldP P M Mod) (h : inQ (orderF P M) x = 0) : mulR P M Mod x y = 0 := by
 rw [← mulR_in1, h]
 exact (ref_fld hf).zero_mul y
theorem mulR_z2 {P M x y : Int} {Mod : List Int} (hf : FieldP P M Mod) (h : inQ (orderF P M) y = 0) : mulR P M Mod x y = 0 := by
 rw [← mulR_in, h]
 exact (ref_fld hf).mul_zero _
set_option maxHeartbeats 8000000 in
theorem gmul_any (w : World) (a : Nat) (P M x y : Int) (Mod : List Int) (h : GF w a P M Mod) : Calls Tryz.prog 72 #[.pointer (some ⟨a, 0, none⟩), .int .i64 x, .int .i64 y] w (RetI w (mulR P M Mod x y)) := by
 have HG := Lib.hid h
 obtain ⟨q, mv, ge, ce, gl, cl, E, L, h⟩ := h
 have hf := h.fld
 have HF := Lib.hid hf
 have ho := hf.1
 have hob := orderF_bounds P M
 have hA := inQ_rng (q := orderF P M) (by omega) x
 have hB := inQ_rng (q := orderF P M) (by omega) y
 by_cases hx0 : inQ (orderF P M) x = 0
 ·have HE : Hid (mulR P M Mod x y = 0) := mulR_z1 hf hx0
  have HX := Lib.hid hx0
  clear hf h hx0 hA hB ho
  go_enter Tryz.func72, Tryz.ntmps72
  go_wp2_with fail
  refine (gin_any _ a P M x Mod HG.out).mono ?_
  rintro e w1 ⟨rfl, rfl⟩
  rw [HX.out]
  go_wp2_with fail
  refine (gin_any _ a P M y Mod HG.out).mono ?_
  rintro e w1 ⟨rfl, rfl⟩
  go_wp2_with fail
  go_ret
  exact ⟨by rw [HE.out]; rfl, bl_refl _⟩
 by_cases hy0 : inQ (orderF P M) y = 0
 ·have HE : Hid (mulR P M Mod x y = 0) := mulR_z2 hf hy0
  have HY := Lib.hid hy0
  have hxb : (inQ (orderF P M) x == 0) = false := by simpa using hx0
  clear hf h hx0 hy0 hA hB ho
  go_enter Tryz.func72, Tryz.ntmps72
  go_wp2_with fail
  refine (gin_any _ a P M x Mod HG.out).mono ?_
  rintro e w1 ⟨rfl, rfl⟩
  go_wp2_with fail
  refine (gin_any _ a P M y Mod HG.out).mono ?_
  rintro e w1 ⟨rfl, rfl⟩
  rw [HY.out]
  go_wp2_with fail
  go_ret
  exact ⟨by rw [HE.out]; rfl, bl_refl _⟩
 have hT := h.tab
 have hord := h.ord
 have hO := ref_fld hf
 have hxb : (inQ (orderF P M) x == 0) = false := by simpa using hx0
 have hyb : (inQ (orderF P M) y == 0) = false := by simpa using hy0
 have hmi := mulR_in P M Mod x y
 obtain ⟨A, hAe⟩ : ∃ A : Nat, inQ (orderF P M) x = (A : Int) := ⟨(inQ (orderF P M) x).toNat, by omega⟩
 obtain ⟨B, hBe⟩ : ∃ B : Nat, inQ (orderF P M) y = (B : Int) := ⟨(inQ (orderF P M) y).toNat, by omega⟩
 have HAE := Lib.hid hAe; have HBE := Lib.hid hBe
 rw [hAe] at hA hx0 hxb hmi
 rw [hBe] at hB hy0 hyb hmi
 rw [hord] at hA hB hO
 obtain ⟨hA0, hA1⟩ := hA
 obtain ⟨hB0, hB1⟩ := hB
 have hM := hT.mul hO (y := (A : Int)) (z := (B : Int)) ⟨by omega, by omega⟩ ⟨by omega, by omega⟩
 rw [Int.toNat_natCast, Int.toNat_natCast] at hM
 have HE : Hid (mulR P M Mod x y = E.getD ((L.getD A 0 + L.getD B 0) % ((q : Int) - 1)).toNat 0) := by
  show _ = _
  rw [hM.2.2]
  exact hmi.symm
 have hAq : A < q := by omega
 have hBq : B < q := by omega
 have r1 := hT.rng A
 have r2 := hT.rng B
 have e1 := h.log A hAq
 have e2 := h.log B hBq
 have hq2 := hO.lt.pos
 generalize L.getD A 0 = la at hM HE r1 e1
 generalize L.getD B 0 = lb at hM HE r2 e2
 obtain ⟨hi1, hi0, _⟩ := hM
 obtain ⟨i, hi⟩ : ∃ i : Nat, (la + lb) % ((q : Int) - 1) = (i : Int) := ⟨((la + lb) % ((q : Int) - 1)).toNat, by omega⟩
 have hiq : i < q - 1 := by omega
 have e3 := h.exp i hiq
 have HI := Lib.hid hi
 rw [hi, Int.toNat_natCast] at HE
 generalize E.getD i 0 = z at HE e3
 have c1 := h.c3
 have c4 := h.c4
 have c5 := h.c5
 have hqb : (q : Int) ≤ 256 := by omega
 clear hT hord hO hAe hBe h hf hi0 hi1 hx0 hy0 ho hob hmi
 have hq1z : ¬ ((q : Int) - 1) = 0 := by omega
 go_enter Tryz.func72, Tryz.ntmps72
 go_wp2_with fail
 refine (gin_any _ a P M x Mod HG.out).mono ?_
 rintro e w1 ⟨rfl, rfl⟩
 rw [HAE.out]
 go_wp2_with fail
 refine (gin_any _ a P M y Mod HG.out).mono ?_
 rintro e w1 ⟨rfl, rfl⟩
 rw [HBE.out]
 go_wp2_with fail
 go_quiet (fail)
 go_wp2_with fail
 go_ret
 exact ⟨by rw [HE.out]; rfl, bl_drewN _ _⟩
def RetIE (w : World) (z er : Int) (e : Ending) (w' : World) : Prop := e = .returned (.tuple #[.int .i64 z, .int .i64 er]) ∧ Below w.heap.size w w'
set_option maxHeartbeats 8000000 in
theorem ginv_any (w : World) (a : Nat) (P M x : Int) (Mod : List Int) (h : GF w a P M Mod) (hx0 : inQ (orderF P M) x ≠ 0) : Calls Tryz.prog 158 #[.pointer (some ⟨a, 0, none⟩), .int .i64 x] w (RetIE w (invF P M Mod x) 0) := by
 have HG := Lib.hid h
 obtain ⟨q, mv, ge, ce, gl, cl, E, L, h⟩ := h
 have hf := h.fld
 have ho := hf.1
 have hob := orderF_bounds P M
 have hA := inQ_rng (q := orderF P M) (by omega) x
 have hT := h.tab
 have hord := h.ord
 have hO := ref_fld hf
 have hxb : (inQ (orderF P M) x == 0) = false := by simpa using hx0
 have hmi := invF_in P M Mod x
 obtain ⟨A, hAe⟩ : ∃ A : Nat, inQ (orderF P M) x = (A : Int) := ⟨(inQ (orderF P M) x).toNat, by omega⟩
 have HAE := Lib.hid hAe
 rw [hAe] at hA hx0 hxb hmi
 rw [hord] at hA hO
 obtain ⟨hA0, hA1⟩ := hA
 have hM := hT.inv hO (y := (A : Int)) ⟨by omega, by omega⟩ (hO.inv_lt _)
 rw [Int.toNat_natCast] at hM
 have HE : Hid (invF P M Mod x = E.getD (((q : Int) - 1 - L.getD A 0) % ((q : Int) - 1)).toNat 0) := by
  show _ = _
  rw [hM.2.2]
  exact hmi.symm
 have hAq : A < q := by omega
 have r1 := hT.rng A
 have e1 := h.log A hAq
 have hq2 := hO.lt.pos
 generalize L.getD A 0 = la at hM HE r1 e1
 obtain ⟨hi1, hi0, _⟩ := hM
 obtain ⟨i, hi⟩ : ∃ i : Nat, ((q : Int) - 1 - la) % ((q : Int) - 1) = (i : Int) := ⟨(((q : Int) - 1 - la) % ((q : Int) - 1)).toNat, by omega⟩
 have hiq : i < q - 1 := by omega
 have e3 := h.exp i hiq
 have HI := Lib.hid hi
 rw [hi, Int.toNat_natCast] at HE
 generalize E.getD i 0 = z at HE e3
 have c1 := h.c3
 have c4 := h.c4
 have c5 := h.c5
 have hqb : (q : Int) ≤ 256 := by omega
 clear hT hord hO hAe h hf hi0 hi1 hx0 ho hob hmi
 have hq1z : ¬ ((q : Int) - 1) = 0 := by omega
 go_enter Tryz.func158, Tryz.ntmps158
 go_wp2_with fail
 refine (gin_any _ a P M x Mod HG.out).mono ?_
 rintro e w1 ⟨rfl, rfl⟩
 rw [HAE.out]
 go_wp2_with fail
 go_quiet (fail)
 go_wp2_with fail
 go_ret2
 exact ⟨by rw [HE.out]; rfl, bl_drewN _ _⟩
end Go.Proofs.YtodgdoglhecolaaGreat
