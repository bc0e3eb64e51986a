/- Texts of a claim, merged: words, plain facts and walks that the last of its texts uses. -/
import Derived.Test.YtlofhnmpbpjigaaGreatZB5
import Derived.Test.YtlofhnmpbpjigaaGreatZB9
import Derived.Laws.EntriesVeiled
set_option linter.unusedSimpArgs false
set_option linter.unusedVariables false

namespace Go.Proofs.YtlofhnmpbpjigaaGreat
open Go.RowKit
set_option maxRecDepth 100000
theorem gr_cell {w w' : World} {g b o : Nat} {u : Value} (hg : w.grownBy w' (some g)) (h : w.cell? ⟨b, o, none⟩ = some u) (hne : b ≠ g) : w'.cell? ⟨b, o, none⟩ = some u := by
 have hlt : b < w.heap.size := World.block_lt_of_cell? _ _ h
 rw [World.cell?_of_block (w := w) (hg.block _ hlt (fun e => hne (Option.some.inj e)))]
 exact h
def RetEl (B : Nat) (X : Nat → Prop) (w : World) (v : Value) (l' : List (List Int)) (e : Ending) (w' : World) : Prop := e = .returned (.tuple #[]) ∧ OM B X w' v l' ∧ KX B X w w'
set_option maxHeartbeats 8000000 in
theorem mswap_any (w : World) (B g n c gk ga a k : Nat) (X : Nat → Prop) (l : List (List Int)) (hl : OM B X w (.slice (some ⟨g, 0, none⟩) n c) l) (hn : l.length = n) (ha : a < n) (hk : k < n) (hne : a ≠ k) (xk : X gk) (xa : X ga)
  (ck : w.cell? ⟨gk, 0, none⟩ = some (.int .i64 (k : Int))) (ca : w.cell? ⟨ga, 0, none⟩ = some (.int .i64 (a : Int))) (hB : B ≤ w.heap.size) :
  Calls Tryz.prog 136 #[.slice (some ⟨g, 0, none⟩) n c, .pointer (some ⟨gk, 0, none⟩), .pointer (some ⟨ga, 0, none⟩)] w (RetEl B X w (.slice (some ⟨g, 0, none⟩) n c) (swapL l a k)) := by
 have HL := Lib.hid hl
 obtain ⟨ua, h1, o1, _⟩ := hl.row (k := a) (by omega)
 obtain ⟨uk, h2, o2, _⟩ := hl.row (k := k) (by omega)
 have H1 := Lib.hid h1; have H2 := Lib.hid h2
 obtain ⟨A1, c1, rfl⟩ := o1.form'
 obtain ⟨A2, c2, rfl⟩ := o2.form'
 have fa := hl.frozen a
 have fk := hl.frozen k
 have HN := Lib.hid hn; have HNE := Lib.hid hne
 have hgl := hl.lt (g := g) rfl
 have HX := Lib.hid (hl.notX (g := g) rfl)
 generalize (l.getD a []).length = n1 at *
 generalize (l.getD k []).length = n2 at *
 have hz : (w.setCell ⟨g, a, none⟩ (.slice A2 n2 c2)).cell? ⟨g, k, none⟩ = some (.slice A2 n2 c2) := cell_other h2 (fun e => hne (by injection e with e1 e2; exact e2.symm))
 have hgk : gk ≠ g := fun e => HX.out (e ▸ xk)
 have hga : ga ≠ g := fun e => HX.out (e ▸ xa)
 have hz1 : (w.setCell ⟨g, a, none⟩ (.slice A2 n2 c2)).cell? ⟨gk, 0, none⟩ = some (.int .i64 (k : Int)) := cell_other ck (fun e => hgk (by injection e))
 have hz2 : (w.setCell ⟨g, a, none⟩ (.slice A2 n2 c2)).cell? ⟨ga, 0, none⟩ = some (.int .i64 (a : Int)) := cell_other ca (fun e => hga (by injection e))
 clear hl o1 o2 hn hne hgk hga
 go_enter Tryz.func136, Tryz.ntmps136
 go_wp2_with fail
 go_region
 all_goals
  go_wp2_with fail
  refine bodyPost_end (results_none rfl _ _ _) rfl ?_
  refine ⟨rfl, (HL.out.swap (by rw [HN.out]; exact ha) (by rw [HN.out]; exact hk) HNE.out H1.out H2.out).below (bl_drew _), ?_⟩
  exact (KX.gr (gr_drew (gr_set2 w g a k _ _)) hB (fun b e => by cases e; exact ⟨hgl.1, HX.out⟩))
set_option maxHeartbeats 8000000 in
theorem mscl_any (wG w : World) (B A g n c g4 gi ga a : Nat) (P M z : Int) (Mod : List Int) (X : Nat → Prop) (l : List (List Int)) (hG : GF wG A P M Mod) (hGb : Below wG.heap.size wG w) (hBG : wG.heap.size ≤ B)
  (hl : OM B X w (.slice (some ⟨g, 0, none⟩) n c) l) (hn : l.length = n) (ha : a < n) (hX : ∀ g, X g → g < w.heap.size)
  (hlen : (l.getD a []).length ≤ 100000) (hrx : ∀ k, I64 ((l.getD a []).getD k 0))
  (c4 : w.cell? ⟨g4, 0, none⟩ = some (.pointer (some ⟨A, 0, none⟩))) (ci : w.cell? ⟨gi, 0, none⟩ = some (.int .i64 z)) (ca : w.cell? ⟨ga, 0, none⟩ = some (.int .i64 (a : Int))) (hB : B ≤ w.heap.size) :
  Calls Tryz.prog 138 #[.slice (some ⟨g, 0, none⟩) n c, .pointer (some ⟨g4, 0, none⟩), .pointer (some ⟨gi, 0, none⟩), .pointer (some ⟨ga, 0, none⟩)] w
   (RetEl B X w (.slice (some ⟨g, 0, none⟩) n c) (l.set a (scaleL (refOps P M Mod) z (l.getD a [])))) := by
 have HL := Lib.hid hl; have HG := Lib.hid (hG.below hGb (Nat.le_refl _))
 obtain ⟨ua, h1, o1, _⟩ := hl.row (k := a) (by omega)
 have HN := Lib.hid hn; have HXB := Lib.hid hX
 have hgl := hl.lt (g := g) rfl
 have HX := Lib.hid (hl.notX (g := g) rfl)
 have HS := Lib.hid (o1.si (by omega) hrx)
 obtain ⟨A1, k1, rfl⟩ := o1.form'
 have HLEN := Lib.hid hlen
 clear hl hG hGb hn o1 hrx hX
 generalize hr : l.getD a [] = r at *
 have HR := Lib.hid hr; clear hr
 go_enter Tryz.func138, Tryz.ntmps138
 go_wp2_with fail
 refine Drawn.start (S := fun w' => w'.cell? ⟨g4, 0, none⟩ = some (.pointer (some ⟨A, 0, none⟩)) ∧ w'.cell? ⟨gi, 0, none⟩ = some (.int .i64 z) ∧ w'.cell? ⟨ga, 0, none⟩ = some (.int .i64 (a : Int)) ∧ w'.cell? ⟨g, a, none⟩ = some (.slice A1 r.length k1)) (by kernel_rfl) (⟨c4, ci, ca, h1⟩) (fun hHeld => ?_)
 change Drawn _ _ _ _ 11 _ _ _
 refine Drawn.tk 0 (v := ?_) rfl ?_ hHeld ?_
 rotate_left
 ·intro w' h; (try dsimp only at h); go_simp <;> with_reducible rfl
 try simp only [tda, tdb, tdc, Act.put, tdd, tde, tdf]
 refine Drawn.tk 1 (v := ?_) rfl ?_ hHeld ?_
 rotate_left
 ·intro w' h; (try dsimp only at h); go_simp <;> with_reducible rfl
 try simp only [tda, tdb, tdc, Act.put, tdd, tde, tdf]
 refine Drawn.tk 2 (v := ?_) rfl ?_ hHeld ?_
 rotate_left
 ·intro w' h; (try dsimp only at h); go_simp <;> with_reducible rfl
 try simp only [tda, tdb, tdc, Act.put, tdd, tde, tdf]
 refine Drawn.tk 3 (v := ?_) rfl ?_ hHeld ?_
 rotate_left
 ·intro w' h; (try dsimp only at h); go_simp <;> with_reducible rfl
 try simp only [tda, tdb, tdc, Act.put, tdd, tde, tdf]
 refine Drawn.tk 4 (v := ?_) rfl ?_ hHeld ?_
 rotate_left
 ·intro w' h; (try dsimp only at h); go_simp <;> with_reducible rfl
 try simp only [tda, tdb, tdc, Act.put, tdd, tde, tdf]
 refine Drawn.tk 5 (v := ?_) rfl ?_ hHeld ?_
 rotate_left
 ·intro w' h; (try dsimp only at h); go_simp <;> with_reducible rfl
 try simp only [tda, tdb, tdc, Act.put, tdd, tde, tdf]
 refine Drawn.tk 6 (v := ?_) rfl ?_ hHeld ?_
 rotate_left
 ·intro w' h; (try dsimp only at h); go_simp <;> with_reducible rfl
 try simp only [tda, tdb, tdc, Act.put, tdd, tde, tdf]
 refine Drawn.tk 7 (v := ?_) rfl ?_ hHeld ?_
 rotate_left
 ·intro w' h; (try dsimp only at h); go_simp <;> with_reducible rfl
 try simp only [tda, tdb, tdc, Act.put, tdd, tde, tdf]
 refine Drawn.only (i := 8) (by kernel_rfl) rfl (fun K hK => ?_)
 go_simp
 refine (gscale_any _ A P M z Mod r _ (HG.out.on (bl_drew _)) (HS.out.below (bl_drew _) (Nat.le_refl _)) HLEN.out).mono ?_; rintro e w1 ⟨u, rfl, hu, hb1⟩; obtain ⟨A2, k2, rfl⟩ := hu.form'; have HB1 := Lib.hid (bl_trans (bl_drew w) hb1); have HU := Lib.hid (hu.mono (B' := w.heap.size) (Nat.le_refl _)); have d1 := cell_below HB1.out c4; have d2 := cell_below HB1.out ci; have d3 := cell_below HB1.out ca; have d4 := cell_below HB1.out h1; have f1 := (HL.out.below HB1.out).frozen a; clear hb1 hu
 refine hK.out _ _ (fun _ => ⟨d1, d2, d3, d4⟩) (fun hHeld2 => ?_)
 clear hK K
 replace hHeld := hHeld2 (by decide)
 clear hHeld2
 try simp only [tda, tdb, tdc, Act.put, tdd, tde, tdf]
 refine Drawn.tk 9 (v := ?_) rfl ?_ hHeld ?_
 rotate_left
 ·intro w' h; (try dsimp only at h); go_simp <;> with_reducible rfl
 try simp only [tda, tdb, tdc, Act.put, tdd, tde, tdf]
 refine Drawn.only (i := 10) (by kernel_rfl) rfl (fun K hK => ?_)
 go_simp
 refine hK.out _ _ (fun h => absurd rfl h) (fun hHeld2 => ?_)
 clear hK K
 clear hHeld2
 refine Drawn.done (by kernel_rfl) ?_
 try simp only [tda, tdb, tdc, Act.put, tdd, tde, tdf]
 clear hHeld
 go_wp2_with fail
 refine bodyPost_end (results_none rfl _ _ _) rfl ?_
 refine ⟨rfl, ?_, ?_⟩
 ·exact HL.out.put HB1.out HXB.out (by rw [HN.out]; exact ha) HU.out
 ·exact (KX.of HB1.out hB).trans (KX.gr (gr_set1 w1 g a _) (Nat.le_trans hB HB1.out.size) (fun b e => by cases e; exact ⟨hgl.1, HX.out⟩))
set_option maxHeartbeats 8000000 in
theorem mclr_any (wG w : World) (B A g n c L g4 gi gx ga i a : Nat) (P M x : Int) (Mod : List Int) (X : Nat → Prop) (l : List (List Int)) (hG : GF wG A P M Mod) (hGb : Below wG.heap.size wG w) (hBG : wG.heap.size ≤ B)
  (hl : OM B X w (.slice (some ⟨g, 0, none⟩) n c) l) (hn : l.length = n) (hi : i < n) (ha : a < n) (hne : i ≠ a)
  (hL : ∀ j, j < n → (l.getD j []).length = L ∧ ∀ k, I64 ((l.getD j []).getD k 0)) (hL0 : 0 < L) (hL1 : L ≤ 100000) (x4 : X g4) (xi : X gi) (xx : X gx) (xa : X ga)
  (c4 : w.cell? ⟨g4, 0, none⟩ = some (.pointer (some ⟨A, 0, none⟩))) (ci : w.cell? ⟨gi, 0, none⟩ = some (.int .i64 (i : Int))) (cx : w.cell? ⟨gx, 0, none⟩ = some (.int .i64 x)) (ca : w.cell? ⟨ga, 0, none⟩ = some (.int .i64 (a : Int))) (hB : B ≤ w.heap.size) :
  Calls Tryz.prog 140 #[.slice (some ⟨g, 0, none⟩) n c, .pointer (some ⟨g4, 0, none⟩), .pointer (some ⟨gi, 0, none⟩), .pointer (some ⟨gx, 0, none⟩), .pointer (some ⟨ga, 0, none⟩)] w
   (RetEl B X w (.slice (some ⟨g, 0, none⟩) n c) (l.set i (addToL (refOps P M Mod) (l.getD i []) (negF P M x) (l.getD a [])))) := by
 have HL := Lib.hid hl; have HG := Lib.hid hG; have HGB := Lib.hid hGb
 obtain ⟨ui, h1, o1, s1⟩ := hl.row (k := i) (by omega)
 obtain ⟨ua, h2, o2, _⟩ := hl.row (k := a) (by omega)
 have hap := hl.apart (i := a) (k := i) (by omega) (by omega) (fun e => hne e.symm) h2 h1
 have HN := Lib.hid hn
 have hri := hL i hi
 have hra := hL a ha
 obtain ⟨q1, k1, rfl, hq1, hq2⟩ := o1.form (by omega)
 have s1 := s1 q1 rfl
 have HS := Lib.hid (o2.si (by omega) hra.2)
 obtain ⟨q2, k2, rfl, _, _⟩ := o2.form (by omega)
 have hap := hap q2 rfl
 have hnq : q2 ≠ q1 := fun e => hap (by rw [e]; rfl)
 have hH1 := Lib.hid h1
 rw [hri.1] at o1 h1
 rw [hra.1] at h2 HS
 have HO1 := Lib.hid o1
 have HLI := Lib.hid hri; have HLA := Lib.hid hra
 have HX := Lib.hid s1.2
 have hgq : g ≠ q1 := fun e => s1.1 e.symm
 clear s1
 clear hl hG hGb hn o1 o2 hri hra hL hap
 go_enter Tryz.func140, Tryz.ntmps140
 go_wp2_with fail
 refine Kept.start (S := fun w' => w'.cell? ⟨g4, 0, none⟩ = some (.pointer (some ⟨A, 0, none⟩)) ∧ w'.cell? ⟨gi, 0, none⟩ = some (.int .i64 (i : Int)) ∧ w'.cell? ⟨gx, 0, none⟩ = some (.int .i64 x) ∧ w'.cell? ⟨ga, 0, none⟩ = some (.int .i64 (a : Int)) ∧ w'.cell? ⟨g, i, none⟩ = some (.slice (some ⟨q1, 0, none⟩) L k1) ∧ w'.cell? ⟨g, a, none⟩ = some (.slice (some ⟨q2, 0, none⟩) L k2)) (by kernel_rfl) (⟨c4, ci, cx, ca, h1, h2⟩) (fun hHeld => ?_)
 change Kept _ _ _ _ 13 _ _ _
 refine Kept.tk 0 (v := ?_) rfl ?_ hHeld ?_
 rotate_left
 ·intro w' h; (try dsimp only at h); go_simp <;> with_reducible rfl
 try simp only [tda, tdb, tdc, Act.put, tdd, tde, tdf]
 refine Kept.tk 1 (v := ?_) rfl ?_ hHeld ?_
 rotate_left
 ·intro w' h; (try dsimp only at h); go_simp <;> with_reducible rfl
 try simp only [tda, tdb, tdc, Act.put, tdd, tde, tdf]
 refine Kept.tk 2 (v := ?_) rfl ?_ hHeld ?_
 rotate_left
 ·intro w' h; (try dsimp only at h); go_simp <;> with_reducible rfl
 try simp only [tda, tdb, tdc, Act.put, tdd, tde, tdf]
 refine Kept.tk 3 (v := ?_) rfl ?_ hHeld ?_
 rotate_left
 ·intro w' h; (try dsimp only at h); go_simp <;> with_reducible rfl
 try simp only [tda, tdb, tdc, Act.put, tdd, tde, tdf]
 refine Kept.tk 4 (v := ?_) rfl ?_ hHeld ?_
 rotate_left
 ·intro w' h; (try dsimp only at h); go_simp <;> with_reducible rfl
 try simp only [tda, tdb, tdc, Act.put, tdd, tde, tdf]
 refine Kept.tk 5 (v := ?_) rfl ?_ hHeld ?_
 rotate_left
 ·intro w' h; (try dsimp only at h); go_simp <;> with_reducible rfl
 try simp only [tda, tdb, tdc, Act.put, tdd, tde, tdf]
 refine Kept.tk 6 (v := ?_) rfl ?_ hHeld ?_
 rotate_left
 ·intro w' h; (try dsimp only at h); go_simp <;> with_reducible rfl
 try simp only [tda, tdb, tdc, Act.put, tdd, tde, tdf]
 refine Kept.tk 8 (v := ?_) rfl ?_ hHeld ?_
 rotate_left
 ·intro w' h; (try dsimp only at h); go_simp <;> with_reducible rfl
 try simp only [tda, tdb, tdc, Act.put, tdd, tde, tdf]
 refine Kept.tk 9 (v := ?_) rfl ?_ hHeld ?_
 rotate_left
 ·intro w' h; (try dsimp only at h); go_simp <;> with_reducible rfl
 try simp only [tda, tdb, tdc, Act.put, tdd, tde, tdf]
 refine Kept.tk 10 (v := ?_) rfl ?_ hHeld ?_
 rotate_left
 ·intro w' h; (try dsimp only at h); go_simp <;> with_reducible rfl
 try simp only [tda, tdb, tdc, Act.put, tdd, tde, tdf]
 refine Kept.tk 11 (v := ?_) rfl ?_ hHeld ?_
 rotate_left
 ·intro w' h; (try dsimp only at h); go_simp <;> with_reducible rfl
 try simp only [tda, tdb, tdc, Act.put, tdd, tde, tdf]
 refine Kept.only (i := 7) (by kernel_rfl) rfl (fun K hK => ?_)
 go_simp
 refine (gneg_any _ A P M x Mod (HG.out.below (HGB.out.trans ((bl_drew w).mono HGB.out.size)) (Nat.le_refl _))).mono ?_; rintro e w1 ⟨rfl, hb1⟩; have HB1 := Lib.hid (bl_trans (bl_drew w) hb1); have d1 := cell_below HB1.out c4; have d2 := cell_below HB1.out ci; have d3 := cell_below HB1.out cx; have d4 := cell_below HB1.out ca; have d5 := cell_below HB1.out h1; have d6 := cell_below HB1.out h2; clear hb1
 refine hK.out _ _ (⟨d1, d2, d3, d4, d5, d6⟩) (fun hHeld2 => ?_)
 clear hK K
 replace hHeld := hHeld2
 clear hHeld2
 try simp only [tda, tdb, tdc, Act.put, tdd, tde, tdf]
 refine Kept.only (i := 12) (by kernel_rfl) rfl (fun K hK => ?_)
 go_simp
 refine (madd_any wG _ B A q1 L k1 0 P M _ Mod _ _ _ _ HG.out (HGB.out.trans (HB1.out.mono HGB.out.size)) hBG (HO1.out.below HB1.out (Nat.le_refl _)) HLI.out.1 (HS.out.below HB1.out (Nat.le_refl _)) HLA.out.1 (fun _ b hb => by have : q2 = b := Option.some.inj hb; omega) hL1 HLI.out.2).mono ?_; rintro e w2 ⟨rfl, ho2, hg2⟩; have HO2 := Lib.hid ho2; have HG2 := Lib.hid hg2; clear ho2 hg2; have e1 := gr_cell HG2.out d1 (fun e => HX.out (e ▸ x4)); have e2 := gr_cell HG2.out d2 (fun e => HX.out (e ▸ xi)); have e3 := gr_cell HG2.out d3 (fun e => HX.out (e ▸ xx)); have e4 := gr_cell HG2.out d4 (fun e => HX.out (e ▸ xa)); have e5 := gr_cell HG2.out d5 hgq; have e6 := gr_cell HG2.out d6 hgq
 refine hK.out _ _ (⟨e1, e2, e3, e4, e5, e6⟩) (fun hHeld2 => ?_)
 clear hK K
 clear hHeld2
 refine Kept.done (by kernel_rfl) ?_
 try simp only [tda, tdb, tdc, Act.put, tdd, tde, tdf]
 clear hHeld
 go_wp2_with fail
 refine bodyPost_end (results_none rfl _ _ _) rfl ?_
 refine ⟨rfl, ?_, ?_⟩
 ·exact (HL.out.below HB1.out).write (by rw [HN.out]; exact hi) (cell_below HB1.out h1) HG2.out HO2.out
 ·exact (KX.of HB1.out hB).trans (KX.gr HG2.out (Nat.le_trans hB HB1.out.size) (fun b e => by cases e; exact ⟨hq1, HX.out⟩))
theorem KX.cell {B : Nat} {X : Nat → Prop} {w w' : World} (h : KX B X w w') {b o : Nat} {u : Value} (hc : w.cell? ⟨b, o, none⟩ = some u) (hx : X b) : w'.cell? ⟨b, o, none⟩ = some u := by
 have hlt : b < w.heap.size := World.block_lt_of_cell? _ _ hc
 rw [World.cell?_of_block (w := w) (h.box b hx hlt)]
 exact hc
section
variable {w : World} {B g n c g4 g5 g7 gk ga gi gx a k i A : Nat} {X : Nat → Prop} {l : List (List Int)}
set_option maxHeartbeats 4000000 in
theorem each2_any (c5 : w.cell? ⟨g5, 0, none⟩ = some (.slice (some ⟨g, 0, none⟩) n c)) (c7 : w.cell? ⟨g7, 0, none⟩ = some (.slice none 0 0)) (x7 : X g7)
  (hl : OM B X w (.slice (some ⟨g, 0, none⟩) n c) l) (hn : l.length = n) (ha : a < n) (hk : k < n) (hne : a ≠ k) (xk : X gk) (xa : X ga)
  (ck : w.cell? ⟨gk, 0, none⟩ = some (.int .i64 (k : Int))) (ca : w.cell? ⟨ga, 0, none⟩ = some (.int .i64 (a : Int))) (hB : B ≤ w.heap.size) :
  Calls Tryz.prog 135 #[.func (.func 136) #[] #[.pointer (some ⟨gk, 0, none⟩), .pointer (some ⟨ga, 0, none⟩)], .pointer (some ⟨g5, 0, none⟩), .pointer (some ⟨g7, 0, none⟩)] w (RetEl B X w (.slice (some ⟨g, 0, none⟩) n c) (swapL l a k)) := by
 have HC := mswap_any w B g n c gk ga a k X l hl hn ha hk hne xk xa ck ca hB
 have HH := Lib.hid HC
 clear HC hl ck ca hne hn
 go_enter Tryz.func135, Tryz.ntmps135
 go_wp2_with fail
 refine HH.out.mono ?_
 rintro e w1 ⟨rfl, ho, hk⟩
 have d7 := hk.cell c7 x7
 have HO := Lib.hid ho; have HK := Lib.hid hk
 clear ho hk
 go_wp2_with fail
 refine bodyPost_end (results_none rfl _ _ _) rfl ?_
 exact ⟨rfl, HO.out, HK.out⟩
set_option maxHeartbeats 4000000 in
theorem each3_any {wG : World} {P M z : Int} {Mod : List Int} (c5 : w.cell? ⟨g5, 0, none⟩ = some (.slice (some ⟨g, 0, none⟩) n c)) (c7 : w.cell? ⟨g7, 0, none⟩ = some (.slice none 0 0)) (x7 : X g7)
  (hG : GF wG A P M Mod) (hGb : Below wG.heap.size wG w) (hBG : wG.heap.size ≤ B)
  (hl : OM B X w (.slice (some ⟨g, 0, none⟩) n c) l) (hn : l.length = n) (ha : a < n) (hX : ∀ g, X g → g < w.heap.size)
  (hlen : (l.getD a []).length ≤ 100000) (hrx : ∀ k, I64 ((l.getD a []).getD k 0))
  (c4 : w.cell? ⟨g4, 0, none⟩ = some (.pointer (some ⟨A, 0, none⟩))) (ci : w.cell? ⟨gi, 0, none⟩ = some (.int .i64 z)) (ca : w.cell? ⟨ga, 0, none⟩ = some (.int .i64 (a : Int))) (hB : B ≤ w.heap.size) :
  Calls Tryz.prog 135 #[.func (.func 138) #[] #[.pointer (some ⟨g4, 0, none⟩), .pointer (some ⟨gi, 0, none⟩), .pointer (some ⟨ga, 0, none⟩)], .pointer (some ⟨g5, 0, none⟩), .pointer (some ⟨g7, 0, none⟩)] w
   (RetEl B X w (.slice (some ⟨g, 0, none⟩) n c) (l.set a (scaleL (refOps P M Mod) z (l.getD a [])))) := by
 have HH := Lib.hid (mscl_any wG w B A g n c g4 gi ga a P M z Mod X l hG hGb hBG hl hn ha hX hlen hrx c4 ci ca hB)
 clear hl c4 ci ca hn hG hGb hX hlen hrx
 go_enter Tryz.func135, Tryz.ntmps135
 go_wp2_with fail
 refine HH.out.mono ?_
 rintro e w1 ⟨rfl, ho, hk⟩
 have d7 := hk.cell c7 x7
 have HO := Lib.hid ho; have HK := Lib.hid hk
 clear ho hk
 go_wp2_with fail
 refine bodyPost_end (results_none rfl _ _ _) rfl ?_
 exact ⟨rfl, HO.out, HK.out⟩
set_option maxHeartbeats 4000000 in
theorem each4_any {wG : World} {L : Nat} {P M x : Int} {Mod : List Int} (c5 : w.cell? ⟨g5, 0, none⟩ = some (.slice (some ⟨g, 0, none⟩) n c)) (c7 : w.cell? ⟨g7, 0, none⟩ = some (.slice none 0 0)) (x7 : X g7)
  (hG : GF wG A P M Mod) (hGb : Below wG.heap.size wG w) (hBG : wG.heap.size ≤ B)
  (hl : OM B X w (.slice (some ⟨g, 0, none⟩) n c) l) (hn : l.length = n) (hi : i < n) (ha : a < n) (hne : i ≠ a)
  (hL : ∀ j, j < n → (l.getD j []).length = L ∧ ∀ k, I64 ((l.getD j []).getD k 0)) (hL0 : 0 < L) (hL1 : L ≤ 100000) (x4 : X g4) (xi : X gi) (xx : X gx) (xa : X ga)
  (c4 : w.cell? ⟨g4, 0, none⟩ = some (.pointer (some ⟨A, 0, none⟩))) (ci : w.cell? ⟨gi, 0, none⟩ = some (.int .i64 (i : Int))) (cx : w.cell? ⟨gx, 0, none⟩ = some (.int .i64 x)) (ca : w.cell? ⟨ga, 0, none⟩ = some (.int .i64 (a : Int))) (hB : B ≤ w.heap.size) :
  Calls Tryz.prog 135 #[.func (.func 140) #[] #[.pointer (some ⟨g4, 0, none⟩), .pointer (some ⟨gi, 0, none⟩), .pointer (some ⟨gx, 0, none⟩), .pointer (some ⟨ga, 0, none⟩)], .pointer (some ⟨g5, 0, none⟩), .pointer (some ⟨g7, 0, none⟩)] w
   (RetEl B X w (.slice (some ⟨g, 0, none⟩) n c) (l.set i (addToL (refOps P M Mod) (l.getD i []) (negF P M x) (l.getD a [])))) := by
 have HH := Lib.hid (mclr_any wG w B A g n c L g4 gi gx ga i a P M x Mod X l hG hGb hBG hl hn hi ha hne hL hL0 hL1 x4 xi xx xa c4 ci cx ca hB)
 clear hl c4 ci cx ca hn hG hGb hL hne
 go_enter Tryz.func135, Tryz.ntmps135
 go_wp2_with fail
 refine HH.out.mono ?_
 rintro e w1 ⟨rfl, ho, hk⟩
 have d7 := hk.cell c7 x7
 have HO := Lib.hid ho; have HK := Lib.hid hk
 clear ho hk
 go_wp2_with fail
 refine bodyPost_end (results_none rfl _ _ _) rfl ?_
 exact ⟨rfl, HO.out, HK.out⟩
end
structure EM (w0 wr : World) (v u : Value) (l : List (List Int)) (piv : List Int) (X : Nat → Prop) (A b4 b5 b7 : Nat) : Prop where
 om : OM w0.heap.size X wr v l
 xb : ∀ g, X g → g < wr.heap.size
 oi : OI w0.heap.size wr u piv
 xu : ∀ g, u.ownBlock = some g → X g
 nu : ∀ g, u.ownBlock = some g → g ≠ b4 ∧ g ≠ b5 ∧ g ≠ b7
 bel : Below w0.heap.size w0 wr
 x4 : X b4
 x5 : X b5
 x7 : X b7
 k4 : Blk wr b4 78 [.pointer (some ⟨A, 0, none⟩)]
 k5 : Blk wr b5 25 [v]
 k7 : Blk wr b7 25 [.slice none 0 0]
section
variable {w0 wr w1 : World} {v u : Value} {l l' : List (List Int)} {piv : List Int} {X : Nat → Prop} {A b4 b5 b7 : Nat}
theorem EM.on (h : EM w0 wr v u l piv X A b4 b5 b7) (hb : Below wr.heap.size wr w1) : EM w0 w1 v u l piv X A b4 b5 b7 :=
 ⟨h.om.below hb, fun g hg => Nat.lt_of_lt_of_le (h.xb g hg) hb.size, h.oi.below hb (Nat.le_refl _), h.xu, h.nu, h.bel.trans (hb.mono h.bel.size), h.x4, h.x5, h.x7, h.k4.belowS hb, h.k5.belowS hb, h.k7.belowS hb⟩
theorem EM.kx (h : EM w0 wr v u l piv X A b4 b5 b7) (ho : OM w0.heap.size X w1 v l') (hk : KX w0.heap.size X wr w1) : EM w0 w1 v u l' piv X A b4 b5 b7 :=
 ⟨ho, fun g hg => Nat.lt_of_lt_of_le (h.xb g hg) hk.size, hk.oi h.oi h.xu, h.xu, h.nu, h.bel.trans hk.bel, h.x4, h.x5, h.x7, hk.blk h.k4 h.x4, hk.blk h.k5 h.x5, hk.blk h.k7 h.x7⟩
theorem EM.box (h : EM w0 wr v u l piv X A b4 b5 b7) (o : Obj) : EM w0 (wr.alloc o) v u l piv (fun g => X g ∨ g = wr.heap.size) A b4 b5 b7 := by
 have h1 := h.on (bl_alloc wr o)
 refine ⟨h.om.names (fun g hl hg => hg.resolve_right (by omega)) |>.below (bl_alloc wr o), fun g hg => ?_, h1.oi, fun g hg => .inl (h.xu g hg), h.nu, h1.bel, .inl h.x4, .inl h.x5, .inl h.x7, h1.k4, h1.k5, h1.k7⟩
 rw [World.size_alloc]
 rcases hg with hg | hg
 ·have := h.xb g hg; omega
 ·omega
theorem EM.name (h : EM w0 wr v u l piv X A b4 b5 b7) (hb : Below wr.heap.size wr w1) {gi : Nat} (hgi : wr.heap.size ≤ gi) (hlt : gi < w1.heap.size) : EM w0 w1 v u l piv (fun g => X g ∨ g = gi) A b4 b5 b7 := by
 have h1 := h.on hb
 refine ⟨(h.om.names (Y := fun g => X g ∨ g = gi) (fun g hl hg => hg.resolve_right (by omega))).below hb, fun g hg => ?_, h1.oi, fun g hg => .inl (h.xu g hg), h.nu, h1.bel, .inl h.x4, .inl h.x5, .inl h.x7, h1.k4, h1.k5, h1.k7⟩
 rcases hg with hg | hg
 ·exact h1.xb g hg
 ·omega
theorem EM.set (h : EM w0 wr v u l piv X A b4 b5 b7) {b i : Nat} (hx : X b) (hB : w0.heap.size ≤ b) (hu : ∀ g, u.ownBlock = some g → g ≠ b) (h4 : b4 ≠ b) (h5 : b5 ≠ b) (h7 : b7 ≠ b) (y : Value) : EM w0 (wr.setCell ⟨b, i, none⟩ y) v u l piv X A b4 b5 b7 :=
 ⟨h.om.grown (gr_set1 wr b i y) (fun g hg => by cases hg; exact hx), fun g hg => by have := h.xb g hg; simpa [World.setCell] using this,
  h.oi.grown (gr_set1 wr b i y) (fun g hg e => hu g hg (Option.some.inj e).symm), h.xu, h.nu, h.bel.setCell (p := ⟨b, i, none⟩) hB y, h.x4, h.x5, h.x7, h.k4.far (p := ⟨b, i, none⟩) h4 y, h.k5.far (p := ⟨b, i, none⟩) h5 y, h.k7.far (p := ⟨b, i, none⟩) h7 y⟩
theorem EM.push {v' : Value} {y : Int} {o : Obj} (h : EM w0 wr v u l piv X A b4 b5 b7) (ho : OI w0.heap.size w1 v' (piv ++ [y])) (hg : (wr.alloc o).grownBy w1 u.ownBlock)
  (hv : v'.ownBlock = u.ownBlock ∨ v'.ownBlock = some (wr.alloc o).heap.size) : EM w0 w1 v v' l (piv ++ [y]) (fun g => X g ∨ v'.ownBlock = some g) A b4 b5 b7 := by
 have h1 := h.on (bl_alloc wr o)
 have ne : ∀ b, (b = b4 ∨ b = b5 ∨ b = b7) → some b ≠ u.ownBlock := fun b hb e => by
  have := h.nu b e.symm
  omega
 have hlt : ∀ b, X b → b < (wr.alloc o).heap.size := h1.xb
 refine ⟨?_, fun g hg' => ?_, ho, fun g hg' => .inr hg', fun g hg' => ?_, h1.bel.grown hg h1.bel.size (fun k hk => (h.oi.lt hk).1), .inl h.x4, .inl h.x5, .inl h.x7, h1.k4.grown hg (ne b4 (.inl rfl)), h1.k5.grown hg (ne b5 (.inr (.inl rfl))), h1.k7.grown hg (ne b7 (.inr (.inr rfl)))⟩
 ·refine (h1.om.names (Y := fun g => X g ∨ v'.ownBlock = some g) (fun g hgl hx => ?_)).grown hg (fun g' hg' => .inl (h.xu g' hg'))
  rcases hx with hx | hx
  ·exact hx
  ·rcases hv with hv | hv
   ·exact h.xu g (by rw [← hv]; exact hx)
   ·rw [hv] at hx
    have := Option.some.inj hx
    omega
 ·rcases hg' with hx | hx
  ·exact Nat.lt_of_lt_of_le (hlt g hx) hg.size
  ·exact (ho.lt hx).2
 ·rcases hv with hv | hv
  ·exact h.nu g (by rw [← hv]; exact hg')
  ·rw [hv] at hg'
   have e := Option.some.inj hg'
   have := hlt _ h.x4; have := hlt _ h.x5; have := hlt _ h.x7
   omega
end
def RetEI (w0 : World) (v : Value) (l : List (List Int)) (piv : List Int) (e : Ending) (w' : World) : Prop :=
 ∃ u d, e = .returned (.tuple #[u, .int .i64 d]) ∧ OM w0.heap.size (fun g => g < w0.heap.size ∨ u.ownBlock = some g) w' v l ∧ OI w0.heap.size w' u piv ∧ Below w0.heap.size w0 w'
set_option maxHeartbeats 4000000 in
theorem melim_nil (w0 w : World) (A : Nat) (P M : Int) (Mod : List Int) (cols : Int) (AA : Option Addr) (c : Nat) (hO : OM w0.heap.size (fun g => g < w0.heap.size) w (.slice AA 0 c) []) (hb : Below w0.heap.size w0 w) :
   Calls Tryz.prog 118 #[.pointer (some ⟨A, 0, none⟩), .slice AA 0 c, .int .i64 cols, .slice none 0 0] w (RetEI w0 (.slice AA 0 c) [] []) := by
 have HO := Lib.hid hO; have HB := Lib.hid hb; clear hO hb
 have hb1 := bl_trans (bl_trans (bl_alloc w (.cells #[.pointer (some ⟨A, 0, none⟩)] 78)) (bl_alloc _ (.cells #[.slice AA 0 c] 25))) (bl_alloc _ (.cells #[.slice none 0 0] 25))
 have k5 : (((w.alloc (.cells #[.pointer (some ⟨A, 0, none⟩)] 78)).alloc (.cells #[.slice AA 0 c] 25)).alloc (.cells #[.slice none 0 0] 25)).cell? ⟨w.heap.size + 1, 0, none⟩ = some (.slice AA 0 c) := by
   have b2 := Blk.new (w.alloc (.cells #[.pointer (some ⟨A, 0, none⟩)] 78)) 25 [.slice AA 0 c]
   rw [World.size_alloc] at b2
   exact (b2.alloc (.cells #[.slice none 0 0] 25)).cell 0
 have HB1 := Lib.hid hb1; clear hb1
 go_enter Tryz.func118, Tryz.ntmps118
 go_wp2_with fail
 generalize ((w.alloc (.cells #[.pointer (some ⟨A, 0, none⟩)] 78)).alloc (.cells #[.slice AA 0 c] 25)).alloc (.cells #[.slice none 0 0] 25) = w1 at *
 go_wp2_with fail
 go_loop [10, 12, 13] (fun d u c => d = .int .i64 1 ∧ u = .slice none 0 0 ∧ c = .int .i64 0) (fun _ _ _ => 0)
 case atStart => exact ⟨rfl, rfl, rfl⟩
 case round =>
   obtain ⟨rfl, rfl, rfl⟩ := hrel
   by_cases h0 : 0 < cols
   all_goals
     go_wp2_with fail
     go_ret2
     exact ⟨_, _, rfl, (HO.out.below HB1.out).names (fun g _ h => h.resolve_right (by simp [Value.ownBlock])), OI.nil _ _, HB.out.trans (HB1.out.mono HB.out.size)⟩
theorem inv_one {O : FOps} {q : Int} (hO : O.Fld q) {x : Int} (h0 : 0 < x) (h1 : x < q) : O.inv x = 1 ↔ x = 1 := by
 have h := hO.mul_inv x h0 h1
 have hi := hO.inv_lt x
 constructor
 ·intro e
  rw [e, hO.mul_one x (by omega) h1] at h
  exact h
 ·intro e
  subst e
  rwa [hO.one_mul hi.1 hi.2] at h
set_option maxHeartbeats 40000000 in
theorem melim_cons (w0 w : World) (A : Nat) (P M : Int) (cols L n g cc : Nat) (Mod : List Int) (rows : List (List Int)) (hG : GF w0 A P M Mod) (hOM : OM w0.heap.size (fun g => g < w0.heap.size) w (.slice (some ⟨g, 0, none⟩) n cc) rows)
   (hn : rows.length = n) (hpos : 0 < n) (hb : Below w0.heap.size w0 w) (hR : Rows (orderF P M) L rows) (hcL : cols ≤ L) (hL : L ≤ 100000) (hn2 : n ≤ 100000) :
   Calls Tryz.prog 118 #[.pointer (some ⟨A, 0, none⟩), .slice (some ⟨g, 0, none⟩) n cc, .int .i64 (cols : Int), .slice none 0 0] w
     (RetEI w0 (.slice (some ⟨g, 0, none⟩) n cc) (elimTo (refOps P M Mod) rows cols).1 (elimTo (refOps P M Mod) rows cols).2) := by
 have hf := hG.fld
 have ho := hf.1
 have HLT := Lib.hid (refOps_lt ho Mod)
 have HFLD := Lib.hid (ref_fld hf)
 have hob := orderF_bounds P M
 have HG := Lib.hid hG; clear hG
 obtain ⟨O, hO⟩ : ∃ O, O = refOps P M Mod := ⟨_, rfl⟩
 rw [← hO] at HLT HFLD ⊢
 have HOE := Lib.hid hO; clear hO
 obtain ⟨q, hq⟩ : ∃ q, q = orderF P M := ⟨_, rfl⟩
 rw [← hq] at HLT HFLD hR hob
 have HQE := Lib.hid hq; clear hq
 obtain ⟨hq0, hq1⟩ := hob
 have HR := Lib.hid hR; have HN := Lib.hid hn
 have HB := Lib.hid hb
 have hsz := hb.size
 have HEM0 : Hid (EM w0 (((w.alloc (.cells #[.pointer (some ⟨A, 0, none⟩)] 78)).alloc (.cells #[.slice (some ⟨g, 0, none⟩) n cc] 25)).alloc (.cells #[.slice none 0 0] 25)) (.slice (some ⟨g, 0, none⟩) n cc) (.slice none 0 0) rows []
     (fun b => ((b < w0.heap.size ∨ b = w.heap.size) ∨ b = w.heap.size + 1) ∨ b = w.heap.size + 1 + 1) A w.heap.size (w.heap.size + 1) (w.heap.size + 1 + 1)) := by
   have s1 : (w.alloc (.cells #[.pointer (some ⟨A, 0, none⟩)] 78)).heap.size = w.heap.size + 1 := World.size_alloc _ _
   have s2 : ((w.alloc (.cells #[.pointer (some ⟨A, 0, none⟩)] 78)).alloc (.cells #[.slice (some ⟨g, 0, none⟩) n cc] 25)).heap.size = w.heap.size + 1 + 1 := by rw [World.size_alloc, s1]
   have b1 := Blk.new w 78 [.pointer (some ⟨A, 0, none⟩)]
   have b2 := Blk.new (w.alloc (.cells #[.pointer (some ⟨A, 0, none⟩)] 78)) 25 [.slice (some ⟨g, 0, none⟩) n cc]
   have b3 := Blk.new ((w.alloc (.cells #[.pointer (some ⟨A, 0, none⟩)] 78)).alloc (.cells #[.slice (some ⟨g, 0, none⟩) n cc] 25)) 25 [.slice none 0 0]
   rw [s1] at b2
   rw [s2] at b3
   have hbb := bl_trans (bl_trans (bl_alloc w (.cells #[.pointer (some ⟨A, 0, none⟩)] 78)) (bl_alloc _ (.cells #[.slice (some ⟨g, 0, none⟩) n cc] 25))) (bl_alloc _ (.cells #[.slice none 0 0] 25))
   refine ⟨(hOM.names fun b hl hx => ?_).below hbb, fun b hx => ?_, OI.nil _ _, fun g hg => by simp [Value.ownBlock] at hg, fun g hg => by simp [Value.ownBlock] at hg, hb.trans (hbb.mono hsz), .inl (.inl (.inr rfl)), .inl (.inr rfl), .inr rfl, (b1.alloc _).alloc _, b2.alloc _, b3⟩
   · rcases hx with ((hx | hx) | hx) | hx
     · exact hx
     · omega
     · omega
     · omega
   · rw [World.size_alloc, s2]
     rcases hx with ((hx | hx) | hx) | hx <;> omega
 clear hOM hn hb hR
 go_enter Tryz.func118, Tryz.ntmps118
 go_wp2_with fail
 generalize (((w.alloc (.cells #[.pointer (some ⟨A, 0, none⟩)] 78)).alloc (.cells #[.slice (some ⟨g, 0, none⟩) n cc] 25)).alloc (.cells #[.slice none 0 0] 25)) = w1 at *
 generalize hX0 : (fun b => ((b < w0.heap.size ∨ b = w.heap.size) ∨ b = w.heap.size + 1) ∨ b = w.heap.size + 1 + 1) = X0 at *
 have HX0 : Hid (∀ b, b < w0.heap.size → X0 b) := hid' fun b hb => by rw [← hX0]; exact .inl (.inl (.inl hb))
 have H46 : Hid (w.heap.size ≠ w.heap.size + 1) := hid' (by omega)
 obtain ⟨b4, hb4⟩ : ∃ b4, b4 = w.heap.size := ⟨_, rfl⟩
 obtain ⟨b5, hb5⟩ : ∃ b5, b5 = w.heap.size + 1 := ⟨_, rfl⟩
 obtain ⟨b7, hb7⟩ : ∃ b7, b7 = w.heap.size + 1 + 1 := ⟨_, rfl⟩
 rw [← hb7, ← hb5, ← hb4] at HEM0 ⊢
 have hb0 : w0.heap.size ≤ b4 ∧ w0.heap.size ≤ b5 ∧ w0.heap.size ≤ b7 := by omega
 clear hX0 hb4 hb5 hb7 H46
 go_wp2_with fail
 go_loopw [10, 12, 13] (fun d u x wr => ∃ (c : Nat) (l : List (List Int)) (piv : List Int) (X : Nat → Prop) (z : Int), c ≤ cols ∧ x = .int .i64 (c : Int) ∧ d = .int .i64 z ∧ Hid (elimTo O rows c = (l, piv)) ∧ Hid (∀ b, b < w0.heap.size → X b) ∧ Hid (EM w0 wr (.slice (some ⟨g, 0, none⟩) n cc) u l piv X A b4 b5 b7)) (fun _ _ x _ => (cols - intOf x).toNat)
 case atStart => exact ⟨0, rows, [], X0, 1, Nat.zero_le _, rfl, rfl, rfl, HX0, HEM0⟩
 case round =>
   clear HEM0 HX0
   obtain ⟨c, l, piv, X, z, hc, rfl, rfl, HE, HXL, HEM⟩ := hrel
   have hok := elimTo_ok HLT.out HR.out c HE.out
   have HLN : Hid (l.length = n) := by rw [← HN.out]; exact hok.2.1
   have HLR := Lib.hid hok.1
   have han : piv.length ≤ n := by have := hok.2.2.1; rw [HN.out] at this; exact this
   clear hok
   obtain ⟨uA, uc, rfl⟩ := HEM.out.oi.form'
   generalize ha : piv.length = a at *
   have HA := Lib.hid ha; clear ha
   have c5 : wr.cell? ⟨b5, 0, none⟩ = some (.slice (some ⟨g, 0, none⟩) n cc) := HEM.out.k5.cell 0
   by_cases hcl : c < cols
   case neg =>
     obtain rfl : cols = c := by omega
     go_wp2_with fail
     go_ret2
     rw [HE.out]
     refine ⟨_, _, rfl, HEM.out.om.names (fun b _ hb => hb.elim (HXL.out b) (HEM.out.xu b)), ?_, HEM.out.bel⟩
     rw [← HA.out]; have := HEM.out.oi; rw [← HA.out] at this; exact this
   by_cases hal : a < n
   case neg =>
     have HDN : Hid (elimTo O rows cols = (l, piv)) := elimTo_done HE.out (by rw [HLN.out, HA.out]; exact hal) cols (by omega)
     have hna : n ≤ a := by omega
     go_wp2_with fail
     go_ret2
     rw [HDN.out]
     exact ⟨_, _, rfl, HEM.out.om.names (fun b _ hb => hb.elim (HXL.out b) (HEM.out.xu b)), HEM.out.oi, HEM.out.bel⟩
   have hcLL : c < L := by omega
   have hgg := HEM.out.om.lt (g := g) rfl
   go_wp2_with fail
   have HEM1 : Hid (EM w0 ((wr.alloc (.cells #[.int .i64 (a : Int)] 3)).alloc (.cells #[.int .i64 (a : Int)] 3)) (.slice (some ⟨g, 0, none⟩) n cc) (.slice uA a uc) l piv (fun b => (X b ∨ b = wr.heap.size) ∨ b = wr.heap.size + 1) A b4 b5 b7) := by
     have := (HEM.out.box (.cells #[.int .i64 (a : Int)] 3)).box (.cells #[.int .i64 (a : Int)] 3)
     rw [World.size_alloc] at this
     exact this
   have HKA : Hid (Blk ((wr.alloc (.cells #[.int .i64 (a : Int)] 3)).alloc (.cells #[.int .i64 (a : Int)] 3)) wr.heap.size 3 [.int .i64 (a : Int)]) := (Blk.new wr 3 [.int .i64 (a : Int)]).alloc _
   have HKK : Hid (Blk ((wr.alloc (.cells #[.int .i64 (a : Int)] 3)).alloc (.cells #[.int .i64 (a : Int)] 3)) (wr.heap.size + 1) 3 [.int .i64 (a : Int)]) := by
     have := Blk.new (wr.alloc (.cells #[.int .i64 (a : Int)] 3)) 3 [.int .i64 (a : Int)]
     rw [World.size_alloc] at this
     exact this
   have HUL : Hid (∀ b, (Value.slice uA a uc).ownBlock = some b → b < wr.heap.size) := hid' fun b hb => HEM.out.xb b (HEM.out.xu b hb)
   have HXB : Hid (∀ b, X b → b < wr.heap.size) := hid' HEM.out.xb
   have hl4 := HEM.out.k4.lt; have hl5 := HEM.out.k5.lt; have hl7 := HEM.out.k7.lt; have hlB := HEM.out.bel.size
   generalize (wr.alloc (.cells #[.int .i64 (a : Int)] 3)).alloc (.cells #[.int .i64 (a : Int)] 3) = w2 at *
   obtain ⟨ga, hga⟩ : ∃ ga, ga = wr.heap.size := ⟨_, rfl⟩
   obtain ⟨gk, hgk⟩ : ∃ gk, gk = wr.heap.size + 1 := ⟨_, rfl⟩
   rw [← hgk] at HEM1 HKK ⊢
   rw [← hga] at HEM1 HKA ⊢
   have hak : ga ≠ gk := by omega
   obtain ⟨X1, hX1⟩ : ∃ X1 : Nat → Prop, X1 = fun b => (X b ∨ b = ga) ∨ b = gk := ⟨_, rfl⟩
   rw [← hX1] at HEM1
   have HX1L : Hid (∀ b, b < w0.heap.size → X1 b) := hid' fun b hb => by rw [hX1]; exact .inl (.inl (HXL.out b hb))
   have HX1A : Hid (X1 ga) := by show X1 ga; rw [hX1]; exact .inl (.inr rfl)
   have HX1K : Hid (X1 gk) := by show X1 gk; rw [hX1]; exact .inr rfl
   have h0k : w0.heap.size ≤ gk := by omega
   have HUK : Hid (∀ b, (Value.slice uA a uc).ownBlock = some b → b ≠ gk) := hid' fun b hb => by have := HUL.out b hb; omega
   have h4k : b4 ≠ gk := by omega
   have h5k : b5 ≠ gk := by omega
   have h7k : b7 ≠ gk := by omega
   clear HEM HXL hX1 hga hgk HUL HXB hl4 hl5 hl7 hlB c5 hgg
   go_loopw [] (fun wr => ∃ k : Nat, a ≤ k ∧ k ≤ n ∧ Hid (findK l c n (n - a) a = findK l c n (n - k) k) ∧ Hid (EM w0 wr (.slice (some ⟨g, 0, none⟩) n cc) (.slice uA a uc) l piv X1 A b4 b5 b7) ∧ Hid (Blk wr ga 3 [.int .i64 (a : Int)]) ∧ Hid (Blk wr gk 3 [.int .i64 (k : Int)])) (fun wr => n - (intOf ((wr.cell? ⟨gk, 0, none⟩).getD (.int .i64 0))).toNat)
   case atStart => exact ⟨a, Nat.le_refl _, by omega, rfl, HEM1, HKA, HKK⟩
   case round =>
     clear HEM1 HKA HKK
     obtain ⟨k, hak2, hkn, HK, HEM, HKA, HKK⟩ := hrel
     have ck : wr.cell? ⟨gk, 0, none⟩ = some (.int .i64 (k : Int)) := HKK.out.cell 0
     have fk := HKK.out.frozen 0
     have c5 : wr.cell? ⟨b5, 0, none⟩ = some (.slice (some ⟨g, 0, none⟩) n cc) := HEM.out.k5.cell 0
     by_cases hkl : k < n
     · obtain ⟨uk, hu, hrow, _⟩ := HEM.out.om.row (k := k) (by rw [HLN.out]; exact hkl)
       have hlk := (HLR.out k (by rw [HLN.out]; exact hkl)).1
       obtain ⟨qk, qc, rfl, _, _⟩ := hrow.form (by rw [hlk]; omega)
       have hx := hrow.cell c (by rw [hlk]; omega)
       rw [hlk] at hu
       obtain ⟨x, hxx⟩ : ∃ x, x = (l.getD k []).getD c 0 := ⟨_, rfl⟩
       rw [← hxx] at hx
       have HX := Lib.hid hxx
       clear hxx hrow hlk
       by_cases hx0 : x = 0
       · subst hx0
         have HKN := Lib.hid (HKK.out.set_ 0 (.int .i64 ((k : Int) + 1)))
         have HEN := Lib.hid (HEM.out.set (i := 0) HX1K.out h0k HUK.out h4k h5k h7k (.int .i64 ((k : Int) + 1)))
         have HAN := Lib.hid (HKA.out.far (p := ⟨gk, 0, none⟩) hak (.int .i64 ((k : Int) + 1)))
         go_wp2_with fail
         refine ⟨⟨k + 1, by omega, by omega, ?_, HEN, HAN, by rw [show ((k + 1 : Nat) : Int) = (k : Int) + 1 by push_cast; rfl]; exact HKN⟩, ?_⟩
         · show _ = _
           rw [HK.out, show n - k = (n - (k + 1)) + 1 by omega, findK, if_pos HX.out.symm]
         · have e : (wr.setCell ⟨gk, 0, none⟩ (.int .i64 ((k : Int) + 1))).cell? ⟨gk, 0, none⟩ = some (.int .i64 ((k : Int) + 1)) := HKN.out.cell 0
           rw [ck, e]
           show n - ((k : Int) + 1).toNat < n - (k : Int).toNat
           omega
       · have hxb : (x == 0) = false := by rw [beq_eq_false_iff_ne]; exact hx0
         have HKE : Hid (findK l c l.length (l.length - piv.length) piv.length = k) := by
           show _ = _
           rw [HLN.out, HA.out, HK.out, show n - k = (n - (k + 1)) + 1 by omega, findK, if_neg (by rw [← HX.out]; exact hx0)]
         have hkb : (((k : Nat) : Int) == (n : Int)) = false := by rw [beq_eq_false_iff_ne]; omega
         have HNX : Hid (elimTo O rows (c + 1) = (stepL O c l a k, piv ++ [(c : Int)])) := by
           show _ = _
           rw [elimTo_next HE.out (by rw [HLN.out, HA.out]; exact hal) HKE.out, if_neg (by rw [HLN.out]; omega), HA.out]
         have HXQ : Hid (0 < x ∧ x < q) := by
           have h := (HLR.out k (by rw [HLN.out]; exact hkl)).2 c
           rw [← HX.out] at h
           exact ⟨by omega, h.2⟩
         have ca : wr.cell? ⟨ga, 0, none⟩ = some (.int .i64 (a : Int)) := HKA.out.cell 0
         have c7 : wr.cell? ⟨b7, 0, none⟩ = some (.slice none 0 0) := HEM.out.k7.cell 0
         have HC5 := Lib.hid c5; have HC7 := Lib.hid c7; have HCA := Lib.hid ca; have HCK := Lib.hid ck
         clear hx0 HKE
         go_upto_if 58 with (fail)
         go_cut [10] from 21 to 122 (fun d wc => ∃ z2, d = .int .i64 z2 ∧ Hid (EM w0 wc (.slice (some ⟨g, 0, none⟩) n cc) (.slice uA a uc) (swapL l a k) piv X1 A b4 b5 b7) ∧ Hid (Blk wc ga 3 [.int .i64 (a : Int)]))
         case first =>
           by_cases hka : k = a
           · subst hka
             have hnb : (((k : Nat) : Int) != (k : Int)) = false := by simp
             go_wp2_with fail
             go_meet
             case rel => exact ⟨z, rfl, by rw [swap_self]; exact HEM, HKA⟩
           · have hnb : (((k : Nat) : Int) != (a : Int)) = true := by rw [bne_iff_ne]; omega
             go_wp2_with fail
             refine (each2_any (X := X1) (B := w0.heap.size) HC5.out HC7.out HEM.out.x7 HEM.out.om HLN.out hal hkl (fun e => hka e.symm) HX1K.out HX1A.out HCK.out HCA.out HEM.out.bel.size).mono ?_
             rintro e w3 ⟨rfl, ho3, hk3⟩
             have HEM3 := Lib.hid (HEM.out.kx ho3 hk3)
             have HKA3 := Lib.hid (hk3.blk HKA.out HX1A.out)
             have c4 : w3.cell? ⟨b4, 0, none⟩ = some (.pointer (some ⟨A, 0, none⟩)) := HEM3.out.k4.cell 0
             clear ho3 hk3
             go_wp2_with fail
             refine (gneg_any _ A P M z Mod (HG.out.below HEM3.out.bel (Nat.le_refl _))).mono ?_
             rintro e w4 ⟨rfl, hb4⟩
             have HEM4 := Lib.hid (HEM3.out.on hb4)
             have HKA4 := Lib.hid (HKA3.out.belowS hb4)
             clear hb4 c4
             go_wp2_with fail
             go_meet
             case rel => exact ⟨_, rfl, HEM4, HKA4⟩
         case rest =>
           clear HEM HKA HKK ck fk c5 hu hx hxb hkb ca c7 HC5 HC7 HCA HCK
           obtain ⟨z2, rfl, HEM, HKA⟩ := hcut
           have HSL : Hid ((swapL l a k).length = n) := by show _ = _; rw [swapL_len, HLN.out]
           have HSR := Lib.hid (HLR.out.swap (a := a) (b := k) (by rw [HLN.out]; exact hal) (by rw [HLN.out]; exact hkl))
           have HSX : Hid (((swapL l a k).getD a []).getD c 0 = x) := by
             show _ = _
             rw [HX.out]
             unfold swapL
             by_cases e : a = k
             · subst e; rw [getD_setL, List.length_set, if_pos ⟨rfl, by rw [HLN.out]; exact hal⟩]
             · rw [getD_setL, List.length_set, if_neg (fun h => e h.1.symm), getD_setL, if_pos ⟨rfl, by rw [HLN.out]; exact hal⟩]
           have HST : Hid (stepL O c l a k = clearTo O c a (monicL O c a (swapL l a k)) n) := by show _ = _; unfold stepL; rw [HLN.out]
           obtain ⟨ls, hls⟩ : ∃ ls, ls = swapL l a k := ⟨_, rfl⟩
           rw [← hls] at HEM HSL HSR HSX HST
           clear hls HX
           obtain ⟨ua, hu, hrow, _⟩ := HEM.out.om.row (k := a) (by rw [HSL.out]; exact hal)
           have hlk := (HSR.out a (by rw [HSL.out]; exact hal)).1
           obtain ⟨qa, qc, rfl, _, _⟩ := hrow.form (by rw [hlk]; omega)
           have hx := hrow.cell c (by rw [hlk]; omega)
           rw [HSX.out] at hx
           rw [hlk] at hu
           have c4 : wc.cell? ⟨b4, 0, none⟩ = some (.pointer (some ⟨A, 0, none⟩)) := HEM.out.k4.cell 0
           have c5 : wc.cell? ⟨b5, 0, none⟩ = some (.slice (some ⟨g, 0, none⟩) n cc) := HEM.out.k5.cell 0
           have ca : wc.cell? ⟨ga, 0, none⟩ = some (.int .i64 (a : Int)) := HKA.out.cell 0
           clear hrow hlk
           go_wp2_with fail
           refine Kept.start (S := fun w' => w'.cell? ⟨b4, 0, none⟩ = some (.pointer (some ⟨A, 0, none⟩)) ∧ w'.cell? ⟨b5, 0, none⟩ = some (.slice (some ⟨g, 0, none⟩) n cc) ∧ w'.cell? ⟨ga, 0, none⟩ = some (.int .i64 (a : Int)) ∧ w'.cell? ⟨g, a, none⟩ = some (.slice (some ⟨qa, 0, none⟩) L qc) ∧ w'.cell? ⟨qa, c, none⟩ = some (.int .i64 x)) (by kernel_rfl) (⟨c4, c5, ca, hu, hx⟩) (fun hHeld => ?_)
           change Kept _ _ _ _ 11 _ _ _
           refine Kept.tk 0 (v := ?_) rfl ?_ hHeld ?_
           rotate_left
           · intro w' h; (try dsimp only at h); go_simp <;> with_reducible rfl
           try simp only [tda, tdb, tdc, Act.put, tdd, tde, tdf]
           refine Kept.tk 1 (v := ?_) rfl ?_ hHeld ?_
           rotate_left
           · intro w' h; (try dsimp only at h); go_simp <;> with_reducible rfl
           try simp only [tda, tdb, tdc, Act.put, tdd, tde, tdf]
           refine Kept.tk 2 (v := ?_) rfl ?_ hHeld ?_
           rotate_left
           · intro w' h; (try dsimp only at h); go_simp <;> with_reducible rfl
           try simp only [tda, tdb, tdc, Act.put, tdd, tde, tdf]
           refine Kept.tk 3 (v := ?_) rfl ?_ hHeld ?_
           rotate_left
           · intro w' h; (try dsimp only at h); go_simp <;> with_reducible rfl
           try simp only [tda, tdb, tdc, Act.put, tdd, tde, tdf]
           refine Kept.tk 4 (v := ?_) rfl ?_ hHeld ?_
           rotate_left
           · intro w' h; (try dsimp only at h); go_simp <;> with_reducible rfl
           try simp only [tda, tdb, tdc, Act.put, tdd, tde, tdf]
           refine Kept.tk 5 (v := ?_) rfl ?_ hHeld ?_
           rotate_left
           · intro w' h; (try dsimp only at h); go_simp <;> with_reducible rfl
           try simp only [tda, tdb, tdc, Act.put, tdd, tde, tdf]
           refine Kept.tk 6 (v := ?_) rfl ?_ hHeld ?_
           rotate_left
           · intro w' h; (try dsimp only at h); go_simp <;> with_reducible rfl
           try simp only [tda, tdb, tdc, Act.put, tdd, tde, tdf]
           refine Kept.tk 7 (v := ?_) rfl ?_ hHeld ?_
           rotate_left
           · intro w' h; (try dsimp only at h); go_simp <;> with_reducible rfl
           try simp only [tda, tdb, tdc, Act.put, tdd, tde, tdf]
           refine Kept.tk 8 (v := ?_) rfl ?_ hHeld ?_
           rotate_left
           · intro w' h; (try dsimp only at h); go_simp <;> with_reducible rfl
           try simp only [tda, tdb, tdc, Act.put, tdd, tde, tdf]
           refine Kept.only (i := 9) (by kernel_rfl) rfl (fun K hK => ?_)
           go_simp
           refine (gmul_any _ A P M z2 x Mod (HG.out.below (HEM.out.bel.trans ((bl_drew wc).mono HEM.out.bel.size)) (Nat.le_refl _))).mono ?_; rintro e w3 ⟨rfl, hb3⟩; have HB3 := Lib.hid (bl_trans (bl_drew wc) hb3); have HEM3 := Lib.hid (HEM.out.on HB3.out); have HKA3 := Lib.hid (HKA.out.belowS HB3.out); have d4 := cell_below HB3.out c4; have d5 := cell_below HB3.out c5; have da := cell_below HB3.out ca; have du := cell_below HB3.out hu; have dx := cell_below HB3.out hx; clear hb3
           refine hK.out _ _ (⟨d4, d5, da, du, dx⟩) (fun hHeld2 => ?_)
           clear hK K
           replace hHeld := hHeld2
           clear hHeld2
           try simp only [tda, tdb, tdc, Act.put, tdd, tde, tdf]
           refine Kept.only (i := 10) (by kernel_rfl) rfl (fun K hK => ?_)
           go_simp
           refine hK.out _ _ hHeld (fun hHeld2 => ?_)
           clear hK K
           clear hHeld2
           refine Kept.done (by kernel_rfl) ?_
           try simp only [tda, tdb, tdc, Act.put, tdd, tde, tdf]
           clear hHeld
           generalize mulR P M Mod z2 x = z3
           clear HEM HKA c4 c5 ca hu hx HB3
           go_upto_region 16 with fail
           have D4 := Lib.hid d4; have D5 := Lib.hid d5; have DA := Lib.hid da; have DU := Lib.hid du; have DX := Lib.hid dx
           have HIQ : Hid (inQ (orderF P M) x ≠ 0) := by
             show _ ≠ _
             unfold inQ
             rw [← HQE.out, if_pos ⟨by have := HXQ.out.1; omega, HXQ.out.2⟩]
             have := HXQ.out.1
             omega
           go_cut [16, 17] from 21 to 122 (fun t6 t7 wd => ∃ gi, t6 = .pointer (some ⟨gi, 0, none⟩) ∧ t7 = .int .i64 0 ∧ w3.heap.size ≤ gi ∧ Hid (Blk wd gi 3 [.int .i64 (invF P M Mod x)]) ∧ Hid (Below w3.heap.size w3 wd))
           case first =>
             refine Kept.start (S := fun w' => w'.cell? ⟨b4, 0, none⟩ = some (.pointer (some ⟨A, 0, none⟩)) ∧ w'.cell? ⟨b5, 0, none⟩ = some (.slice (some ⟨g, 0, none⟩) n cc) ∧ w'.cell? ⟨ga, 0, none⟩ = some (.int .i64 (a : Int)) ∧ w'.cell? ⟨g, a, none⟩ = some (.slice (some ⟨qa, 0, none⟩) L qc) ∧ w'.cell? ⟨qa, c, none⟩ = some (.int .i64 x)) (by kernel_rfl) (⟨d4, d5, da, du, dx⟩) (fun hHeld => ?_)
             change Kept _ _ _ _ 15 _ _ _
             have hdrew := bl_drew w3
             generalize w3.drew = wq1 at hdrew hHeld ⊢
             have HBB := Lib.hid hdrew
             clear d4 d5 da du dx
             clear hdrew
             refine Kept.tk 0 (v := ?_) rfl ?_ hHeld ?_
             rotate_left
             · intro w' h; (try dsimp only at h); go_simp <;> with_reducible rfl
             try simp only [tda, tdb, tdc, Act.put, tdd, tde, tdf]
             refine Kept.tk 1 (v := ?_) rfl ?_ hHeld ?_
             rotate_left
             · intro w' h; (try dsimp only at h); go_simp <;> with_reducible rfl
             try simp only [tda, tdb, tdc, Act.put, tdd, tde, tdf]
             refine Kept.tk 2 (v := ?_) rfl ?_ hHeld ?_
             rotate_left
             · intro w' h; (try dsimp only at h); go_simp <;> with_reducible rfl
             try simp only [tda, tdb, tdc, Act.put, tdd, tde, tdf]
             refine Kept.tk 3 (v := ?_) rfl ?_ hHeld ?_
             rotate_left
             · intro w' h; (try dsimp only at h); go_simp <;> with_reducible rfl
             try simp only [tda, tdb, tdc, Act.put, tdd, tde, tdf]
             refine Kept.tk 4 (v := ?_) rfl ?_ hHeld ?_
             rotate_left
             · intro w' h; (try dsimp only at h); go_simp <;> with_reducible rfl
             try simp only [tda, tdb, tdc, Act.put, tdd, tde, tdf]
             refine Kept.tk 5 (v := ?_) rfl ?_ hHeld ?_
             rotate_left
             · intro w' h; (try dsimp only at h); go_simp <;> with_reducible rfl
             try simp only [tda, tdb, tdc, Act.put, tdd, tde, tdf]
             refine Kept.tk 6 (v := ?_) rfl ?_ hHeld ?_
             rotate_left
             · intro w' h; (try dsimp only at h); go_simp <;> with_reducible rfl
             try simp only [tda, tdb, tdc, Act.put, tdd, tde, tdf]
             refine Kept.tk 7 (v := ?_) rfl ?_ hHeld ?_
             rotate_left
             · intro w' h; (try dsimp only at h); go_simp <;> with_reducible rfl
             try simp only [tda, tdb, tdc, Act.put, tdd, tde, tdf]
             refine Kept.two (i := 8) (j := 12) (oi := ?opa2) (oj := ?opb2) (by kernel_rfl) ?hoa2 ?hob2 (fun K hK => ?way12) (fun K hK => ?way22)
             case hoa2 => (conv => lhs; simp only [tdg, tdh, tdi])
             case hob2 => (conv => lhs; simp only [tdg, tdh, tdi])
             case way12 =>
               go_simp
               refine (ginv_any _ A P M x Mod (HG.out.below (HEM3.out.bel.trans (HBB.out.mono HEM3.out.bel.size)) (Nat.le_refl _)) HIQ.out).mono ?_
               rintro e wq3 ⟨rfl, hb⟩
               replace HBB := Lib.hid (bl_trans HBB.out hb)
               clear hb
               refine hK.out _ _ (⟨cb HBB D4, cb HBB D5, cb HBB DA, cb HBB DU, cb HBB DX⟩) (fun hHeld2 => ?_)
               clear hK K
               replace hHeld := hHeld2
               clear hHeld2
               try simp only [tda, tdb, tdc, Act.put, tdd, tde, tdf]
               refine Kept.tk 9 (v := ?_) rfl ?_ hHeld ?_
               rotate_left
               · intro w' h; (try dsimp only at h); go_simp <;> with_reducible rfl
               try simp only [tda, tdb, tdc, Act.put, tdd, tde, tdf]
               refine Kept.tk 10 (v := ?_) rfl ?_ hHeld ?_
               rotate_left
               · intro w' h; (try dsimp only at h); go_simp <;> with_reducible rfl
               try simp only [tda, tdb, tdc, Act.put, tdd, tde, tdf]
               refine Kept.tk 11 (v := ?_) rfl ?_ hHeld ?_
               rotate_left
               · intro w' h; (try dsimp only at h); go_simp <;> with_reducible rfl
               try simp only [tda, tdb, tdc, Act.put, tdd, tde, tdf]
               refine Kept.only (i := 12) (o := ?op4) (by kernel_rfl) ?ho4 (fun K hK => ?_)
               case ho4 => (conv => lhs; simp only [tdg, tdh, tdi])
               go_simp
               obtain ⟨wq5, gi, e1, e2, hX, hb⟩ := mk_box wq3 3 [.int .i64 0]
               rw [e1, e2]
               have HBX := Lib.hid hX
               have hgi : w3.heap.size ≤ gi := (by have := HBB.out.size; omega)
               replace HBB := Lib.hid (bl_trans HBB.out hb)
               clear e1 e2 hX hb
               refine hK.out _ _ (⟨cb HBB D4, cb HBB D5, cb HBB DA, cb HBB DU, cb HBB DX⟩) (fun hHeld2 => ?_)
               clear hK K
               replace hHeld := hHeld2
               clear hHeld2
               try simp only [tda, tdb, tdc, Act.put, tdd, tde, tdf]
               refine Kept.only (i := 13) (o := ?op6) (by kernel_rfl) ?ho6 (fun K hK => ?_)
               case ho6 => (conv => lhs; simp only [tdg, tdh, tdi])
               have bc := HBX.out.cell 0
               have bf := HBX.out.frozen 0
               go_simp
               have HBY := Lib.hid (HBX.out.set_ 0 (.int .i64 (invF P M Mod x)))
               replace HBB := Lib.hid (HBB.out.setCell (p := ⟨gi, 0, none⟩) hgi (.int .i64 (invF P M Mod x)))
               generalize wq5.setCell ⟨gi, 0, none⟩ (.int .i64 (invF P M Mod x)) = wq7 at *
               clear bc bf HBX
               refine hK.out _ _ (⟨cb HBB D4, cb HBB D5, cb HBB DA, cb HBB DU, cb HBB DX⟩) (fun hHeld2 => ?_)
               clear hK K
               replace hHeld := hHeld2
               clear hHeld2
               try simp only [tda, tdb, tdc, Act.put, tdd, tde, tdf]
               refine Kept.only (i := 14) (by kernel_rfl) rfl (fun K hK => ?_)
               go_simp
               refine hK.out _ _ hHeld (fun hHeld2 => ?_)
               clear hK K
               clear hHeld2
               refine Kept.done (by kernel_rfl) ?_
               try simp only [tda, tdb, tdc, Act.put, tdd, tde, tdf]
               clear hHeld
               go_wp2_with fail
               go_meet
               exact ⟨gi, rfl, rfl, hgi, HBY, HBB⟩
             case way22 =>
               go_simp
               obtain ⟨wq8, gi, e1, e2, hX, hb⟩ := mk_box wq1 3 [.int .i64 0]
               rw [e1, e2]
               have HBX := Lib.hid hX
               have hgi : w3.heap.size ≤ gi := (by have := HBB.out.size; omega)
               replace HBB := Lib.hid (bl_trans HBB.out hb)
               clear e1 e2 hX hb
               refine hK.out _ _ (⟨cb HBB D4, cb HBB D5, cb HBB DA, cb HBB DU, cb HBB DX⟩) (fun hHeld2 => ?_)
               clear hK K
               replace hHeld := hHeld2
               clear hHeld2
               try simp only [tda, tdb, tdc, Act.put, tdd, tde, tdf]
               refine Kept.only (i := 8) (o := ?op9) (by kernel_rfl) ?ho9 (fun K hK => ?_)
               case ho9 => (conv => lhs; simp only [tdg, tdh, tdi])
               go_simp
               refine (ginv_any _ A P M x Mod (HG.out.below (HEM3.out.bel.trans (HBB.out.mono HEM3.out.bel.size)) (Nat.le_refl _)) HIQ.out).mono ?_
               rintro e wq10 ⟨rfl, hb⟩
               replace HBX := Lib.hid (HBX.out.belowS hb) 
               replace HBB := Lib.hid (bl_trans HBB.out hb)
               clear hb
               refine hK.out _ _ (⟨cb HBB D4, cb HBB D5, cb HBB DA, cb HBB DU, cb HBB DX⟩) (fun hHeld2 => ?_)
               clear hK K
               replace hHeld := hHeld2
               clear hHeld2
               try simp only [tda, tdb, tdc, Act.put, tdd, tde, tdf]
               refine Kept.tk 9 (v := ?_) rfl ?_ hHeld ?_
               rotate_left
               · intro w' h; (try dsimp only at h); go_simp <;> with_reducible rfl
               try simp only [tda, tdb, tdc, Act.put, tdd, tde, tdf]
               refine Kept.tk 10 (v := ?_) rfl ?_ hHeld ?_
               rotate_left
               · intro w' h; (try dsimp only at h); go_simp <;> with_reducible rfl
               try simp only [tda, tdb, tdc, Act.put, tdd, tde, tdf]
               refine Kept.tk 11 (v := ?_) rfl ?_ hHeld ?_
               rotate_left
               · intro w' h; (try dsimp only at h); go_simp <;> with_reducible rfl
               try simp only [tda, tdb, tdc, Act.put, tdd, tde, tdf]
               refine Kept.only (i := 13) (o := ?op11) (by kernel_rfl) ?ho11 (fun K hK => ?_)
               case ho11 => (conv => lhs; simp only [tdg, tdh, tdi])
               have bc := HBX.out.cell 0
               have bf := HBX.out.frozen 0
               go_simp
               have HBY := Lib.hid (HBX.out.set_ 0 (.int .i64 (invF P M Mod x)))
               replace HBB := Lib.hid (HBB.out.setCell (p := ⟨gi, 0, none⟩) hgi (.int .i64 (invF P M Mod x)))
               generalize wq10.setCell ⟨gi, 0, none⟩ (.int .i64 (invF P M Mod x)) = wq12 at *
               clear bc bf HBX
               refine hK.out _ _ (⟨cb HBB D4, cb HBB D5, cb HBB DA, cb HBB DU, cb HBB DX⟩) (fun hHeld2 => ?_)
               clear hK K
               replace hHeld := hHeld2
               clear hHeld2
               try simp only [tda, tdb, tdc, Act.put, tdd, tde, tdf]
               refine Kept.only (i := 14) (by kernel_rfl) rfl (fun K hK => ?_)
               go_simp
               refine hK.out _ _ hHeld (fun hHeld2 => ?_)
               clear hK K
               clear hHeld2
               refine Kept.done (by kernel_rfl) ?_
               try simp only [tda, tdb, tdc, Act.put, tdd, tde, tdf]
               clear hHeld
               go_wp2_with fail
               go_meet
               exact ⟨gi, rfl, rfl, hgi, HBY, HBB⟩
           case rest =>
             clear d4 d5 da du dx
             obtain ⟨gi, rfl, rfl, hgi, HBY, HBB⟩ := hcut
             have HEM4 := Lib.hid (HEM3.out.name HBB.out hgi HBY.out.lt)
             have HKA4 := Lib.hid (HKA3.out.belowS HBB.out)
             obtain ⟨X2, hX2⟩ : ∃ X2 : Nat → Prop, X2 = fun b => X1 b ∨ b = gi := ⟨_, rfl⟩
             rw [← hX2] at HEM4
             have HX2L : Hid (∀ b, b < w0.heap.size → X2 b) := hid' fun b hb => by rw [hX2]; exact .inl (HX1L.out b hb)
             have HX2A : Hid (X2 ga) := by show X2 ga; rw [hX2]; exact .inl HX1A.out
             clear hX2 hgi HEM3 HKA3 D4 D5 DA DU DX HBB HX1L HX1A HX1K
             have hIe : invF P M Mod x = O.inv x := by rw [HOE.out]; rfl
             have HIE := Lib.hid hIe; clear hIe
             have HIO : Hid (O.inv x = 1 ↔ x = 1) := inv_one HFLD.out HXQ.out.1 HXQ.out.2
             obtain ⟨lm, hlm⟩ : ∃ lm, lm = monicL O c a ls := ⟨_, rfl⟩
             have HLM := Lib.hid hlm
             have HML : Hid (lm.length = n) := by show _ = _; rw [hlm, monicL_len, HSL.out]
             have HMR : Hid (Rows q L lm) := by rw [hlm]; exact Rows.monic HLT.out HSR.out c (by rw [HSL.out]; exact hal)
             rw [← hlm] at HST
             clear hlm
             have ci : wc.cell? ⟨gi, 0, none⟩ = some (.int .i64 (invF P M Mod x)) := HBY.out.cell 0
             have HCI := Lib.hid ci
             have c5 : wc.cell? ⟨b5, 0, none⟩ = some (.slice (some ⟨g, 0, none⟩) n cc) := HEM4.out.k5.cell 0
             have HC5 := Lib.hid c5
             have HC7 : Hid (wc.cell? ⟨b7, 0, none⟩ = some (.slice none 0 0)) := HEM4.out.k7.cell 0
             have HC4 : Hid (wc.cell? ⟨b4, 0, none⟩ = some (.pointer (some ⟨A, 0, none⟩))) := HEM4.out.k4.cell 0
             have HCA : Hid (wc.cell? ⟨ga, 0, none⟩ = some (.int .i64 (a : Int))) := HKA4.out.cell 0
             go_upto_if 92 with (fail)
             go_cut [] from 21 to 122 (fun wc => Hid (EM w0 wc (.slice (some ⟨g, 0, none⟩) n cc) (.slice uA a uc) lm piv X2 A b4 b5 b7) ∧ Hid (Blk wc ga 3 [.int .i64 (a : Int)]))
             case first =>
               by_cases hx1 : x = 1
               · have hnb : (invF P M Mod x != 1) = false := by rw [HIE.out, bne_eq_false_iff_eq]; exact HIO.out.2 hx1
                 have HME : Hid (lm = ls) := by show _ = _; rw [HLM.out]; unfold monicL; rw [if_neg (by rw [HSX.out]; simpa using hx1)]
                 clear hx1
                 go_wp2_with fail
                 go_meet
                 case rel => exact ⟨by rw [HME.out]; exact HEM4, HKA4⟩
               · have hnb : (invF P M Mod x != 1) = true := by rw [HIE.out, bne_iff_ne]; exact fun e => hx1 (HIO.out.1 e)
                 have HME : Hid (lm = ls.set a (scaleL (refOps P M Mod) (invF P M Mod x) (ls.getD a []))) := by show _ = _; rw [HLM.out]; unfold monicL; rw [if_pos (by rw [HSX.out]; exact hx1), HSX.out, HIE.out, HOE.out]
                 have HLI : Hid ((ls.getD a []).length ≤ 100000 ∧ ∀ k, I64 ((ls.getD a []).getD k 0)) := by
                   have h := HSR.out a (by rw [HSL.out]; exact hal)
                   exact ⟨by rw [h.1]; exact hL, fun j => by have := h.2 j; exact I64.of_small (by omega) (by omega)⟩
                 clear hx1
                 go_wp2_with fail
                 refine (each3_any (X := X2) (B := w0.heap.size) HC5.out HC7.out HEM4.out.x7 HG.out HEM4.out.bel (Nat.le_refl _) HEM4.out.om HSL.out hal HEM4.out.xb HLI.out.1 HLI.out.2 HC4.out HCI.out HCA.out HEM4.out.bel.size).mono ?_
                 rintro e w5 ⟨rfl, ho5, hk5⟩
                 have HEM5 := Lib.hid (HEM4.out.kx ho5 hk5)
                 have HKA5 := Lib.hid (hk5.blk HKA4.out HX2A.out)
                 rw [← HME.out] at HEM5
                 clear ho5 hk5
                 go_wp2_with fail
                 go_meet
                 case rel => exact ⟨HEM5, HKA5⟩
             case rest =>
               clear HEM4 HKA4 HBY ci c5 HC5 HC7 HC4 HCA HCI HSX HSR HSL HLM HIO HIE
               obtain ⟨HEM, HKA⟩ := hcut
               have c5 : wc.cell? ⟨b5, 0, none⟩ = some (.slice (some ⟨g, 0, none⟩) n cc) := HEM.out.k5.cell 0
               go_wp2_with fail
               clear c5
               go_loopw [98] (fun x wr => ∃ (i : Nat) (X : Nat → Prop), i ≤ n ∧ x = .int .i64 (i : Int) ∧ Hid (∀ b, b < w0.heap.size → X b) ∧ Hid (X ga) ∧ Hid (EM w0 wr (.slice (some ⟨g, 0, none⟩) n cc) (.slice uA a uc) (clearTo O c a lm i) piv X A b4 b5 b7) ∧ Hid (Blk wr ga 3 [.int .i64 (a : Int)])) (fun x _ => (n - intOf x).toNat)
               case atStart => exact ⟨0, X2, Nat.zero_le _, rfl, HX2L, HX2A, HEM, HKA⟩
               case round =>
                 clear HEM HKA HX2L HX2A
                 obtain ⟨i, X, hi, rfl, HXL, HXA, HEM, HKA⟩ := hrel
                 by_cases hin : i < n
                 · have HCL : Hid ((clearTo O c a lm i).length = n) := by show _ = _; rw [clearTo_len, HML.out]
                   have HCR := Lib.hid (Rows.clear HLT.out HMR.out c a i (by rw [HML.out]; exact hi))
                   have HCN : Hid (clearTo O c a lm (i + 1) = if i ≠ a ∧ ((clearTo O c a lm i).getD i []).getD c 0 ≠ 0 then (clearTo O c a lm i).set i (addToL O ((clearTo O c a lm i).getD i []) (O.neg (((clearTo O c a lm i).getD i []).getD c 0)) ((clearTo O c a lm i).getD a [])) else clearTo O c a lm i) := rfl
                   generalize clearTo O c a lm i = li at HEM HCL HCR HCN
                   obtain ⟨ui, hu, hrow, _⟩ := HEM.out.om.row (k := i) (by rw [HCL.out]; exact hin)
                   have hlk := (HCR.out i (by rw [HCL.out]; exact hin)).1
                   obtain ⟨qi, qc, rfl, _, _⟩ := hrow.form (by rw [hlk]; omega)
                   have hx := hrow.cell c (by rw [hlk]; omega)
                   rw [hlk] at hu
                   obtain ⟨y, hy⟩ : ∃ y, y = (li.getD i []).getD c 0 := ⟨_, rfl⟩
                   rw [← hy] at hx HCN
                   clear hrow hlk hy
                   have c5 : wr.cell? ⟨b5, 0, none⟩ = some (.slice (some ⟨g, 0, none⟩) n cc) := HEM.out.k5.cell 0
                   have ca : wr.cell? ⟨ga, 0, none⟩ = some (.int .i64 (a : Int)) := HKA.out.cell 0
                   go_upto_region 22 with fail
                   obtain ⟨w2, gb, e1, e2, hX, hb⟩ := mk_box wr 3 [.int .i64 (i : Int)]
                   rw [e1, e2]
                   have HBI := Lib.hid hX
                   have HEM2 := Lib.hid (HEM.out.name hb (gi := gb) (by omega) hX.lt)
                   have HKA2 := Lib.hid (HKA.out.belowS hb)
                   have d5 := cell_below hb c5; have du := cell_below hb hu; have dx := cell_below hb hx
                   have hgb : w0.heap.size ≤ gb := by have := HEM.out.bel.size; omega
                   have bi : w2.cell? ⟨gb, 0, none⟩ = some (.int .i64 (i : Int)) := hX.cell 0
                   clear HEM HKA c5 ca hu hx e1 e2 hX hb
                   go_upto_region 23 with fail
                   obtain ⟨w3, gx, e1, e2, hX, hb⟩ := mk_box w2 3 [.int .i64 y]
                   rw [e1, e2]
                   have HBX := Lib.hid hX
                   have HEM3 := Lib.hid (HEM2.out.name hb (gi := gx) (by omega) hX.lt)
                   have HKA3 := Lib.hid (HKA2.out.belowS hb)
                   have HBI3 := Lib.hid (HBI.out.belowS hb)
                   clear HEM2 HKA2 HBI d5 du dx bi e1 e2 hX hb
                   obtain ⟨X3, hX3⟩ : ∃ X3 : Nat → Prop, X3 = fun b => (X b ∨ b = gb) ∨ b = gx := ⟨_, rfl⟩
                   rw [← hX3] at HEM3
                   have HX3L : Hid (∀ b, b < w0.heap.size → X3 b) := hid' fun b hb => by rw [hX3]; exact .inl (.inl (HXL.out b hb))
                   have HX3A : Hid (X3 ga) := by show X3 ga; rw [hX3]; exact .inl (.inl HXA.out)
                   have HX3I : Hid (X3 gb) := by show X3 gb; rw [hX3]; exact .inl (.inr rfl)
                   have HX3X : Hid (X3 gx) := by show X3 gx; rw [hX3]; exact .inr rfl
                   clear hX3 HXL HXA
                   have bi : w3.cell? ⟨gb, 0, none⟩ = some (.int .i64 (i : Int)) := HBI3.out.cell 0
                   have bx : w3.cell? ⟨gx, 0, none⟩ = some (.int .i64 y) := HBX.out.cell 0
                   have ba : w3.cell? ⟨ga, 0, none⟩ = some (.int .i64 (a : Int)) := HKA3.out.cell 0
                   have HC5 : Hid (w3.cell? ⟨b5, 0, none⟩ = some (.slice (some ⟨g, 0, none⟩) n cc)) := HEM3.out.k5.cell 0
                   have HC7 : Hid (w3.cell? ⟨b7, 0, none⟩ = some (.slice none 0 0)) := HEM3.out.k7.cell 0
                   have HC4 : Hid (w3.cell? ⟨b4, 0, none⟩ = some (.pointer (some ⟨A, 0, none⟩))) := HEM3.out.k4.cell 0
                   have HI := Lib.hid bi; have HXC := Lib.hid bx; have HAC := Lib.hid ba
                   by_cases hia : i = a
                   · subst hia
                     have hnb : (((i : Nat) : Int) != (i : Int)) = false := by simp
                     rw [if_neg (fun h => h.1 rfl)] at HCN
                     go_wp2_with fail
                     exact ⟨⟨i + 1, X3, by omega, by push_cast; rfl, HX3L, HX3A, by rw [HCN.out]; exact HEM3, HKA3⟩, by simp only [intOf]; omega⟩
                   · have hnb : (((i : Nat) : Int) != (a : Int)) = true := by rw [bne_iff_ne]; omega
                     by_cases hy0 : y = 0
                     · subst hy0
                       rw [if_neg (fun h => h.2 rfl)] at HCN
                       clear hia
                       go_wp2_with fail
                       exact ⟨⟨i + 1, X3, by omega, by push_cast; rfl, HX3L, HX3A, by rw [HCN.out]; exact HEM3, HKA3⟩, by simp only [intOf]; omega⟩
                     · have hyb : (y != 0) = true := by simpa using hy0
                       rw [if_pos ⟨hia, hy0⟩] at HCN
                       have HIA := Lib.hid hia
                       have HLL : Hid (∀ j, j < n → (li.getD j []).length = L ∧ ∀ k, I64 ((li.getD j []).getD k 0)) := hid' fun j hj => by
                         have h := HCR.out j (by rw [HCL.out]; exact hj)
                         exact ⟨h.1, fun k => by have := h.2 k; exact I64.of_small (by omega) (by omega)⟩
                       clear hia hy0
                       go_wp2_with fail
                       refine (each4_any (X := X3) (B := w0.heap.size) (L := L) (P := P) (M := M) (Mod := Mod) HC5.out HC7.out HEM3.out.x7 HG.out HEM3.out.bel (Nat.le_refl _) HEM3.out.om HCL.out hin hal HIA.out HLL.out (by omega) hL HEM3.out.x4 HX3I.out HX3X.out HX3A.out HC4.out HI.out HXC.out HAC.out HEM3.out.bel.size).mono ?_
                       rintro e w5 ⟨rfl, ho5, hk5⟩
                       have HEM5 := Lib.hid (HEM3.out.kx ho5 hk5)
                       have HKA5 := Lib.hid (hk5.blk HKA3.out HX3A.out)
                       have HNE : Hid (clearTo O c a lm (i + 1) = li.set i (addToL (refOps P M Mod) (li.getD i []) (negF P M y) (li.getD a []))) := by show _ = _; rw [HCN.out, HOE.out]; rfl
                       clear ho5 hk5
                       go_wp2_with fail
                       exact ⟨⟨i + 1, X3, by omega, by push_cast; rfl, HX3L, HX3A, by rw [HNE.out]; exact HEM5, HKA5⟩, by simp only [intOf]; omega⟩
                 · obtain rfl : n = i := by omega
                   rw [← HST.out] at HEM
                   have HPL : Hid (piv.length + [(c : Int)].length ≤ 17592186044416) := by show _ ≤ _; rw [HA.out, List.length_singleton]; omega
                   have HOI1 := Lib.hid (HEM.out.oi.alloc (.cells #[.int .i64 (c : Int)] 3))
                   have HSC : Hid (SI (wr.alloc (.cells #[.int .i64 (c : Int)] 3)) (.slice (some ⟨wr.heap.size, 0, none⟩) 1 1) [(c : Int)]) := SI.lit wr [(c : Int)] (by simp) (fun j => by
                     rcases j with _ | j
                     · exact I64.of_small (by show _ ≤ (c : Int); omega) (by show (c : Int) ≤ _; omega)
                     · exact I64.zero)
                   have HUP : Hid (w0.heap.size ≤ (wr.alloc (.cells #[.int .i64 (c : Int)] 3)).heap.size) := up_alloc HEM.out.bel.size _
                   go_wp2_with (at_builtin; go_must (refine wpList_catI rfl _ _ rfl w0.heap.size _ piv rfl HOI1.out _ [(c : Int)] rfl HSC.out HPL.out HUP.out ?_); (intro v5 w5 ho hg hv); have HE6 := Lib.hid (HEM.out.push ho hg hv); clear ho hg hv)
                   exact ⟨⟨c + 1, _, _, _, z3, by omega, by push_cast; rfl, rfl, HNX.out, hid' (fun b hb => .inl (HXL.out b hb)), HE6⟩, by simp only [intOf]; omega⟩
     · obtain rfl : n = k := by omega
       have HKE : Hid (findK l c l.length (l.length - piv.length) piv.length = n) := by
         show _ = _
         rw [HLN.out, HA.out, HK.out, Nat.sub_self, findK]
       have hkb : (((n : Nat) : Int) == (n : Int)) = true := by simp
       have HNX : Hid (elimTo O rows (c + 1) = (l, piv)) := by
         show _ = _
         rw [elimTo_next HE.out (by rw [HLN.out, HA.out]; exact hal) HKE.out, if_pos HLN.out.symm]
       go_wp2_with fail
       exact ⟨⟨c + 1, l, piv, X1, z, by omega, by push_cast; rfl, rfl, HNX, HX1L, HEM⟩, by simp only [intOf]; omega⟩
end Go.Proofs.YtlofhnmpbpjigaaGreat
