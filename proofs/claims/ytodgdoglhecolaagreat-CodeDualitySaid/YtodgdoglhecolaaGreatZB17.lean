/- Texts of a claim, merged: words, plain facts and walks that the last of its texts uses. -/
import Derived.Test.YtodgdoglhecolaaGreatZB1
import Derived.Test.YtodgdoglhecolaaGreatZB2
import Derived.Test.YtodgdoglhecolaaGreatZB4
import Derived.Test.YtodgdoglhecolaaGreatZB5
import Derived.Test.YtodgdoglhecolaaGreatZB6
import Derived.Test.YtodgdoglhecolaaGreatZB8
import Derived.Test.YtodgdoglhecolaaGreatZB9
import Derived.Test.YtodgdoglhecolaaGreatZB10
import Derived.Test.YtodgdoglhecolaaGreatZB15
import Derived.Test.YtodgdoglhecolaaGreatZB16
import Derived.Laws.EntriesVeiled
import Derived.Deep.RegionHeld3
import Derived.Deep.RegionLaw
import Derived.Deep.DeepMust
import Derived.Deep.QuietTactic
import Derived.BigQuiet
import Derived.StillTailTactics
import Derived.Lib.AppendZeros
import Derived.Deep.CutRange
import Derived.WalkMore
import Derived.Shelf.Abstract
import Derived.Shelf.RegionOpen
import Derived.WalkKit
import Derived.OwnWalkIn
import Derived.TacticsInMore
set_option linter.unusedSimpArgs false
set_option linter.unusedVariables false

namespace Go.Proofs.YtodgdoglhecolaaGreat
open Go.RowKit
set_option maxRecDepth 100000
set_option maxHeartbeats 32000000 in
theorem cSyndrome_ok (w : World) (P M : Int) (n : Nat) (mv gv : Value) (Mod : List Int) (gen : List (List Int)) (hm : SI w mv Mod) (hg : SS w gv gen) (xv : Value) (x : List Int) (hx : SI w xv x) (hW : wordE P M Mod n gen x = 0) :
  Calls Tryz.prog 45 #[.agg #[.int .i64 P, .int .i64 M, mv, .int .i64 (n : Int), gv], xv] w (RetLA w (synL (refOps P M Mod) gen n x) 0) := by
 have HCK := Lib.hid (fun (w' : World) (hb : Below w.heap.size w w') => cWord_any w' P M n mv gv xv Mod x gen (hm.below hb (Nat.le_refl _)) (hg.below hb (Nat.le_refl _)) (hx.below hb (Nat.le_refl _)))
 rw [hW] at HCK
 obtain ⟨N2, e2, hC⟩ := wordE_zero hW
 obtain rfl : n = N2 := by omega
 have hf := hC.sp.fld
 have hE := hC.code
 have hmat : matE P M Mod n gen = 0 := by
  obtain ⟨h1, h2, h3, h4, h5, h6⟩ := codeE_zero hE
  rw [Int.toNat_natCast] at h5
  exact matE_mk h1 (by omega) h4 h5
 have hO := hC.sp.hO
 have hCn := Cn.null hO hC.sp.rref.rows
 have hle := hCn.le
 have h64 := hC.n2
 have hxl := hC.len
 have hob := orderF_bounds P M
 have HRL : Hid (∀ k, k < (nullL (refOps P M Mod) gen n).length → ((nullL (refOps P M Mod) gen n).getD k []).length = n) := hid' fun k hk => (hCn.rows k hk).1
 have HDR : Hid (∀ k, k < (nullL (refOps P M Mod) gen n).length → 0 ≤ dotL (refOps P M Mod) ((nullL (refOps P M Mod) gen n).getD k []) x n ∧ dotL (refOps P M Mod) ((nullL (refOps P M Mod) gen n).getD k []) x n ≤ 256) := hid' fun k hk => by have := dotL_rng hO ((nullL (refOps P M Mod) gen n).getD k []) x n; omega
 have HSY := Lib.hid (dotsL_all (refOps P M Mod) gen n x)
 have HKE := Lib.hid (fun (w' : World) (hb : Below w.heap.size w w') => mKernel_ok w' P M n mv gv Mod gen (hm.below hb (Nat.le_refl _)) (hg.below hb (Nat.le_refl _)) hmat)
 have HNW := Lib.hid (fun (w' : World) (hb : Below w.heap.size w w') => new_ok w' P M mv Mod (hm.below hb (Nat.le_refl _)) hf)
 have HX := Lib.hid hx
 unfold RetMx at HKE
 have HSU := Lib.hid (fun k => dotsL_succ (refOps P M Mod) (nullL (refOps P M Mod) gen n) n x k)
 have HDL := Lib.hid (fun k => dotsL_len (refOps P M Mod) (nullL (refOps P M Mod) gen n) n x k)
 have HZ0 : Hid (dotsL (refOps P M Mod) (nullL (refOps P M Mod) gen n) n x 0 = []) := hid' rfl
 obtain ⟨GA, gc, rfl, _⟩ := hg
 obtain ⟨XA, xc, rfl, _⟩ := hx
 rw [hxl] at HX HCK ⊢
 have HXL := Lib.hid hxl
 generalize gen.length = gl at *
 clear hm hW hE hmat hf e2 hC hxl hob hCn
 rw [← HSY.out]
 clear HSY
 generalize nullL (refOps P M Mod) gen n = C at *
 obtain ⟨m, hk⟩ : ∃ m, m = C.length := ⟨_, rfl⟩
 have hm64 : m ≤ 64 := by omega
 rw [← hk]
 have HK := Lib.hid hk; clear hk
 have HF := Lib.hid (CBox.mk' w P M mv n (.slice GA gl gc))
 go_enter Tryz.func45, Tryz.ntmps45
 go_upto_region 1 with fail
 generalize w.alloc (.cells #[.int .i64 P, .int .i64 M, mv, .int .i64 (n : Int), .slice GA gl gc] 34) = w0 at *
 have c0 := HF.out.c0; have c1 := HF.out.c1; have c2 := HF.out.c2; have c3 := HF.out.c3; have c4 := HF.out.c4
 go_wp2_with fail
 refine (HCK.out w0 HF.out.bel).mono ?_
 rintro e w2 ⟨rfl, hb2⟩
 have HF2 := Lib.hid (HF.out.on hb2)
 have HB2 := Lib.hid HF2.out.bel
 clear hb2 c0 c1 c2 c3 c4
 have c0 := HF2.out.c0; have c1 := HF2.out.c1; have c2 := HF2.out.c2; have c3 := HF2.out.c3; have c4 := HF2.out.c4
 have C0 := Lib.hid c0; have C1 := Lib.hid c1; have C2 := Lib.hid c2; have C3 := Lib.hid c3; have C4 := Lib.hid c4
 go_upto_region 4 with fail
 go_cut [7, 8] from 20 to 26 (fun t5 t6 wc => ∃ g UA uc, t6 = .int .i64 0 ∧ t5 = .pointer (some ⟨g, 0, none⟩) ∧ w2.heap.size ≤ g ∧ Hid (Blk wc g 27 [.int .i64 (n : Int), .slice UA m uc]) ∧ Hid (Sep w2.heap.size wc fun w9 => SS w9 (.slice UA m uc) C) ∧ Hid (Below w2.heap.size w2 wc))
 case first =>
  refine Kept.start (S := fun w' => w'.cell? ⟨w.heap.size, 0, none⟩ = some (.int .i64 P) ∧ w'.cell? ⟨w.heap.size, 1, none⟩ = some (.int .i64 M) ∧ w'.cell? ⟨w.heap.size, 2, none⟩ = some mv ∧ w'.cell? ⟨w.heap.size, 3, none⟩ = some (.int .i64 (n : Int)) ∧ w'.cell? ⟨w.heap.size, 4, none⟩ = some (.slice GA gl gc)) (by kernel_rfl) (⟨c0, c1, c2, c3, c4⟩) (fun hHeld => ?_)
  change Kept _ _ _ _ 11 _ _ _
  have hdrew := bl_drew w2
  generalize w2.drew = wq1 at hdrew hHeld ⊢
  have HBB := Lib.hid hdrew
  clear c0 c1 c2 c3 c4
  clear hdrew
  refine Kept.tk 0 (v := ?_) rfl ?_ hHeld ?_
  rotate_left
  ·intro w' h; (try dsimp only at h); go_simp <;> with_reducible rfl
  try simp only [tda, tdb, tdc, Act.put, tdd, tde, tdf]
  refine Kept.tk 1 (v := ?_) rfl ?_ hHeld ?_
  rotate_left
  ·intro w' h; (try dsimp only at h); go_simp <;> with_reducible rfl
  try simp only [tda, tdb, tdc, Act.put, tdd, tde, tdf]
  refine Kept.tk 2 (v := ?_) rfl ?_ hHeld ?_
  rotate_left
  ·intro w' h; (try dsimp only at h); go_simp <;> with_reducible rfl
  try simp only [tda, tdb, tdc, Act.put, tdd, tde, tdf]
  refine Kept.two (i := 3) (j := 8) (oi := ?opa2) (oj := ?opb2) (by kernel_rfl) ?hoa2 ?hob2 (fun K hK => ?way12) (fun K hK => ?way22)
  case hoa2 => (conv => lhs; simp only [tdg, tdh, tdi])
  case hob2 => (conv => lhs; simp only [tdg, tdh, tdi])
  case way12 =>
   go_simp
   refine (cgen_any _ P M n mv GA gl gc).mono ?_
   rintro e wq3 ⟨rfl, hb⟩
   replace HBB := Lib.hid (bl_trans HBB.out hb)
   clear hb
   refine hK.out _ _ (⟨cb HBB C0, cb HBB C1, cb HBB C2, cb HBB C3, cb HBB C4⟩) (fun hHeld2 => ?_)
   clear hK K
   replace hHeld := hHeld2
   clear hHeld2
   try simp only [tda, tdb, tdc, Act.put, tdd, tde, tdf]
   refine Kept.two (i := 4) (j := 8) (oi := ?opa4) (oj := ?opb4) (by kernel_rfl) ?hoa4 ?hob4 (fun K hK => ?way14) (fun K hK => ?way24)
   case hoa4 => (conv => lhs; simp only [tdg, tdh, tdi])
   case hob4 => (conv => lhs; simp only [tdg, tdh, tdi])
   case way14 =>
    have hbs0 := HBB.out.size
    go_simp
    refine (HKE.out _ (bl_trans HB2.out HBB.out)).mono ?_
    rintro e wq5 ⟨u, rfl, hx, hb⟩
    obtain ⟨UA, uc, rfl, _⟩ := hx.out
    rw [← HK.out] at hx ⊢
    have HS4 := Lib.hid (hx.mono hbs0) 
    replace HBB := Lib.hid (bl_trans HBB.out hb)
    clear hb hx hbs0
    refine hK.out _ _ (⟨cb HBB C0, cb HBB C1, cb HBB C2, cb HBB C3, cb HBB C4⟩) (fun hHeld2 => ?_)
    clear hK K
    replace hHeld := hHeld2
    clear hHeld2
    try simp only [tda, tdb, tdc, Act.put, tdd, tde, tdf]
    refine Kept.tk 5 (v := ?_) rfl ?_ hHeld ?_
    rotate_left
    ·intro w' h; (try dsimp only at h); go_simp <;> with_reducible rfl
    try simp only [tda, tdb, tdc, Act.put, tdd, tde, tdf]
    refine Kept.tk 6 (v := ?_) rfl ?_ hHeld ?_
    rotate_left
    ·intro w' h; (try dsimp only at h); go_simp <;> with_reducible rfl
    try simp only [tda, tdb, tdc, Act.put, tdd, tde, tdf]
    refine Kept.tk 7 (v := ?_) rfl ?_ hHeld ?_
    rotate_left
    ·intro w' h; (try dsimp only at h); go_simp <;> with_reducible rfl
    try simp only [tda, tdb, tdc, Act.put, tdd, tde, tdf]
    refine Kept.only (i := 8) (o := ?op6) (by kernel_rfl) ?ho6 (fun K hK => ?_)
    case ho6 => (conv => lhs; simp only [tdg, tdh, tdi])
    go_simp
    obtain ⟨wq7, g, e1, e2, hX, hb⟩ := mk_box wq5 27 [.int .i64 0, .slice none 0 0]
    rw [e1, e2]
    have HBX := Lib.hid hX
    have hgi : w2.heap.size ≤ g := (by have := HBB.out.size; omega)
    have HSF : Hid (∀ w9, World.grownBy wq7 w9 (some g) → Sep w2.heap.size w9 fun w9 => SS w9 (.slice UA m uc) C) := hid' (fun w9 hg => sep_far HS4.out hb (by omega) hg) 
    replace HBB := Lib.hid (bl_trans HBB.out hb)
    clear e1 e2 hX hb
    refine hK.out _ _ (⟨cb HBB C0, cb HBB C1, cb HBB C2, cb HBB C3, cb HBB C4⟩) (fun hHeld2 => ?_)
    clear hK K
    replace hHeld := hHeld2
    clear hHeld2
    try simp only [tda, tdb, tdc, Act.put, tdd, tde, tdf]
    refine Kept.only (i := 9) (o := ?op8) (by kernel_rfl) ?ho8 (fun K hK => ?_)
    case ho8 => (conv => lhs; simp only [tdg, tdh, tdi])
    obtain ⟨b0, b1, f0, f1⟩ := HBX.out.two
    go_simp
    obtain ⟨wq9, h6, HL⟩ := lay2 (x := .int .i64 (n : Int)) (y := .slice UA m uc) HBX.out
    rw [h6]
    have HS6 := Lib.hid (HSF.out _ HL.gr)
    have HBY := Lib.hid HL.blk
    replace HBB := Lib.hid (HL.below HBB.out HBB.out.size hgi)
    clear b0 b1 f0 f1 h6 HL HBX
    refine hK.out _ _ (⟨cb HBB C0, cb HBB C1, cb HBB C2, cb HBB C3, cb HBB C4⟩) (fun hHeld2 => ?_)
    clear hK K
    replace hHeld := hHeld2
    clear hHeld2
    try simp only [tda, tdb, tdc, Act.put, tdd, tde, tdf]
    refine Kept.only (i := 10) (by kernel_rfl) rfl (fun K hK => ?_)
    go_simp
    refine hK.out _ _ hHeld (fun hHeld2 => ?_)
    clear hK K
    clear hHeld2
    refine Kept.done (by kernel_rfl) ?_
    try simp only [tda, tdb, tdc, Act.put, tdd, tde, tdf]
    clear hHeld
    go_wp2_with fail
    go_meet
    exact ⟨g, UA, uc, rfl, rfl, hgi, HBY, HS6, HBB⟩
   case way24 =>
    go_simp
    obtain ⟨wq10, g, e1, e2, hX, hb⟩ := mk_box wq3 27 [.int .i64 0, .slice none 0 0]
    rw [e1, e2]
    have HBX := Lib.hid hX
    have hgi : w2.heap.size ≤ g := (by have := HBB.out.size; omega)
    replace HBB := Lib.hid (bl_trans HBB.out hb)
    clear e1 e2 hX hb
    refine hK.out _ _ (⟨cb HBB C0, cb HBB C1, cb HBB C2, cb HBB C3, cb HBB C4⟩) (fun hHeld2 => ?_)
    clear hK K
    replace hHeld := hHeld2
    clear hHeld2
    try simp only [tda, tdb, tdc, Act.put, tdd, tde, tdf]
    refine Kept.only (i := 4) (o := ?op11) (by kernel_rfl) ?ho11 (fun K hK => ?_)
    case ho11 => (conv => lhs; simp only [tdg, tdh, tdi])
    have hbs0 := HBB.out.size
    go_simp
    refine (HKE.out _ (bl_trans HB2.out HBB.out)).mono ?_
    rintro e wq12 ⟨u, rfl, hx, hb⟩
    obtain ⟨UA, uc, rfl, _⟩ := hx.out
    rw [← HK.out] at hx ⊢
    have hglt := HBX.out.lt 
    have HSF : Hid (∀ w9, World.grownBy wq12 w9 (some g) → Sep w2.heap.size w9 fun w9 => SS w9 (.slice UA m uc) C) := hid' (fun w9 hg => (hx.grown hg (by rintro b e; cases e; exact hglt)).mono hbs0) 
    clear hglt 
    replace HBX := Lib.hid (HBX.out.belowS hb) 
    replace HBB := Lib.hid (bl_trans HBB.out hb)
    clear hb hx hbs0
    refine hK.out _ _ (⟨cb HBB C0, cb HBB C1, cb HBB C2, cb HBB C3, cb HBB C4⟩) (fun hHeld2 => ?_)
    clear hK K
    replace hHeld := hHeld2
    clear hHeld2
    try simp only [tda, tdb, tdc, Act.put, tdd, tde, tdf]
    refine Kept.tk 5 (v := ?_) rfl ?_ hHeld ?_
    rotate_left
    ·intro w' h; (try dsimp only at h); go_simp <;> with_reducible rfl
    try simp only [tda, tdb, tdc, Act.put, tdd, tde, tdf]
    refine Kept.tk 6 (v := ?_) rfl ?_ hHeld ?_
    rotate_left
    ·intro w' h; (try dsimp only at h); go_simp <;> with_reducible rfl
    try simp only [tda, tdb, tdc, Act.put, tdd, tde, tdf]
    refine Kept.tk 7 (v := ?_) rfl ?_ hHeld ?_
    rotate_left
    ·intro w' h; (try dsimp only at h); go_simp <;> with_reducible rfl
    try simp only [tda, tdb, tdc, Act.put, tdd, tde, tdf]
    refine Kept.only (i := 9) (o := ?op13) (by kernel_rfl) ?ho13 (fun K hK => ?_)
    case ho13 => (conv => lhs; simp only [tdg, tdh, tdi])
    obtain ⟨b0, b1, f0, f1⟩ := HBX.out.two
    go_simp
    obtain ⟨wq14, h6, HL⟩ := lay2 (x := .int .i64 (n : Int)) (y := .slice UA m uc) HBX.out
    rw [h6]
    have HS6 := Lib.hid (HSF.out _ HL.gr)
    have HBY := Lib.hid HL.blk
    replace HBB := Lib.hid (HL.below HBB.out HBB.out.size hgi)
    clear b0 b1 f0 f1 h6 HL HBX
    refine hK.out _ _ (⟨cb HBB C0, cb HBB C1, cb HBB C2, cb HBB C3, cb HBB C4⟩) (fun hHeld2 => ?_)
    clear hK K
    replace hHeld := hHeld2
    clear hHeld2
    try simp only [tda, tdb, tdc, Act.put, tdd, tde, tdf]
    refine Kept.only (i := 10) (by kernel_rfl) rfl (fun K hK => ?_)
    go_simp
    refine hK.out _ _ hHeld (fun hHeld2 => ?_)
    clear hK K
    clear hHeld2
    refine Kept.done (by kernel_rfl) ?_
    try simp only [tda, tdb, tdc, Act.put, tdd, tde, tdf]
    clear hHeld
    go_wp2_with fail
    go_meet
    exact ⟨g, UA, uc, rfl, rfl, hgi, HBY, HS6, HBB⟩
  case way22 =>
   go_simp
   obtain ⟨wq15, g, e1, e2, hX, hb⟩ := mk_box wq1 27 [.int .i64 0, .slice none 0 0]
   rw [e1, e2]
   have HBX := Lib.hid hX
   have hgi : w2.heap.size ≤ g := (by have := HBB.out.size; omega)
   replace HBB := Lib.hid (bl_trans HBB.out hb)
   clear e1 e2 hX hb
   refine hK.out _ _ (⟨cb HBB C0, cb HBB C1, cb HBB C2, cb HBB C3, cb HBB C4⟩) (fun hHeld2 => ?_)
   clear hK K
   replace hHeld := hHeld2
   clear hHeld2
   try simp only [tda, tdb, tdc, Act.put, tdd, tde, tdf]
   refine Kept.only (i := 3) (o := ?op16) (by kernel_rfl) ?ho16 (fun K hK => ?_)
   case ho16 => (conv => lhs; simp only [tdg, tdh, tdi])
   go_simp
   refine (cgen_any _ P M n mv GA gl gc).mono ?_
   rintro e wq17 ⟨rfl, hb⟩
   replace HBX := Lib.hid (HBX.out.belowS hb) 
   replace HBB := Lib.hid (bl_trans HBB.out hb)
   clear hb
   refine hK.out _ _ (⟨cb HBB C0, cb HBB C1, cb HBB C2, cb HBB C3, cb HBB C4⟩) (fun hHeld2 => ?_)
   clear hK K
   replace hHeld := hHeld2
   clear hHeld2
   try simp only [tda, tdb, tdc, Act.put, tdd, tde, tdf]
   refine Kept.only (i := 4) (o := ?op18) (by kernel_rfl) ?ho18 (fun K hK => ?_)
   case ho18 => (conv => lhs; simp only [tdg, tdh, tdi])
   have hbs0 := HBB.out.size
   go_simp
   refine (HKE.out _ (bl_trans HB2.out HBB.out)).mono ?_
   rintro e wq19 ⟨u, rfl, hx, hb⟩
   obtain ⟨UA, uc, rfl, _⟩ := hx.out
   rw [← HK.out] at hx ⊢
   have hglt := HBX.out.lt 
   have HSF : Hid (∀ w9, World.grownBy wq19 w9 (some g) → Sep w2.heap.size w9 fun w9 => SS w9 (.slice UA m uc) C) := hid' (fun w9 hg => (hx.grown hg (by rintro b e; cases e; exact hglt)).mono hbs0) 
   clear hglt 
   replace HBX := Lib.hid (HBX.out.belowS hb) 
   replace HBB := Lib.hid (bl_trans HBB.out hb)
   clear hb hx hbs0
   refine hK.out _ _ (⟨cb HBB C0, cb HBB C1, cb HBB C2, cb HBB C3, cb HBB C4⟩) (fun hHeld2 => ?_)
   clear hK K
   replace hHeld := hHeld2
   clear hHeld2
   try simp only [tda, tdb, tdc, Act.put, tdd, tde, tdf]
   refine Kept.tk 5 (v := ?_) rfl ?_ hHeld ?_
   rotate_left
   ·intro w' h; (try dsimp only at h); go_simp <;> with_reducible rfl
   try simp only [tda, tdb, tdc, Act.put, tdd, tde, tdf]
   refine Kept.tk 6 (v := ?_) rfl ?_ hHeld ?_
   rotate_left
   ·intro w' h; (try dsimp only at h); go_simp <;> with_reducible rfl
   try simp only [tda, tdb, tdc, Act.put, tdd, tde, tdf]
   refine Kept.tk 7 (v := ?_) rfl ?_ hHeld ?_
   rotate_left
   ·intro w' h; (try dsimp only at h); go_simp <;> with_reducible rfl
   try simp only [tda, tdb, tdc, Act.put, tdd, tde, tdf]
   refine Kept.only (i := 9) (o := ?op20) (by kernel_rfl) ?ho20 (fun K hK => ?_)
   case ho20 => (conv => lhs; simp only [tdg, tdh, tdi])
   obtain ⟨b0, b1, f0, f1⟩ := HBX.out.two
   go_simp
   obtain ⟨wq21, h6, HL⟩ := lay2 (x := .int .i64 (n : Int)) (y := .slice UA m uc) HBX.out
   rw [h6]
   have HS6 := Lib.hid (HSF.out _ HL.gr)
   have HBY := Lib.hid HL.blk
   replace HBB := Lib.hid (HL.below HBB.out HBB.out.size hgi)
   clear b0 b1 f0 f1 h6 HL HBX
   refine hK.out _ _ (⟨cb HBB C0, cb HBB C1, cb HBB C2, cb HBB C3, cb HBB C4⟩) (fun hHeld2 => ?_)
   clear hK K
   replace hHeld := hHeld2
   clear hHeld2
   try simp only [tda, tdb, tdc, Act.put, tdd, tde, tdf]
   refine Kept.only (i := 10) (by kernel_rfl) rfl (fun K hK => ?_)
   go_simp
   refine hK.out _ _ hHeld (fun hHeld2 => ?_)
   clear hK K
   clear hHeld2
   refine Kept.done (by kernel_rfl) ?_
   try simp only [tda, tdb, tdc, Act.put, tdd, tde, tdf]
   clear hHeld
   go_wp2_with fail
   go_meet
   exact ⟨g, UA, uc, rfl, rfl, hgi, HBY, HS6, HBB⟩
 case rest =>
  clear c0 c1 c2 c3 c4
  obtain ⟨g, UA, uc, rfl, rfl, hg, HBY, HS5, HBB⟩ := hcut
  have HF3 := Lib.hid (HF2.out.on HBB.out)
  have hs2 := HF2.out.bel.size
  clear C0 C1 C2 C3 C4
  have c0 := HF3.out.c0; have c1 := HF3.out.c1; have c2 := HF3.out.c2
  go_wp2_with fail
  refine (HNW.out wc HF3.out.bel).mono ?_
  rintro e w5 ⟨a, rfl, hsep, hb5⟩
  have HGF := Lib.hid hsep.out
  have HF5 := Lib.hid (HF3.out.on hb5)
  have HX5 := Lib.hid (HX.out.below HF5.out.bel (Nat.le_refl _))
  have HD5 := Lib.hid (HS5.out.on hb5).out
  have HBY5 := Lib.hid (HBY.out.belowS hb5)
  clear hb5 hsep c0 c1 c2
  have x1 : w5.cell? ⟨g, 1, none⟩ = some (.slice UA m uc) := HBY5.out.cell 1
  have HO0 : Hid (OI w5.heap.size w5 (.slice none 0 0) (dotsL (refOps P M Mod) C n x 0)) := by rw [HZ0.out]; exact OI.nil w5.heap.size w5
  go_wp2_with fail
  clear x1
  go_loopw [10, 12, 42] (fun u _ i wr => ∃ k : Nat, k ≤ m ∧ i = .int .i64 (k : Int) ∧ Hid (OI w5.heap.size wr u (dotsL (refOps P M Mod) C n x k)) ∧ Hid (Below w5.heap.size w5 wr)) (fun _ _ i _ => (m - intOf i).toNat)
  case atStart => exact ⟨0, Nat.zero_le _, rfl, HO0, bl_refl _⟩
  case round =>
   clear HO0
   obtain ⟨k, hk, rfl, HO, HW⟩ := hrel
   have HBW := Lib.hid (bl_trans HF5.out.bel HW.out)
   by_cases hlt : k < m
   ·obtain ⟨ad, Ak, ck, row, rfl, hc, HR, HRE⟩ := (HD5.out.below HW.out (Nat.le_refl _)).eltA (k := k) (by rw [← HK.out]; exact hlt)
    have HRN : Hid (row.length = n) := hid' (by rw [← HRE.out]; exact HRL.out k (by rw [← HK.out]; exact hlt))
    have HDT := Lib.hid (gdot_any wr a P M (.slice Ak row.length ck) (.slice XA n xc) Mod row x (HGF.out.on HW.out) HR.out.si (HX.out.below HBW.out (Nat.le_refl _)) (by rw [HRN.out, HXL.out]))
    rw [HRN.out] at HDT hc
    have hdr := HDR.out k (by rw [← HK.out]; exact hlt)
    have HNX := Lib.hid (HSU.out k)
    rw [HRE.out] at hdr HNX
    have hdl := HDL.out k
    generalize dotL (refOps P M Mod) row x n = d at *
    go_wp2_with fail
    refine HDT.out.mono ?_
    rintro e w6 ⟨rfl, hb6⟩
    have HO6 := Lib.hid (HO.out.below hb6 (Nat.le_refl _)); have HB6 := Lib.hid (bl_trans HW.out hb6)
    have HP := Lib.hid (PushI.mk' (w0 := w5) HO6.out HB6.out HB6.out.size d)
    clear hb6 hc
    go_wp2_with (at_builtin; refine wpList_pushI rfl _ _ rfl w5.heap.size _ (dotsL (refOps P M Mod) C n x k) rfl HP.out.own w6.heap.size 1 d rfl HP.out.box (by rw [hdl]; omega) HP.out.up ?_; intro v1 w1 ho hg)
    exact ⟨⟨k + 1, by omega, rfl, by rw [HNX.out]; exact hid' ho, hid' (HP.out.below (Nat.le_refl _) hg)⟩, by simp only [intOf]; omega⟩
   ·obtain rfl : m = k := by omega
    have HSI := Lib.hid (HO.out.sep (by rw [HDL.out]; omega) (fun j => by
     by_cases hj : j < m
     ·rw [dotsL_at hj]; have := HDR.out j (by rw [← HK.out]; exact hj); exact I64.of_small (by omega) (by omega)
     ·rw [getD_len (by rw [HDL.out]; omega)]; exact I64.zero))
    go_wp2_with fail
    go_ret2
    refine ⟨_, ?_, HSI.out.mono HF5.out.bel.size, HBW.out⟩
    rfl
set_option maxHeartbeats 8000000 in
theorem rPar_ok (w : World) (P M : Int) (n : Nat) (mv gv : Value) (Mod : List Int) (gen : List (List Int)) (hm : SI w mv Mod) (hg : SS w gv gen) (hE : codeE P M Mod n gen = 0) :
  Calls Tryz.prog 83 #[.agg #[.int .i64 P, .int .i64 M, mv, .int .i64 (n : Int), gv]] w (RetNu w (nullL (refOps P M Mod) gen n)) := by
 obtain ⟨hf, _, h64, h256, hR, _⟩ := codeE_zero hE
 rw [Int.toNat_natCast] at hR
 have HN := Lib.hid (fun (w' : World) (hb : Below w.heap.size w w') => rNull_any w' P M n mv gv Mod gen (hm.below hb (Nat.le_refl _)) (hg.below hb (Nat.le_refl _)) (ref_fld hf) hf.1 hf.2.2.1 hR (by omega) (by omega))
 obtain ⟨GA, gc, rfl, _⟩ := hg
 generalize gen.length = gl at *
 clear hm hE hf hR h64 h256
 have HF := Lib.hid (CBox.mk' w P M mv n (.slice GA gl gc))
 go_enter Tryz.func83, Tryz.ntmps83
 go_upto_region 1 with fail
 generalize w.alloc (.cells #[.int .i64 P, .int .i64 M, mv, .int .i64 (n : Int), .slice GA gl gc] 34) = w0 at *
 have c0 := HF.out.c0; have c1 := HF.out.c1; have c2 := HF.out.c2; have c3 := HF.out.c3; have c4 := HF.out.c4
 go_wp2_with fail
 refine (HN.out w0 HF.out.bel).mono ?_
 rintro e w1 ⟨u, rfl, hx, ho, hb1⟩
 have hs := HF.out.bel.size
 have HX := Lib.hid (hx.mono hs); have HO := Lib.hid ((ho.names (Y := fun g => g < w.heap.size) (fun g _ h => Nat.lt_of_lt_of_le h hs)).mono hs)
 have HB := Lib.hid (bl_trans HF.out.bel hb1)
 clear hx ho hb1 c0 c1 c2 c3 c4
 go_wp2_with fail
 go_ret
 exact ⟨_, rfl, HX.out, HO.out, HB.out⟩
set_option maxHeartbeats 16000000 in
theorem rCDual_ok (w : World) (P M : Int) (n : Nat) (mv gv : Value) (Mod : List Int) (gen : List (List Int)) (hm : SI w mv Mod) (hg : SS w gv gen) (hE : codeE P M Mod n gen = 0) :
  Calls Tryz.prog 35 #[.agg #[.int .i64 P, .int .i64 M, mv, .int .i64 (n : Int), gv]] w (RetCE w P M Mod n (nullL (refOps P M Mod) gen n) 0) := by
 have HCK := Lib.hid (fun (w' : World) (hb : Below w.heap.size w w') => rCCheck_any w' P M n mv gv Mod gen (hm.below hb (Nat.le_refl _)) (hg.below hb (Nat.le_refl _)))
 rw [hE] at HCK
 obtain ⟨hf, _, h64, h256, hR, _⟩ := codeE_zero hE
 rw [Int.toNat_natCast] at hR
 have hO := ref_fld hf
 have hC := Cn.null hO hR
 have hCl := hC.le
 have HPA := Lib.hid (fun (w' : World) (hb : Below w.heap.size w w') => rPar_ok w' P M n mv gv Mod gen (hm.below hb (Nat.le_refl _)) (hg.below hb (Nat.le_refl _)) hE)
 have HMK := Lib.hid (fun (w' : World) (u : Value) (hb : Below w.heap.size w w') (hs : SS w' u (nullL (refOps P M Mod) gen n)) => rMake_any w' P M n mv u Mod _ (hm.below hb (Nat.le_refl _)) hs hf.1 hf.2.2.1 hC.rows (by omega) (by omega))
 rw [hC.self hO] at HMK
 unfold RetC at HMK
 obtain ⟨GA, gc, rfl, _⟩ := hg
 generalize gen.length = gl at *
 clear hm hE hf hR hO hC hCl h64 h256
 generalize nullL (refOps P M Mod) gen n = D at *
 obtain ⟨w1, e1, hq⟩ := CCQ.mk' w P M mv n (.slice GA gl gc)
 have HQ := Lib.hid hq; have HE1 := Lib.hid e1; clear hq e1
 go_enter Tryz.func35, Tryz.ntmps35
 go_upto_region 1 with fail
 rw [HE1.out]
 clear HE1
 have c0 := HQ.out.cb.c0; have c1 := HQ.out.cb.c1; have c2 := HQ.out.cb.c2; have c3 := HQ.out.cb.c3; have c4 := HQ.out.cb.c4
 go_wp2_with fail
 refine (HCK.out w1 HQ.out.cb.bel).mono ?_
 rintro e w2 ⟨rfl, hb2⟩
 have HQ2 := Lib.hid (HQ.out.on hb2)
 clear hb2 c0 c1 c2 c3 c4
 have c0 := HQ2.out.cb.c0; have c1 := HQ2.out.cb.c1; have c2 := HQ2.out.cb.c2; have c3 := HQ2.out.cb.c3; have c4 := HQ2.out.cb.c4
 go_upto_region 4 with fail
 refine Kept.start (S := fun w' => w'.cell? ⟨w.heap.size, 0, none⟩ = some (.int .i64 P) ∧ w'.cell? ⟨w.heap.size, 1, none⟩ = some (.int .i64 M) ∧ w'.cell? ⟨w.heap.size, 2, none⟩ = some mv ∧ w'.cell? ⟨w.heap.size, 3, none⟩ = some (.int .i64 (n : Int)) ∧ w'.cell? ⟨w.heap.size, 4, none⟩ = some (.slice GA gl gc)) (by kernel_rfl) (⟨c0, c1, c2, c3, c4⟩) (fun hHeld => ?_)
 change Kept _ _ _ _ 9 _ _ _
 refine Kept.tk 0 (v := ?_) rfl ?_ hHeld ?_
 rotate_left
 ·intro w' h; (try dsimp only at h); go_simp <;> with_reducible rfl
 try simp only [tda, tdb, tdc, Act.put, tdd, tde, tdf]
 refine Kept.tk 1 (v := ?_) rfl ?_ hHeld ?_
 rotate_left
 ·intro w' h; (try dsimp only at h); go_simp <;> with_reducible rfl
 try simp only [tda, tdb, tdc, Act.put, tdd, tde, tdf]
 refine Kept.tk 2 (v := ?_) rfl ?_ hHeld ?_
 rotate_left
 ·intro w' h; (try dsimp only at h); go_simp <;> with_reducible rfl
 try simp only [tda, tdb, tdc, Act.put, tdd, tde, tdf]
 refine Kept.tk 4 (v := ?_) rfl ?_ hHeld ?_
 rotate_left
 ·intro w' h; (try dsimp only at h); go_simp <;> with_reducible rfl
 try simp only [tda, tdb, tdc, Act.put, tdd, tde, tdf]
 refine Kept.tk 5 (v := ?_) rfl ?_ hHeld ?_
 rotate_left
 ·intro w' h; (try dsimp only at h); go_simp <;> with_reducible rfl
 try simp only [tda, tdb, tdc, Act.put, tdd, tde, tdf]
 refine Kept.only (i := 3) (by kernel_rfl) rfl (fun K hK => ?_)
 go_simp
 refine (HPA.out _ (bl_trans HQ2.out.cb.bel (bl_drew w2))).mono ?_; rintro e w3 ⟨u3, rfl, hx3, _, hb3⟩; have HX3 := Lib.hid hx3.out; have HQ3 := Lib.hid (HQ2.out.on (bl_trans (bl_drew w2) hb3)); have hs3 := (bl_trans (bl_drew w2) hb3).size; clear hx3 hb3
 refine hK.out _ _ (⟨HQ3.out.cb.c0, HQ3.out.cb.c1, HQ3.out.cb.c2, HQ3.out.cb.c3, HQ3.out.cb.c4⟩) (fun hHeld2 => ?_)
 clear hK K
 replace hHeld := hHeld2
 clear hHeld2
 try simp only [tda, tdb, tdc, Act.put, tdd, tde, tdf]
 refine Kept.only (i := 6) (by kernel_rfl) rfl (fun K hK => ?_)
 go_simp
 refine (HMK.out w3 u3 HQ3.out.cb.bel HX3.out).mono ?_; rintro e w4 ⟨u4, g4, rfl, hx4, hb4⟩; obtain ⟨⟨MA, mc, rfl, _⟩, ⟨DA, dc, rfl, _⟩⟩ := hx4.out; have HX4 : Hid (Sep w3.heap.size w4 fun w9 => SI w9 (.slice MA Mod.length mc) Mod ∧ SS w9 (.slice DA D.length dc) D) := hid' hx4; have HQ4 := Lib.hid (HQ3.out.on hb4); clear hx4 hb4; generalize D.length = dl at *; generalize Mod.length = ml at *
 refine hK.out _ _ (⟨HQ4.out.cb.c0, HQ4.out.cb.c1, HQ4.out.cb.c2, HQ4.out.cb.c3, HQ4.out.cb.c4⟩) (fun hHeld2 => ?_)
 clear hK K
 replace hHeld := hHeld2
 clear hHeld2
 try simp only [tda, tdb, tdc, Act.put, tdd, tde, tdf]
 refine Kept.only (i := 7) (o := ?op1) (by kernel_rfl) ?ho1 (fun K hK => ?_)
 case ho1 => (conv => lhs; simp only [tdg, tdh, tdi])
 obtain ⟨y0, y1, y2, y3, y4, f0, f1, f2, f3, f4⟩ := HQ4.out.q.five; go_simp; obtain ⟨w5, hz, HL⟩ := lay5 (x := .int .i64 P) (y := .int .i64 M) (z := .slice MA ml mc) (u := .int .i64 (n : Int)) (v := .slice DA dl dc) HQ4.out.q; rw [hz]; have q0 := HL.c0; have q1 := HL.c1; have q2 := HL.c2; have q3 := HL.c3; have q4 := HL.c4; have hql := HQ2.out.q.lt; have HC5 := Lib.hid (HQ4.out.cb.blk.grown HL.gr (by intro e; have := Option.some.inj e; omega)); have HX5 := Lib.hid (HX4.out.grown HL.gr (by rintro b e; cases e; omega)); have HBZ := Lib.hid (HL.below HQ4.out.cb.bel HQ4.out.cb.bel.size (by omega)); clear hz y0 y1 y2 y3 y4 f0 f1 f2 f3 f4 HL
 refine hK.out _ _ (⟨HC5.out.cell 0, HC5.out.cell 1, HC5.out.cell 2, HC5.out.cell 3, HC5.out.cell 4⟩) (fun hHeld2 => ?_)
 clear hK K
 replace hHeld := hHeld2
 clear hHeld2
 try simp only [tda, tdb, tdc, Act.put, tdd, tde, tdf]
 refine Kept.only (i := 8) (by kernel_rfl) rfl (fun K hK => ?_)
 go_simp
 refine hK.out _ _ hHeld (fun hHeld2 => ?_)
 clear hK K
 clear hHeld2
 refine Kept.done (by kernel_rfl) ?_
 try simp only [tda, tdb, tdc, Act.put, tdd, tde, tdf]
 clear hHeld
 clear c0 c1 c2 c3 c4
 go_wp2_with fail
 refine bodyPost_ret (v := .tuple #[.agg #[.int .i64 P, .int .i64 M, .slice MA ml mc, .int .i64 (n : Int), .slice DA dl dc], .int .i64 0]) (by simp [results, Tryz.results35, go_sem, q0, q1, q2, q3, q4]) rfl ?_
 have hsz := HQ3.out.cb.bel.size
 exact ⟨_, _, rfl, HX5.out.mono hsz, HBZ.out⟩
structure FCR (w w1 : World) (P M : Int) (mv : Value) : Prop where
 fb : FBox w w1 P M mv
 q : Blk w1 (w.heap.size + 1) 34 [.int .i64 0, .int .i64 0, .slice none 0 0, .int .i64 0, .slice none 0 0]
theorem FCR.on {w w1 w2 : World} {P M : Int} {mv : Value} (h : FCR w w1 P M mv) (hb : Below w1.heap.size w1 w2) : FCR w w2 P M mv := ⟨h.fb.on hb, h.q.belowS hb⟩
theorem FCR.mk' (w : World) (P M : Int) (mv : Value) : ∃ w1, (w.alloc (.cells #[.int .i64 P, .int .i64 M, mv] 24)).alloc (.cells #[.int .i64 0, .int .i64 0, .slice none 0 0, .int .i64 0, .slice none 0 0] 34) = w1 ∧ FCR w w1 P M mv := by
 refine ⟨_, rfl, (FBox.mk' w P M mv).on (bl_alloc _ _), ?_⟩
 have := Blk.new (w.alloc (.cells #[.int .i64 P, .int .i64 M, mv] 24)) 34 [.int .i64 0, .int .i64 0, .slice none 0 0, .int .i64 0, .slice none 0 0]
 rw [World.size_alloc] at this
 exact this
end Go.Proofs.YtodgdoglhecolaaGreat
namespace Go.Proofs.YtodgdoglhecolaaGreat
def dgt (p m j : Nat) : Nat := m / p ^ j % p
def pwL (O : FOps) (q n : Nat) (gen : List (List Int)) (row s : Nat) : List Int := rowOf n fun j => sumTo O (fun i => O.mul (dgt q s (row - 1 - i) : Int) (ent gen i j)) row
theorem pwL_len (O : FOps) (q n : Nat) (gen : List (List Int)) (row s : Nat) : (pwL O q n gen row s).length = n := rowOf_len _ _
theorem pwL_at {O : FOps} {q n : Nat} {gen : List (List Int)} {row s j : Nat} (hj : j < n) : (pwL O q n gen row s).getD j 0 = sumTo O (fun i => O.mul (dgt q s (row - 1 - i) : Int) (ent gen i j)) row := rowOf_getD hj
theorem pwL_zero (O : FOps) (q n : Nat) (gen : List (List Int)) : pwL O q n gen 0 0 = List.replicate n 0 := by rw [← rowOf_zero]; rfl
theorem dgt_push {q s a k : Nat} (ha : a < q) : dgt q (s * q + a) (k + 1) = dgt q s k := by
 have hq : 0 < q := by omega
 unfold dgt
 rw [Nat.pow_succ', ← Nat.div_div_eq_div_mul, show (s * q + a) / q = s by rw [Nat.add_comm, Nat.add_mul_div_right _ _ hq, Nat.div_eq_of_lt ha, Nat.zero_add]]
theorem dgt_last {q s a : Nat} (ha : a < q) : dgt q (s * q + a) 0 = a := by
 unfold dgt
 rw [Nat.pow_zero, Nat.div_one, Nat.add_comm, Nat.add_mul_mod_self_right, Nat.mod_eq_of_lt ha]
theorem pwL_next {O : FOps} {q n : Nat} {gen : List (List Int)} {row s a : Nat} (ha : a < q) : pwL O q n gen (row + 1) (s * q + a) = rowOf n fun j => O.add ((pwL O q n gen row s).getD j 0) (O.mul (a : Int) (ent gen row j)) := by
 refine rowOf_congr fun j hj => ?_
 rw [pwL_at hj, sumTo]
 congr 1
 ·refine sumTo_congr fun i hi => ?_
  rw [show row + 1 - 1 - i = row - 1 - i + 1 by omega, dgt_push ha]
 ·rw [show row + 1 - 1 - row = 0 by omega, dgt_last ha]
theorem pwL_rng {O : FOps} {q : Nat} (hO : O.Fld (q : Int)) (n : Nat) (gen : List (List Int)) (row s j : Nat) : 0 ≤ (pwL O q n gen row s).getD j 0 ∧ (pwL O q n gen row s).getD j 0 < (q : Int) := by
 by_cases hj : j < n
 ·rw [pwL_at hj]; exact sumTo_lt hO _ _
 ·rw [getD_len (by rw [pwL_len]; omega)]; have := hO.lt.pos; omega
def wordsL (O : FOps) (q n : Nat) (gen : List (List Int)) : List (List Int) := (List.range (q ^ gen.length)).map (pwL O q n gen gen.length)
theorem wordsL_len (O : FOps) (q n : Nat) (gen : List (List Int)) : (wordsL O q n gen).length = q ^ gen.length := by simp [wordsL]
theorem wordsL_at {O : FOps} {q n : Nat} {gen : List (List Int)} {N : Nat} (h : N < q ^ gen.length) : (wordsL O q n gen).getD N [] = pwL O q n gen gen.length N := by simp [wordsL, List.getD, h]
end Go.Proofs.YtodgdoglhecolaaGreat
namespace Go.Proofs.YtodgdoglhecolaaGreat
open Go.RowKit Go.Shelf
attribute [local go_sem] Oper.semAt_some
set_option linter.unusedVariables false
set_option maxRecDepth 100000
def Hd (Wz : World) (Dp : Nat → Prop) (W : World) : Prop := Wz.heap.size ≤ W.heap.size ∧ ∀ i, Dp i → W.heap[i]? = Wz.heap[i]?
theorem Hd.off {Wz W W' : World} {Dp X : Nat → Prop} (h : Hd Wz Dp W) (hl : ∀ i, Dp i → i < Wz.heap.size) (ho : Off X W W') (hx : ∀ i, Dp i → ¬ X i) : Hd Wz Dp W' :=
 ⟨Nat.le_trans h.1 ho.size, fun i hi => (ho.block i (Nat.lt_of_lt_of_le (hl i hi) h.1) (hx i hi)).trans (h.2 i hi)⟩
def capsW (cb ba by_ bg bf : Nat) : Array Value := #[.pointer (some ⟨cb, 0, none⟩), .pointer (some ⟨ba, 0, none⟩), .pointer (some ⟨by_, 0, none⟩), .pointer (some ⟨bg, 0, none⟩), .pointer (some ⟨bf, 0, none⟩)]
structure WD (Wz : World) (Dp : Nat → Prop) (P M : Int) (Mod : List Int) (gen : List (List Int)) (GA : Option Addr) (K gc cb ba by_ bg bf a l : Nat) : Prop where
 c4 : ∀ W, Hd Wz Dp W → W.cell? ⟨cb, 4, none⟩ = some (.slice GA K gc)
 gn : ∀ W, Hd Wz Dp W → SS W (.slice GA K gc) gen
 yl : ∀ W, Hd Wz Dp W → W.cell? ⟨by_, 0, none⟩ = some (.func (.yield l) #[] #[])
 gp : ∀ W, Hd Wz Dp W → W.cell? ⟨bg, 0, none⟩ = some (.pointer (some ⟨a, 0, none⟩))
 gf : ∀ W, Hd Wz Dp W → GF W a P M Mod
 fr : ∀ W, Hd Wz Dp W → W.cell? ⟨bf, 0, none⟩ = some (.func (.func 69) #[] (capsW cb ba by_ bg bf))
 nb : ¬ Dp ba
 lt : ∀ i, Dp i → i < Wz.heap.size
structure WS (Wz : World) (Dp Kp : Nat → Prop) (ba : Nat) (J : Nat → (Nat → Prop) → World → Prop) (t : Nat) (X : Nat → Prop) (W : World) : Prop where
 hd : Hd Wz Dp W
 at_ : Blk W ba 3 [.int .i64 (t : Int)]
 j : J t X W
 nx : ∀ i, Dp i → Kp i ∨ ¬ X i
 nb : ¬ X ba
theorem WS.bel {Wz W W' : World} {Dp Kp : Nat → Prop} {ba t : Nat} {J : Nat → (Nat → Prop) → World → Prop} {X : Nat → Prop} (h : WS Wz Dp Kp ba J t X W) (rJ : Rests J) (hl : ∀ i, Dp i → i < Wz.heap.size) (hb : Below W.heap.size W W') : WS Wz Dp Kp ba J t X W' :=
 ⟨h.hd.off hl (bel_off (X := fun _ => False) hb) (fun _ _ k => k), h.at_.belowS hb, rJ.on _ _ _ _ h.j ((bel_off (X := fun _ => False) hb).on fun i hi => ⟨rJ.lt _ _ _ h.j i hi, fun k => k⟩), h.nx, h.nb⟩
def FromPost (Wz : World) (Dp Kp : Nat → Prop) (ba : Nat) (J Jx : Nat → (Nat → Prop) → World → Prop) (n t' : Nat) (X : Nat → Prop) (W : World) (e : Ending) (W' : World) : Prop :=
 (e = .returned (.bool true) ∧ ∃ X', WS Wz Dp Kp ba J t' X' W' ∧ (∀ i, X' i → X i ∨ W.heap.size ≤ i) ∧ Off (fun i => X i ∨ i = ba) W W') ∨ (e = .returned (.bool false) ∧ ∃ k X', k < n ∧ Jx (k + 1) X' W')
theorem from_end {Wz W W1 w5 W6 : World} {Dp Kp : Nat → Prop} {ba t n : Nat} {J Jx : Nat → (Nat → Prop) → World → Prop} {X : Nat → Prop} {u : Value} {xs : List Int} {b : Bool} (hS : WS Wz Dp Kp ba J t X W) (rJ : Rests J) (hl : ∀ i, Dp i → i < Wz.heap.size) (hnb : ¬ Dp ba)
  (hO1 : Off (fun i => i = ba) W W1) (hsz : W1.heap.size = W.heap.size) (hA1 : Blk W1 ba 3 [.int .i64 ((t : Int) + 1)]) (hB5 : Below W1.heap.size W1 w5) (hO5 : OI W1.drew.heap.size w5 u xs) (ht : t < n)
  (h6 : (b = true → ∃ X', J (t + 1) X' W6 ∧ (∀ i, X' i → X i ∨ u.ownBlock = some i ∨ w5.heap.size ≤ i) ∧ Off X w5 W6 ∧ Kept2 Kp w5 W6) ∧ (b = false → ∃ X', Jx (t + 1) X' W6)) :
  FromPost Wz Dp Kp ba J Jx n (t + 1) X W (.returned (.bool b)) W6 := by
 cases b
 ·obtain ⟨X', h⟩ := h6.2 rfl
  exact .inr ⟨rfl, t, X', ht, h⟩
 ·obtain ⟨X', hj, hx, hoff, hkp⟩ := h6.1 rfl
  have hb5s := hB5.size
  have hba : ba < W.heap.size := hS.at_.lt
  have hu : ∀ i, u.ownBlock = some i → W.heap.size ≤ i := fun i hi => by have h1 : W1.heap.size ≤ i := (hO5.lt hi).1; omega
  have hbl : Blk w5 ba 3 [.int .i64 ((t : Int) + 1)] := hA1.belowS hB5
  have hhd : Hd Wz Dp W6 := by
   have h1 := (hS.hd.off hl hO1 fun i hi e => hnb (e ▸ hi)).off hl (bel_off (X := fun _ => False) hB5) fun _ _ k => k
   refine ⟨Nat.le_trans h1.1 hoff.size, fun i hi => ?_⟩
   rw [← h1.2 i hi]
   rcases hS.nx i hi with h2 | h2
   ·exact hkp i h2
   ·exact hoff.block i (Nat.lt_of_lt_of_le (hl i hi) h1.1) h2
  refine .inl ⟨rfl, X', ⟨hhd, ?_, by push_cast; exact hj, fun i hi => ?_, fun h => ?_⟩, fun i hi => ?_, ?_⟩
  ·have e : W6.heap[ba]? = w5.heap[ba]? := hoff.block ba (by omega) hS.nb
   have : Blk W6 ba 3 [.int .i64 ((t : Int) + 1)] := e.trans hbl
   push_cast; exact this
  ·rcases hS.nx i hi with h2 | h2
   ·exact .inl h2
   ·refine .inr fun h3 => ?_
    have h4 := hl i hi
    have h5 := hS.hd.1
    rcases hx i h3 with h6 | h6 | h6
    ·exact h2 h6
    ·have := hu i h6; omega
    ·omega
  ·rcases hx ba h with h6 | h6 | h6
   ·exact hS.nb h6
   ·have := hu ba h6; omega
   ·omega
  ·rcases hx i hi with h6 | h6 | h6
   ·exact .inl h6
   ·exact .inr (hu i h6)
   ·exact .inr (by omega)
  ·exact ((hO1.mono fun i _ h => .inr h).trans (bel_off hB5)).trans (hoff.mono fun i _ h => .inl h)
theorem roundZ_b {Kp : Nat → Prop} {J Jx : Nat → (Nat → Prop) → World → Prop} {k : Nat} {X : Nat → Prop} {u : Value} {W W' : World} {e : Ending} (h : RoundZ Kp J Jx k X u W e W') :
  ∃ b, e = .returned (.bool b) ∧ (b = true → ∃ X', J (k + 1) X' W' ∧ (∀ i, X' i → X i ∨ u.ownBlock = some i ∨ W.heap.size ≤ i) ∧ Off X W W' ∧ Kept2 Kp W W') ∧ (b = false → ∃ X', Jx (k + 1) X' W') := by
 rcases h with ⟨rfl, h⟩ | ⟨rfl, h⟩
 ·exact ⟨true, rfl, fun _ => h, (fun h => nomatch h)⟩
 ·exact ⟨false, rfl, (fun h => nomatch h), fun _ => h⟩
set_option maxHeartbeats 8000000 in
theorem from_zero {Wz : World} {Dp Kp : Nat → Prop} {P M : Int} {Mod : List Int} {gen L : List (List Int)} {GA : Option Addr} {K gc cb ba by_ bg bf a l : Nat} (hD : WD Wz Dp P M Mod gen GA K gc cb ba by_ bg bf a l)
  {J Jx : Nat → (Nat → Prop) → World → Prop} (rJ : Rests J) (hLL : L.length ≤ 1000000)
  (hY : ∀ k X1 W1 u, k < L.length → J k X1 W1 → SI W1 u (L.getD k []) → (∀ i, u.ownBlock = some i → i < W1.heap.size ∧ ¬ X1 i) → YieldAt Fence.wide 2 Tryz.prog l #[.int .i64 (k : Int), u] W1 (RoundZ Kp J Jx k X1 u W1))
  {t : Nat} (ht : t < L.length) {X : Nat → Prop} {W : World} (hS : WS Wz Dp Kp ba J t X W) {wv : Value} (hw : SI W wv (L.getD t [])) (hwn : ∀ i, wv.ownBlock = some i → i ≠ ba) :
  Calls Tryz.prog 69 #[.int .i64 (K : Int), wv, .pointer (some ⟨cb, 0, none⟩), .pointer (some ⟨ba, 0, none⟩), .pointer (some ⟨by_, 0, none⟩), .pointer (some ⟨bg, 0, none⟩), .pointer (some ⟨bf, 0, none⟩)] W
   (FromPost Wz Dp Kp ba J Jx L.length (t + 1) X W) := by
 have HWF := Lib.hid (show ∀ i, I64 ((L.getD t []).getD i 0) from by obtain ⟨A, c, rfl, h⟩ := hw; exact h.wf)
 have HD := Lib.hid hD; have HY := Lib.hid hY; have HS := Lib.hid hS; have HW := Lib.hid hw; have HRJ := Lib.hid rJ; have HT := Lib.hid ht; have HWN := Lib.hid hwn
 have c4 := hD.c4 W hS.hd
 have a0 : W.cell? ⟨ba, 0, none⟩ = some (.int .i64 (t : Int)) := hS.at_.cell 0
 have af := hS.at_.frozen 0
 have hw1 : wrap64 ((t : Int) + 1) = (t : Int) + 1 := by unfold wrap64; omega
 have hkk : ((K : Int) == (K : Int)) = true := by simp
 have HA1 : Hid (Blk (W.setCell ⟨ba, 0, none⟩ (.int .i64 ((t : Int) + 1))) ba 3 [.int .i64 ((t : Int) + 1)]) := hS.at_.set_ 0 _
 have HO1 : Hid (Off (fun i => i = ba) W (W.setCell ⟨ba, 0, none⟩ (.int .i64 ((t : Int) + 1)))) := Off.setCell W ⟨ba, 0, none⟩ _ fun _ => rfl
 have HH1 : Hid (Hd Wz Dp (W.setCell ⟨ba, 0, none⟩ (.int .i64 ((t : Int) + 1)))) := hS.hd.off hD.lt HO1.out fun i hi e => hD.nb (e ▸ hi)
 have HJ1 : Hid (J t X (W.setCell ⟨ba, 0, none⟩ (.int .i64 ((t : Int) + 1)))) := rJ.on _ _ _ _ hS.j (HO1.out.on fun i hi => ⟨rJ.lt _ _ _ hS.j i hi, fun e => hS.nb (e ▸ hi)⟩)
 clear hD hY hS hw rJ ht hwn
 go_enter Tryz.func69, Tryz.ntmps69
 go_upto_region 3 with fail
 clear c4 a0 af
 have HW1 : Hid (SI (W.setCell ⟨ba, 0, none⟩ (.int .i64 ((t : Int) + 1))) wv (L.getD t [])) := hid' (HW.out.grown (gr_set1 W ba 0 _) fun _ g hg e => HWN.out g hg (Option.some.inj e).symm)
 have hsz1 : (W.setCell ⟨ba, 0, none⟩ (.int .i64 ((t : Int) + 1))).heap.size = W.heap.size := by show (W.heap.modify _ _).size = _; rw [Array.size_modify]
 have HSZ := Lib.hid hsz1
 rw [hw1]
 clear hw1 hsz1
 generalize W.setCell ⟨ba, 0, none⟩ (.int .i64 ((t : Int) + 1)) = W1 at *
 have y0 : W1.cell? ⟨by_, 0, none⟩ = some (.func (.yield l) #[] #[]) := HD.out.yl W1 HH1.out
 have a1 : W1.cell? ⟨ba, 0, none⟩ = some (.int .i64 ((t : Int) + 1)) := HA1.out.cell 0
 have ht6 : t ≤ 1000000 := by have := HT.out; omega
 have hw2 : wrap64 (t : Int) = (t : Int) := by unfold wrap64; omega
 have hw4 : IntKind.i64.wrap (t : Int) = (t : Int) := IntWalk.i64_in _ (by omega)
 have hw3 : (t : Int) + 1 - 1 = (t : Int) := by omega
 have hmix : Tryz.prog.follows .mixedOrders = true := by kernel_rfl
 clear ht6
 refine (wpIn_wide (n := 3)).1 ?_
 gi_region_with_o (first
  | (refine ⟨trivial, ?_⟩; gi_at_call 70; refine (callsIn_wide.2 (clone_any _ wv (L.getD t []) (HW1.out.below (bl_drew W1) (Nat.le_refl _)))).mono ?_; rintro e w5 ⟨u, rfl, ho, hb⟩; have hb := bl_trans (bl_drew W1) hb; have y5 := cell_below hb y0; have a5 := cell_below hb a1; have HB5 := Lib.hid hb; have HO5 := Lib.hid ho; clear ho hb; obtain ⟨fn, tmps, assign, body, hy, hR⟩ := HY.out t X w5 u HT.out (HRJ.out.on _ _ _ _ HJ1.out ((bel_off (X := fun _ => False) HB5.out).on fun i hi => ⟨HRJ.out.lt _ _ _ HJ1.out i hi, fun k => k⟩)) (HO5.out.si HW1.out.len' HWF.out) (fun i hi => ⟨(HO5.out.lt hi).2, fun hx => by have h1 := HRJ.out.lt _ _ _ HJ1.out i hx; have h2 := (HO5.out.lt hi).1; exact absurd h1 (Nat.not_lt_of_le h2)⟩); have HRR := Lib.hid hR; clear hR)
  | (refine ⟨fun h => (by cases h), ?_⟩; refine HRR.out.mono ?_; rintro e W6 hr; obtain ⟨b, rfl, hq⟩ := roundZ_b hr; have H6 := Lib.hid hq; clear hr hq)
  | (refine HRR.out.mono ?_; rintro e W6 hr; obtain ⟨b, rfl, hq⟩ := roundZ_b hr; have H6 := Lib.hid hq; clear hr hq)
  | fail)
 all_goals
  go_wp2_with fail
  go_ret
  exact from_end HS.out HRJ.out HD.out.lt HD.out.nb HO1.out HSZ.out HA1.out HB5.out HO5.out HT.out H6.out
end Go.Proofs.YtodgdoglhecolaaGreat
namespace Go.Proofs.YtodgdoglhecolaaGreat
open Go.RowKit
set_option maxRecDepth 100000
theorem Off.trans2 {X Y : Nat → Prop} {A B C : World} (h : Off X A B) (k : Off Y B C) (hy : ∀ i, i < A.heap.size → Y i → X i) : Off X A C :=
 ⟨k.os.trans h.os, k.tape.trans h.tape, k.output.trans h.output, Nat.le_trans h.size k.size, fun i hi hx => (k.block i (Nat.lt_of_lt_of_le hi h.size) fun hyi => hx (hy i hi hyi)).trans (h.block i hi hx)⟩
theorem SI.off {X : Nat → Prop} {W W' : World} {v : Value} {xs : List Int} (h : SI W v xs) (ho : Off X W W') (hn : ∀ i, v.ownBlock = some i → ¬ X i) : SI W' v xs := by
 obtain ⟨A, c, rfl, hs⟩ := h
 refine ⟨A, c, rfl, hs.len, hs.cap, fun k hk => ?_, hs.wf⟩
 obtain ⟨ad, e, hc⟩ := hs.cell k hk
 refine ⟨ad, e, ?_⟩
 subst e
 have hb := World.block_lt_of_cell? _ _ hc
 rw [World.cell?_of_block (ho.block _ hb (by rw [block_of_add]; exact hn ad.block rfl))]
 exact hc
def FromAt (Wz : World) (Dp Kp : Nat → Prop) (J Jx : Nat → (Nat → Prop) → World → Prop) (O : FOps) (q N K : Nat) (gen L : List (List Int)) (cb ba by_ bg bf r : Nat) : Prop :=
 ∀ (row s : Nat) (X : Nat → Prop) (W : World) (wv : Value), row + r = K → s < q ^ row → WS Wz Dp Kp ba J (s * q ^ r) X W → SI W wv (pwL O q N gen row s) → (∀ i, wv.ownBlock = some i → i ≠ ba ∧ ¬ X i) →
  Calls Tryz.prog 69 #[.int .i64 (row : Int), wv, .pointer (some ⟨cb, 0, none⟩), .pointer (some ⟨ba, 0, none⟩), .pointer (some ⟨by_, 0, none⟩), .pointer (some ⟨bg, 0, none⟩), .pointer (some ⟨bf, 0, none⟩)] W (FromPost Wz Dp Kp ba J Jx L.length ((s + 1) * q ^ r) X W)
set_option maxHeartbeats 32000000 in
theorem from_succ {Wz : World} {Dp Kp : Nat → Prop} {P M : Int} {Mod : List Int} {gen L : List (List Int)} {GA : Option Addr} {K N q gc cb ba by_ bg bf a l r : Nat} (hD : WD Wz Dp P M Mod gen GA K gc cb ba by_ bg bf a l)
   {J Jx : Nat → (Nat → Prop) → World → Prop} (rJ : Rests J) (hq : orderF P M = (q : Int)) (hf : FieldP P M Mod) (hK : gen.length = K) (hK2 : K ≤ 1000) (hN1 : 1 ≤ N) (hN : N ≤ 1000) (hR : Rows (q : Int) N gen)
   (IH : FromAt Wz Dp Kp J Jx (refOps P M Mod) q N K gen L cb ba by_ bg bf r) : FromAt Wz Dp Kp J Jx (refOps P M Mod) q N K gen L cb ba by_ bg bf (r + 1) := by
 intro row s X W wv hrow hs hS hw hwn
 have hO := ref_fld hf
 rw [hq] at hO
 have hq2 : 2 ≤ q := by have := hO.lt.pos; omega
 have hq6 : q ≤ 256 := by have := orderF_bounds P M; omega
 have HD := Lib.hid hD; have HRJ := Lib.hid rJ; have HIH := Lib.hid IH; have HW := Lib.hid hw; have HWN := Lib.hid hwn
 have HQ := Lib.hid hq
 have HFO := Lib.hid hf.1
 have HPL : Hid (∀ j, 0 ≤ (pwL (refOps P M Mod) q N gen row s).getD j 0 ∧ (pwL (refOps P M Mod) q N gen row s).getD j 0 < (q : Int)) := hid' (pwL_rng hO N gen row s)
 have HNX : Hid (∀ a, a < q → pwL (refOps P M Mod) q N gen (row + 1) (s * q + a) = rowOf N fun j => addF P M ((pwL (refOps P M Mod) q N gen row s).getD j 0) (mulR P M Mod (a : Int) (ent gen row j))) := hid' fun a ha => pwL_next ha
 have HAZ : Hid (∀ x, 0 ≤ x → x < (q : Int) → ∀ a y, (a = 0 ∨ y = 0) → addF P M x (mulR P M Mod a y) = x) := hid' fun x h1 h2 a y h => by
   have e : mulR P M Mod a y = 0 := by
     rcases h with rfl | rfl
     · exact hO.zero_mul y
     · exact hO.mul_zero a
   rw [e]; exact hO.add_zero x h1 h2
 have HNL : Hid (∀ a, a < q → s * q + a < q ^ (row + 1)) := hid' fun a ha => by
   rw [Nat.pow_succ]
   have := Nat.mul_le_mul_right q (show s + 1 ≤ q ^ row from hs)
   rw [Nat.add_mul, Nat.one_mul] at this; omega
 have HPL2 : Hid ((pwL (refOps P M Mod) q N gen row s).length = N) := hid' (pwL_len _ _ _ _ _ _)
 have HGL := Lib.hid hK; have HGR := Lib.hid hR
 obtain ⟨pw, hpw⟩ : ∃ pw, pw = pwL (refOps P M Mod) q N gen row s := ⟨_, rfl⟩
 rw [← hpw] at HW HPL HNX HPL2
 clear hpw
 have hrK : row < K := by omega
 have c4 := hD.c4 W hS.hd
 have g0 := hD.gp W hS.hd
 have HGF := Lib.hid (hD.gf W hS.hd)
 have k1 : ((row : Int) == (K : Int)) = false := by rw [beq_eq_false_iff_ne]; omega
 have HS0 : Hid (∃ X', WS Wz Dp Kp ba J ((s * q + 0) * q ^ r) X' W ∧ (∀ i, X' i → X i ∨ W.heap.size ≤ i) ∧ Off (fun i => X i ∨ i = ba) W W) := hid' ⟨X, by rw [Nat.add_zero, show s * q * q ^ r = s * q ^ (r + 1) by rw [Nat.pow_succ', Nat.mul_assoc]]; exact hS, fun i hi => .inl hi, Off.refl _ _⟩
 have HEN : Hid ((s * q + q) * q ^ r = (s + 1) * q ^ (r + 1)) := hid' (by rw [Nat.pow_succ', ← Nat.mul_assoc, Nat.add_mul s 1 q, Nat.one_mul])
 have HRW : Hid (row + 1 + r = K) := hid' (by omega)
 have HXS : Hid (∀ i, X i → i < W.heap.size) := hid' (rJ.lt _ _ _ hS.j)
 have HBS : Hid (ba < W.heap.size) := hid' hS.at_.lt
 clear hD rJ hq hf hK IH hrow hs hS hw hwn hO hR
 go_enter Tryz.func69, Tryz.ntmps69
 go_wp2_with fail
 refine (gorder_any _ a P M Mod HGF.out).mono ?_
 rintro e w0 ⟨rfl, rfl⟩
 rw [HQ.out]
 clear c4 g0
 go_wp2_with fail
 go_loopw [10, 11, 29] (fun _ _ i wr => ∃ x : Nat, x ≤ q ∧ i = .int .i64 (x : Int) ∧ Hid (∃ X', WS Wz Dp Kp ba J ((s * q + x) * q ^ r) X' wr ∧ (∀ i, X' i → X i ∨ W.heap.size ≤ i) ∧ Off (fun i => X i ∨ i = ba) W wr)) (fun _ _ i _ => q - (intOf i).toNat)
 case atStart => exact ⟨0, Nat.zero_le _, rfl, HS0⟩
 case round =>
   clear HS0
   obtain ⟨x, hx, rfl, HSX⟩ := hrel
   obtain ⟨Xa, hSa, hXa, hOa⟩ := HSX.out
   have HSA := Lib.hid hSa; have HXA := Lib.hid hXa; have HOA := Lib.hid hOa
   clear hSa hXa hOa HSX
   generalize wr = wo at *
   by_cases hxq : x < q
   · have e1 : decide (x < q) = true := decide_eq_true hxq
     have HWO : Hid (SI wo wv pw) := hid' (HW.out.off HOA.out fun i hi h => by rcases h with h | h; exact (HWN.out i hi).2 h; exact (HWN.out i hi).1 h)
     have c4o := HD.out.c4 wo HSA.out.hd
     obtain ⟨ad, Ak, ck, xs, hga, hcco, HX, HXE⟩ := (HD.out.gn wo HSA.out.hd).eltA (k := row) (by rw [HGL.out]; exact hrK)
     have HXL : Hid (xs.length = N ∧ ∀ j, ent gen row j = xs.getD j 0) := hid' ⟨by rw [← HXE.out]; exact (HGR.out row (by rw [HGL.out]; exact hrK)).1, fun j => by unfold ent; rw [HXE.out]⟩
     have HXR : Hid (∀ j, 0 ≤ xs.getD j 0 ∧ xs.getD j 0 < (q : Int)) := hid' fun j => by
       have := (HGR.out row (by rw [HGL.out]; exact hrK)).2 j
       rw [HXE.out] at this; exact this
     have hx1 := HX.out.si
     rw [HXL.out.1] at hcco hx1
     have HX1 := Lib.hid hx1
     rw [hga] at c4o
     clear hga hx1 HX
     go_wp2_with fail
     refine (clone_any wo wv pw HWO.out).mono ?_
     rintro e w1 ⟨u, rfl, ho, hb1⟩
     obtain ⟨g, c, rfl, hg0, hg1⟩ := ho.form (by rw [HPL2.out]; exact hN1)
     rw [HPL2.out] at ho ⊢
     have HGO := Lib.hid hg0
     obtain ⟨f, hfe⟩ : ∃ f : Nat → Int, f = fun j => addF P M (pw.getD j 0) (mulR P M Mod (x : Int) (ent gen row j)) := ⟨_, rfl⟩
     have HF : Hid (∀ j, f j = addF P M (pw.getD j 0) (mulR P M Mod (x : Int) (xs.getD j 0))) := hid' fun j => by rw [hfe]; dsimp only; rw [HXL.out.2 j]
     have HFN : Hid (rowOf N f = pwL (refOps P M Mod) q N gen (row + 1) (s * q + x)) := hid' (by rw [HNX.out x hxq, hfe])
     have HO0 : Hid (OI wo.heap.size w1 (.slice (some ⟨g, 0, none⟩) N c) (fillTo N f (fun j => pw.getD j 0) 0)) := hid' (by rw [fillTo_zero, rowOf_self HPL2.out]; exact ho)
     have HB1 := Lib.hid hb1
     have c4 := cell_below hb1 c4o
     have hcc := cell_below hb1 hcco
     clear ho hb1 hg0 hg1 hfe c4o hcco
     go_wp2_with fail
     clear c4 hcc
     go_loopw [12, 13, 40] (fun _ _ i wr => ∃ j : Nat, j ≤ N ∧ i = .int .i64 (j : Int) ∧ Hid (OI wo.heap.size wr (.slice (some ⟨g, 0, none⟩) N c) (fillTo N f (fun j => pw.getD j 0) j)) ∧ Hid (Below wo.heap.size wo wr)) (fun _ _ i _ => N - (intOf i).toNat)
     case atStart => exact ⟨0, Nat.zero_le _, rfl, HO0, HB1⟩
     case round =>
       clear HO0 HB1
       obtain ⟨j, hj, rfl, HO, HB⟩ := hrel
       have HSr := Lib.hid (HSA.out.bel HRJ.out HD.out.lt HB.out)
       by_cases hjN : j < N
       · have e2 : decide (j < N) = true := decide_eq_true hjN
         obtain ⟨xd, y, rfl, hyc, _, HYY⟩ := (HX1.out.below HB.out (Nat.le_refl _)).elt (k := j) (by rw [HXL.out.1]; exact hjN)
         have d1 := HO.out.cell j (by rw [fillTo_len]; exact hjN)
         rw [fillTo_getD hjN] at d1
         have f1 := HO.out.frozen j
         have HFJ : Hid (f j = addF P M (pw.getD j 0) (mulR P M Mod (x : Int) y)) := hid' (by rw [HF.out, HYY.out])
         have HSTY : Hid (((x : Int) = 0 ∨ y = 0) → fillTo N f (fun j => pw.getD j 0) (j + 1) = fillTo N f (fun j => pw.getD j 0) j) := hid' fun h => fillTo_stay fun _ => by
           rw [HFJ.out]; exact HAZ.out _ (HPL.out j).1 (HPL.out j).2 _ _ h
         have HSET := Lib.hid (fillTo_set (f := f) (g := fun j => pw.getD j 0) hjN)
         rw [HFJ.out] at HSET
         generalize pw.getD j 0 = z at *
         by_cases hx0 : (x : Int) = 0
         · have k2 : ((x : Int) != 0) = false := by rw [bne_eq_false_iff_eq]; exact hx0
           have HSN := Lib.hid (HSTY.out (.inl hx0))
           clear hx0
           go_wp2_with fail
           exact ⟨⟨j + 1, by omega, by push_cast; rfl, by rw [HSN.out]; exact HO, HB⟩, by simp only [intOf]; omega⟩
         have k2 : ((x : Int) != 0) = true := by rw [bne_iff_ne]; exact hx0
         by_cases hy0 : y = 0
         · have k3 : (y != 0) = false := by rw [bne_eq_false_iff_eq]; exact hy0
           have HSN := Lib.hid (HSTY.out (.inr hy0))
           clear hx0 hy0
           go_wp2_with fail
           exact ⟨⟨j + 1, by omega, by push_cast; rfl, by rw [HSN.out]; exact HO, HB⟩, by simp only [intOf]; omega⟩
         have k3 : (y != 0) = true := by rw [bne_iff_ne]; exact hy0
         have g0 := HD.out.gp wr HSr.out.hd
         have HGr := Lib.hid (HD.out.gf wr HSr.out.hd)
         clear hx0 hy0
         go_wp2_with fail
         refine Drawn.start (S := fun w' => w'.cell? ⟨bg, 0, none⟩ = some (.pointer (some ⟨a, 0, none⟩)) ∧ w'.cell? ⟨g, j, none⟩ = some (.int .i64 z)) (by kernel_rfl) (⟨g0, d1⟩) (fun hHeld => ?_)
         change Drawn _ _ _ _ 14 _ _ _
         refine Drawn.tk 0 (v := ?_) rfl ?_ hHeld ?_
         rotate_left
         · intro w' h; (try dsimp only at h); go_simp <;> with_reducible rfl
         try simp only [tda, tdb, tdc, Act.put, tdd, tde, tdf]
         refine Drawn.tk 1 (v := ?_) rfl ?_ hHeld ?_
         rotate_left
         · intro w' h; (try dsimp only at h); go_simp <;> with_reducible rfl
         try simp only [tda, tdb, tdc, Act.put, tdd, tde, tdf]
         refine Drawn.tk 2 (v := ?_) rfl ?_ hHeld ?_
         rotate_left
         · intro w' h; (try dsimp only at h); go_simp <;> with_reducible rfl
         try simp only [tda, tdb, tdc, Act.put, tdd, tde, tdf]
         refine Drawn.tk 3 (v := ?_) rfl ?_ hHeld ?_
         rotate_left
         · intro w' h; (try dsimp only at h); go_simp <;> with_reducible rfl
         try simp only [tda, tdb, tdc, Act.put, tdd, tde, tdf]
         refine Drawn.tk 4 (v := ?_) rfl ?_ hHeld ?_
         rotate_left
         · intro w' h; (try dsimp only at h); go_simp <;> with_reducible rfl
         try simp only [tda, tdb, tdc, Act.put, tdd, tde, tdf]
         refine Drawn.tk 5 (v := ?_) rfl ?_ hHeld ?_
         rotate_left
         · intro w' h; (try dsimp only at h); go_simp <;> with_reducible rfl
         try simp only [tda, tdb, tdc, Act.put, tdd, tde, tdf]
         refine Drawn.tk 6 (v := ?_) rfl ?_ hHeld ?_
         rotate_left
         · intro w' h; (try dsimp only at h); go_simp <;> with_reducible rfl
         try simp only [tda, tdb, tdc, Act.put, tdd, tde, tdf]
         refine Drawn.tk 7 (v := ?_) rfl ?_ hHeld ?_
         rotate_left
         · intro w' h; (try dsimp only at h); go_simp <;> with_reducible rfl
         try simp only [tda, tdb, tdc, Act.put, tdd, tde, tdf]
         refine Drawn.tk 8 (v := ?_) rfl ?_ hHeld ?_
         rotate_left
         · intro w' h; (try dsimp only at h); go_simp <;> with_reducible rfl
         try simp only [tda, tdb, tdc, Act.put, tdd, tde, tdf]
         refine Drawn.tk 9 (v := ?_) rfl ?_ hHeld ?_
         rotate_left
         · intro w' h; (try dsimp only at h); go_simp <;> with_reducible rfl
         try simp only [tda, tdb, tdc, Act.put, tdd, tde, tdf]
         refine Drawn.only (i := 10) (by kernel_rfl) rfl (fun K hK => ?_)
         go_simp
         refine (gmul_any _ a P M (x : Int) y Mod (HGr.out.on (bl_drew wr))).mono ?_; rintro e w3 ⟨rfl, hb⟩; have hb := bl_trans (bl_drew wr) hb; have HG3 := Lib.hid (HGr.out.on hb); have HB3 := Lib.hid (bl_trans HB.out hb); have HO3 := Lib.hid (HO.out.below hb (Nat.le_refl _)); have g3 := cell_below hb g0; have d3 := cell_below hb d1; clear hb
         refine hK.out _ _ (fun _ => ⟨g3, d3⟩) (fun hHeld2 => ?_)
         clear hK K
         replace hHeld := hHeld2 (by decide)
         clear hHeld2
         try simp only [tda, tdb, tdc, Act.put, tdd, tde, tdf]
         refine Drawn.only (i := 11) (by kernel_rfl) rfl (fun K hK => ?_)
         go_simp
         refine (gadd_any _ a P M z _ Mod HG3.out).mono ?_; rintro e w4 ⟨rfl, hb⟩; have HB4 := Lib.hid (bl_trans HB3.out hb); have HO4 := Lib.hid (HO3.out.below hb (Nat.le_refl _)); have g4 := cell_below hb g3; have d4 := cell_below hb d3; have f4 := HO4.out.frozen j; clear hb
         refine hK.out _ _ (fun _ => ⟨g4, d4⟩) (fun hHeld2 => ?_)
         clear hK K
         replace hHeld := hHeld2 (by decide)
         clear hHeld2
         try simp only [tda, tdb, tdc, Act.put, tdd, tde, tdf]
         refine Drawn.tk 12 (v := ?_) rfl ?_ hHeld ?_
         rotate_left
         · intro w' h; (try dsimp only at h); go_simp <;> with_reducible rfl
         try simp only [tda, tdb, tdc, Act.put, tdd, tde, tdf]
         refine Drawn.only (i := 13) (by kernel_rfl) rfl (fun K hK => ?_)
         go_simp
         refine hK.out _ _ (fun h => absurd rfl h) (fun hHeld2 => ?_)
         clear hK K
         clear hHeld2
         refine Drawn.done (by kernel_rfl) ?_
         try simp only [tda, tdb, tdc, Act.put, tdd, tde, tdf]
         clear hHeld
         have HO5 := Lib.hid (HO4.out.set j (addF P M z (mulR P M Mod (x : Int) y)))
         rw [HSET.out] at HO5
         have HB5 := Lib.hid (HB4.out.setCell (p := ⟨g, j, none⟩) HGO.out (.int .i64 (addF P M z (mulR P M Mod (x : Int) y))))
         clear g0 d1 f1 g3 d3 g4 d4 hyc
         go_wp2_with fail
         exact ⟨⟨j + 1, by omega, by push_cast; rfl, HO5, HB5⟩, by simp only [intOf]; omega⟩
       · have e2 : decide (j < N) = false := decide_eq_false hjN
         obtain rfl : N = j := by omega
         rw [fillTo_full, HFN.out] at HO
         have HNS : Hid (SI wr (.slice (some ⟨g, 0, none⟩) N c) (pwL (refOps P M Mod) q N gen (row + 1) (s * q + x))) := hid' (by
           have h := HO.out.si (by rw [pwL_len]; omega) (fun k => by
             rw [← HFN.out]
             by_cases hk : k < N
             · rw [rowOf_getD hk, HF.out]
               have := addF_lt HFO.out (pw.getD k 0) (mulR P M Mod (x : Int) (xs.getD k 0))
               have := orderF_bounds P M
               exact I64.of_small (by omega) (by omega)
             · rw [getD_len (by rw [rowOf_len]; omega)]; exact I64.zero)
           exact h)
         have frc : wr.cell? ⟨bf, 0, none⟩ = some (.func (.func 69) #[] #[.pointer (some ⟨cb, 0, none⟩), .pointer (some ⟨ba, 0, none⟩), .pointer (some ⟨by_, 0, none⟩), .pointer (some ⟨bg, 0, none⟩), .pointer (some ⟨bf, 0, none⟩)]) := HD.out.fr wr HSr.out.hd
         have HCALL := Lib.hid (HIH.out (row + 1) (s * q + x) Xa wr (.slice (some ⟨g, 0, none⟩) N c) HRW.out (HNL.out x hxq) HSr.out HNS.out (fun i hi => by
           have e : g = i := by simpa [Value.ownBlock] using hi
           subst e
           have h1 := HGO.out
           have h2 := HBS.out
           have h3 := HOA.out.size
           exact ⟨by omega, fun h => by have := HRJ.out.lt _ _ _ HSA.out.j _ h; omega⟩))
         have hw1 : wrap64 ((row : Int) + 1) = (row : Int) + 1 := by unfold wrap64; omega
         rw [show ((row + 1 : Nat) : Int) = (row : Int) + 1 by push_cast; rfl] at HCALL
         go_wp2_with fail
         refine HCALL.out.mono ?_
         rintro e w5 (⟨rfl, X5, hS5, hX5, hO5⟩ | ⟨rfl, k5, X5, hk5, hj5⟩)
         · have HS5 : Hid (∃ X', WS Wz Dp Kp ba J ((s * q + (x + 1)) * q ^ r) X' w5 ∧ (∀ i, X' i → X i ∨ W.heap.size ≤ i) ∧ Off (fun i => X i ∨ i = ba) W w5) := hid' (by
             have h3 := HOA.out.size
             have h4 := HB.out.size
             refine ⟨X5, by rw [← Nat.add_assoc]; exact hS5, fun i hi => ?_, ?_⟩
             · rcases hX5 i hi with h | h
               · exact HXA.out i h
               · exact .inr (by omega)
             · refine (HOA.out.trans (bel_off HB.out)).trans2 hO5 fun i hi h => ?_
               rcases h with h | h
               · rcases HXA.out i h with h2 | h2
                 · exact .inl h2
                 · omega
               · exact .inr h)
           clear hS5 hX5 hO5 frc
           go_wp2_with fail
           exact ⟨⟨x + 1, by omega, by push_cast; rfl, HS5⟩, by simp only [intOf]; omega⟩
         · have HJ5 : Hid (∃ k X', k < L.length ∧ Jx (k + 1) X' w5) := hid' ⟨k5, X5, hk5, hj5⟩
           clear hk5 hj5 frc
           go_wp2_with fail
           go_ret
           exact .inr ⟨rfl, HJ5.out⟩
   · have e1 : decide (x < q) = false := decide_eq_false hxq
     obtain rfl : q = x := by omega
     have HFIN : Hid (∃ X', WS Wz Dp Kp ba J ((s + 1) * q ^ (r + 1)) X' wo ∧ (∀ i, X' i → X i ∨ W.heap.size ≤ i) ∧ Off (fun i => X i ∨ i = ba) W wo) := hid' ⟨Xa, by rw [← HEN.out]; exact HSA.out, HXA.out, HOA.out⟩
     go_wp2_with fail
     go_ret
     exact .inl ⟨rfl, HFIN.out⟩
theorem from_all {Wz : World} {Dp Kp : Nat → Prop} {P M : Int} {Mod : List Int} {gen : List (List Int)} {GA : Option Addr} {K N q gc cb ba by_ bg bf a l : Nat} (hD : WD Wz Dp P M Mod gen GA K gc cb ba by_ bg bf a l)
  {J Jx : Nat → (Nat → Prop) → World → Prop} (rJ : Rests J) (hq : orderF P M = (q : Int)) (hf : FieldP P M Mod) (hK : gen.length = K) (hK2 : K ≤ 1000) (hN1 : 1 ≤ N) (hN : N ≤ 1000) (hR : Rows (q : Int) N gen) (hLb : q ^ K ≤ 1000000)
  (hY : ∀ k X1 W1 u, k < (wordsL (refOps P M Mod) q N gen).length → J k X1 W1 → SI W1 u ((wordsL (refOps P M Mod) q N gen).getD k []) → (∀ i, u.ownBlock = some i → i < W1.heap.size ∧ ¬ X1 i) → YieldAt Fence.wide 2 Tryz.prog l #[.int .i64 (k : Int), u] W1 (RoundZ Kp J Jx k X1 u W1)) :
  ∀ r, FromAt Wz Dp Kp J Jx (refOps P M Mod) q N K gen (wordsL (refOps P M Mod) q N gen) cb ba by_ bg bf r
 | 0 => fun row s X W wv hrow hs hS hw hwn => by
  obtain rfl : row = K := by omega
  have hs2 : s < q ^ gen.length := by rw [hK]; exact hs
  have := from_zero (L := wordsL (refOps P M Mod) q N gen) hD rJ (by rw [wordsL_len, hK]; exact hLb) hY (t := s) (by rw [wordsL_len]; exact hs2) (X := X) (W := W) (by rw [Nat.pow_zero, Nat.mul_one] at hS; exact hS) (wv := wv) (by rw [wordsL_at hs2, hK]; exact hw) fun i hi => (hwn i hi).1
  rw [Nat.pow_zero, Nat.mul_one]
  exact this
 | r + 1 => from_succ hD rJ hq hf hK hK2 hN1 hN hR (from_all hD rJ hq hf hK hK2 hN1 hN hR hLb hY r)
set_option maxHeartbeats 8000000 in
theorem mVec_ok (w : World) (P M : Int) (n : Nat) (mv rv xv : Value) (Mod x : List Int) (rows : List (List Int)) (hm : SI w mv Mod) (hv : SS w rv rows) (hx : SI w xv x) (he : matE P M Mod n rows = 0) (hxl : x.length = rows.length) (hxe : entriesF (orderF P M) x = 0) :
  Calls Tryz.prog 74 #[.agg #[.int .i64 P, .int .i64 M, mv], xv, .agg #[.int .i64 (n : Int), rv]] w (RetLE w (combL (refOps P M Mod) x rows n) 0) := by
 have HM := Lib.hid hm; have HV := Lib.hid hv; have HX := Lib.hid hx; clear hm
 obtain ⟨hf, _, hn, hr, hR⟩ := matE_zero he
 rw [Int.toNat_natCast] at hR
 have HR := Lib.hid hR
 have HE := Lib.hid he
 have HXE := Lib.hid hxe
 have HXL := Lib.hid hxl
 have HOF := orderF_bounds P M
 have HCI : Hid (∀ k, I64 ((combL (refOps P M Mod) x rows n).getD k 0)) := hid' fun k => by
  have h := combTo_rng (refOps_lt hf.1 Mod) x rows n (min rows.length x.length) k
  exact I64.of_small (by unfold combL; omega) (by unfold combL; omega)
 have HCL : Hid ((combL (refOps P M Mod) x rows n).length = n) := hid' (combTo_len _ _ _ _ _)
 clear he hR hf hxe
 obtain ⟨RA, rc, rfl, _⟩ := hv
 obtain ⟨XA, xc, rfl, _⟩ := hx
 rw [hxl] at HX ⊢
 obtain ⟨r0, hrr⟩ : ∃ r0, r0 = rows.length := ⟨_, rfl⟩
 rw [← hrr] at HV HX hr ⊢
 have HRR := Lib.hid hrr; clear hrr hxl
 have HVC := Lib.hid (fun (w' : World) (a : Nat) (hg : GF w' a P M Mod) (hb : Below w.heap.size w w') => mvec_any w' a P M n Mod x _ _ rows hg (HX.out.below hb (Nat.le_refl _)) (HV.out.below hb (Nat.le_refl _)) HR.out HXL.out (by omega))
 obtain ⟨w1, hw1⟩ : ∃ w1, w1 = (w.alloc (.cells #[.int .i64 P, .int .i64 M, mv] 24)).alloc (.cells #[.int .i64 (n : Int), .slice RA r0 rc] 27) := ⟨_, rfl⟩
 have HQ : Hid (FMBox w w1 P M mv n (.slice RA r0 rc)) := hid' (by rw [hw1]; exact FMBox.mk' w P M mv n _)
 have hsz : w1.heap.size = w.heap.size + 1 + 1 := by rw [hw1, World.size_alloc, World.size_alloc]
 have HW1 := Lib.hid hw1.symm; clear hw1
 go_enter Tryz.func74, Tryz.ntmps74
 go_upto_region 1 with fail
 rw [HW1.out]
 clear HW1
 have c0 := HQ.out.fb.c0; have c1 := HQ.out.fb.c1; have c2 := HQ.out.fb.c2; have d0 := HQ.out.d0; have d1 := HQ.out.d1
 go_wp2_with fail
 refine (mopen_ok w w1 P M n _ mv _ Mod rows HQ.out.fb.bel hsz HM.out HV.out HE.out).mono ?_
 rintro e w2 ⟨a, rfl, hg, hb2⟩
 have HG := Lib.hid hg
 have HQ2 := Lib.hid (HQ.out.on hb2)
 clear hg hb2 c0 c1 c2 d0 d1 HQ
 have d0 := HQ2.out.d0; have d1 := HQ2.out.d1
 have hrb : ((r0 : Int) != (r0 : Int)) = false := by simp
 go_wp2_with fail
 clear hrb
 refine (mentries_any w2 a P M Mod x _ HG.out (HX.out.below HQ2.out.fb.bel (Nat.le_refl _))).mono ?_
 rintro e w3 ⟨rfl, rfl⟩
 rw [HXE.out]
 go_wp2_with fail
 refine (HVC.out w2 a HG.out HQ2.out.fb.bel).mono ?_
 rintro e w4 ⟨u, rfl, ho, hb4⟩
 have HO := Lib.hid ho
 have HB := Lib.hid (bl_trans HQ2.out.fb.bel hb4)
 have hs2 := HQ2.out.fb.bel.size
 clear ho hb4 d0 d1
 go_wp2_with fail
 go_ret2
 exact ⟨_, rfl, HO.out.si (by rw [HCL.out]; omega) HCI.out, HO.out.new hs2, HB.out⟩
set_option maxHeartbeats 16000000 in
theorem cEncode_any (w : World) (P M n : Int) (mv gv lv : Value) (Mod l : List Int) (gen : List (List Int)) (hm : SI w mv Mod) (hg : SS w gv gen) (hl : SI w lv l) :
  Calls Tryz.prog 24 #[.agg #[.int .i64 P, .int .i64 M, mv, .int .i64 n, gv], lv] w (RetLE w (encL P M Mod n gen l) (encE P M Mod n gen l)) := by
 have HCK := Lib.hid (fun (w' : World) (hb : Below w.heap.size w w') => cCheck_any w' P M n mv gv Mod gen (hm.below hb (Nat.le_refl _)) (hg.below hb (Nat.le_refl _)))
 by_cases hE : codeE P M Mod n gen = 0
 case neg =>
  have HE : Hid (encE P M Mod n gen l = codeE P M Mod n gen) := hid' (by unfold encE; rw [if_neg hE])
  have HL : Hid (encL P M Mod n gen l = []) := hid' (by unfold encL; rw [HE.out, if_neg hE])
  rw [HE.out, HL.out]
  have e1 : (codeE P M Mod n gen == 0) = false := by rw [beq_eq_false_iff_ne]; exact hE
  have e2 : (codeE P M Mod n gen != 0) = true := by rw [bne_iff_ne]; exact hE
  generalize codeE P M Mod n gen = er at *
  clear hE hm hg hl HE HL
  have HF := Lib.hid (CBox.mk' w P M mv n gv)
  go_enter Tryz.func24, Tryz.ntmps24
  go_upto_region 1 with fail
  generalize w.alloc (.cells #[.int .i64 P, .int .i64 M, mv, .int .i64 n, gv] 34) = w0 at *
  have c0 := HF.out.c0; have c1 := HF.out.c1; have c2 := HF.out.c2; have c3 := HF.out.c3; have c4 := HF.out.c4
  go_wp2_with fail
  refine (HCK.out w0 HF.out.bel).mono ?_
  rintro e w1 ⟨rfl, hb1⟩
  have HF1 := Lib.hid (HF.out.on hb1)
  clear hb1 c0 c1 c2 c3 c4
  go_wp2_with fail
  go_ret2
  exact RetLE.nil w er HF1.out.bel
 obtain ⟨hf, hn1, hn2, hgl, hR, hcan⟩ := codeE_zero hE
 obtain ⟨N, rfl⟩ : ∃ N : Nat, n = (N : Int) := ⟨n.toNat, by omega⟩
 rw [Int.toNat_natCast] at hR hcan
 have HLI := Lib.hid (fun (w' : World) (hb : Below w.heap.size w w') => cList_any w' P M gen.length mv lv Mod l (hm.below hb (Nat.le_refl _)) (hl.below hb (Nat.le_refl _)) hf)
 have HEE : Hid (encE P M Mod N gen l = listF (orderF P M) l gen.length) := hid' (by unfold encE; rw [if_pos hE])
 rw [hE] at HCK
 have HS := Lib.hid hg
 obtain ⟨GA, gc, rfl, _⟩ := hg
 by_cases hli : listF (orderF P M) l gen.length = 0
 case neg =>
  have HL : Hid (encL P M Mod N gen l = []) := hid' (by unfold encL; rw [HEE.out, if_neg hli])
  rw [HEE.out, HL.out]
  have e2 : (listF (orderF P M) l gen.length != 0) = true := by rw [bne_iff_ne]; exact hli
  clear hE hm hl hli HL HEE hR hcan hf hgl HS
  generalize listF (orderF P M) l gen.length = er at *
  generalize gen.length = gl at *
  have HF := Lib.hid (CBox.mk' w P M mv N (.slice GA gl gc))
  go_enter Tryz.func24, Tryz.ntmps24
  go_upto_region 1 with fail
  generalize w.alloc (.cells #[.int .i64 P, .int .i64 M, mv, .int .i64 (N : Int), .slice GA gl gc] 34) = w0 at *
  have c0 := HF.out.c0; have c1 := HF.out.c1; have c2 := HF.out.c2; have c3 := HF.out.c3; have c4 := HF.out.c4
  go_wp2_with fail
  refine (HCK.out w0 HF.out.bel).mono ?_
  rintro e w1 ⟨rfl, hb1⟩
  have HF1 := Lib.hid (HF.out.on hb1)
  clear hb1 c0 c1 c2 c3 c4
  have c0 := HF1.out.c0; have c1 := HF1.out.c1; have c2 := HF1.out.c2; have c3 := HF1.out.c3; have c4 := HF1.out.c4
  go_wp2_with fail
  refine (HLI.out w1 HF1.out.bel).mono ?_
  rintro e w2 ⟨rfl, hb2⟩
  have HF2 := Lib.hid (HF1.out.on hb2)
  clear hb2 c0 c1 c2 c3 c4
  go_wp2_with fail
  go_ret2
  exact RetLE.nil w er HF2.out.bel
 obtain ⟨hll, hlr⟩ := listF_zero hli
 have hsp : spaceE P M Mod N gen = 0 := by
  unfold codeE at hE
  split at hE
  ·rename_i h; exact absurd hE h
  split at hE
  ·exact hE
  ·cases hE
 have HVC := Lib.hid (fun (w' : World) (hb : Below w.heap.size w w') => mVec_ok w' P M N mv (.slice GA gen.length gc) lv Mod l gen (hm.below hb (Nat.le_refl _)) (HS.out.below hb (Nat.le_refl _)) (hl.below hb (Nat.le_refl _)) (cspE_zero hsp).1 (by omega) (entriesF_ok fun k hk => hlr k hk))
 have HL : Hid (encL P M Mod N gen l = combL (refOps P M Mod) l gen N) := hid' (by unfold encL; rw [HEE.out, if_pos hli, Int.toNat_natCast])
 rw [HEE.out, HL.out, hli]
 rw [hli] at HLI
 clear hE hm hl hli HL HEE hR hcan hf hgl HS hlr hsp hll
 generalize combL (refOps P M Mod) l gen N = y at *
 generalize gen.length = gl at *
 unfold RetLE at HVC
 have HF := Lib.hid (CBox.mk' w P M mv N (.slice GA gl gc))
 go_enter Tryz.func24, Tryz.ntmps24
 go_upto_region 1 with fail
 generalize w.alloc (.cells #[.int .i64 P, .int .i64 M, mv, .int .i64 (N : Int), .slice GA gl gc] 34) = w0 at *
 have c0 := HF.out.c0; have c1 := HF.out.c1; have c2 := HF.out.c2; have c3 := HF.out.c3; have c4 := HF.out.c4
 go_wp2_with fail
 refine (HCK.out w0 HF.out.bel).mono ?_
 rintro e w1 ⟨rfl, hb1⟩
 have HF1 := Lib.hid (HF.out.on hb1)
 clear hb1 c0 c1 c2 c3 c4
 have c0 := HF1.out.c0; have c1 := HF1.out.c1; have c2 := HF1.out.c2; have c3 := HF1.out.c3; have c4 := HF1.out.c4
 go_wp2_with fail
 refine (HLI.out w1 HF1.out.bel).mono ?_
 rintro e w2 ⟨rfl, hb2⟩
 have HF2 := Lib.hid (HF1.out.on hb2)
 clear hb2 c0 c1 c2 c3 c4
 have c0 := HF2.out.c0; have c1 := HF2.out.c1; have c2 := HF2.out.c2; have c3 := HF2.out.c3; have c4 := HF2.out.c4
 go_upto_region 6 with fail
 refine Kept.start (S := fun w' => w'.cell? ⟨w.heap.size, 0, none⟩ = some (.int .i64 P) ∧ w'.cell? ⟨w.heap.size, 1, none⟩ = some (.int .i64 M) ∧ w'.cell? ⟨w.heap.size, 2, none⟩ = some mv ∧ w'.cell? ⟨w.heap.size, 3, none⟩ = some (.int .i64 (N : Int)) ∧ w'.cell? ⟨w.heap.size, 4, none⟩ = some (.slice GA gl gc)) (by kernel_rfl) (⟨c0, c1, c2, c3, c4⟩) (fun hHeld => ?_)
 change Kept _ _ _ _ 10 _ _ _
 refine Kept.tk 0 (v := ?_) rfl ?_ hHeld ?_
 rotate_left
 ·intro w' h; (try dsimp only at h); go_simp <;> with_reducible rfl
 try simp only [tda, tdb, tdc, Act.put, tdd, tde, tdf]
 refine Kept.tk 1 (v := ?_) rfl ?_ hHeld ?_
 rotate_left
 ·intro w' h; (try dsimp only at h); go_simp <;> with_reducible rfl
 try simp only [tda, tdb, tdc, Act.put, tdd, tde, tdf]
 refine Kept.tk 2 (v := ?_) rfl ?_ hHeld ?_
 rotate_left
 ·intro w' h; (try dsimp only at h); go_simp <;> with_reducible rfl
 try simp only [tda, tdb, tdc, Act.put, tdd, tde, tdf]
 refine Kept.tk 3 (v := ?_) rfl ?_ hHeld ?_
 rotate_left
 ·intro w' h; (try dsimp only at h); go_simp <;> with_reducible rfl
 try simp only [tda, tdb, tdc, Act.put, tdd, tde, tdf]
 refine Kept.only (i := 4) (by kernel_rfl) rfl (fun K hK => ?_)
 go_simp
 refine (cgen_any _ P M N mv GA gl gc).mono ?_; rintro e w3 ⟨rfl, hb3⟩; have HF3 := Lib.hid (HF2.out.on (bl_trans (bl_drew w2) hb3)); clear hb3
 refine hK.out _ _ (⟨HF3.out.c0, HF3.out.c1, HF3.out.c2, HF3.out.c3, HF3.out.c4⟩) (fun hHeld2 => ?_)
 clear hK K
 replace hHeld := hHeld2
 clear hHeld2
 try simp only [tda, tdb, tdc, Act.put, tdd, tde, tdf]
 refine Kept.only (i := 5) (by kernel_rfl) rfl (fun K hK => ?_)
 go_simp
 refine (HVC.out w3 HF3.out.bel).mono ?_; rintro e w4 ⟨u4, rfl, hs4, hn4, hb4⟩; have HS4 := Lib.hid hs4; have HN4 := Lib.hid hn4; have HF4 := Lib.hid (HF3.out.on hb4); clear hs4 hn4 hb4
 refine hK.out _ _ (⟨HF4.out.c0, HF4.out.c1, HF4.out.c2, HF4.out.c3, HF4.out.c4⟩) (fun hHeld2 => ?_)
 clear hK K
 replace hHeld := hHeld2
 clear hHeld2
 try simp only [tda, tdb, tdc, Act.put, tdd, tde, tdf]
 refine Kept.tk 6 (v := ?_) rfl ?_ hHeld ?_
 rotate_left
 ·intro w' h; (try dsimp only at h); go_simp <;> with_reducible rfl
 try simp only [tda, tdb, tdc, Act.put, tdd, tde, tdf]
 refine Kept.tk 7 (v := ?_) rfl ?_ hHeld ?_
 rotate_left
 ·intro w' h; (try dsimp only at h); go_simp <;> with_reducible rfl
 try simp only [tda, tdb, tdc, Act.put, tdd, tde, tdf]
 refine Kept.tk 8 (v := ?_) rfl ?_ hHeld ?_
 rotate_left
 ·intro w' h; (try dsimp only at h); go_simp <;> with_reducible rfl
 try simp only [tda, tdb, tdc, Act.put, tdd, tde, tdf]
 refine Kept.only (i := 9) (by kernel_rfl) rfl (fun K hK => ?_)
 go_simp
 refine hK.out _ _ hHeld (fun hHeld2 => ?_)
 clear hK K
 clear hHeld2
 refine Kept.done (by kernel_rfl) ?_
 try simp only [tda, tdb, tdc, Act.put, tdd, tde, tdf]
 clear hHeld
 clear c0 c1 c2 c3 c4
 go_wp2_with fail
 go_ret2
 exact ⟨_, rfl, HS4.out, HN4.out.mono HF3.out.bel, HF4.out.bel⟩
def uiTo (n : Nat) : Nat → List (List Int)
 | 0 => List.replicate n []
 | j + 1 => (uiTo n j).set j (unitL n j)
theorem uiTo_len (n : Nat) : ∀ j, (uiTo n j).length = n
 | 0 => by simp [uiTo]
 | j + 1 => by rw [uiTo, List.length_set, uiTo_len n j]
theorem uiTo_at (n : Nat) : ∀ k j, j < k → j < n → (uiTo n k).getD j [] = unitL n j
 | 0, j, h, _ => by omega
 | k + 1, j, h, hj => by
  rw [uiTo, getD_setL, uiTo_len]
  by_cases e : k = j
  ·subst e; rw [if_pos ⟨rfl, hj⟩]
  ·rw [if_neg (fun h => e h.1)]; exact uiTo_at n k j (by omega) hj
theorem unTo_at (n : Nat) : ∀ k j, j < k → (unTo n k).getD j [] = unitL n j
 | 0, j, h => by omega
 | k + 1, j, h => by
  rw [unTo]
  by_cases e : j = k
  ·subst e
   simp [List.getD, List.getElem?_append_right, unTo_len]
  ·have := unTo_at n k j (by omega)
   rw [← this]
   simp [List.getD, List.getElem?_append_left (show j < (unTo n k).length by rw [unTo_len]; omega)]
theorem uiTo_full (n : Nat) : uiTo n n = unTo n n :=
 ext_rows (by rw [uiTo_len, unTo_len]) fun j hj => by
  rw [uiTo_len] at hj
  rw [uiTo_at n n j hj hj, unTo_at n n j hj]
theorem unitU_len (n p : Nat) : (unitL n p).length = n := by simp [unitL]
theorem unitU_at {n p j : Nat} (hj : j < n) : (unitL n p).getD j 0 = if p = j then 1 else 0 := by
 unfold unitL
 by_cases e : p = j
 ·subst e; rw [if_pos rfl]; simp [List.getD, hj]
 ·rw [if_neg e, List.getD, List.getElem?_set_ne e]; simp [hj]
theorem unitU_out {n p j : Nat} (hj : n ≤ j) : (unitL n p).getD j 0 = 0 := getD_len (by rw [unitU_len]; exact hj)
theorem unit_ent {n i j : Nat} (hi : i < n) : ent (unTo n n) i j = if i = j then 1 else 0 := by
 unfold ent
 rw [unTo_at n n i hi]
 by_cases hj : j < n
 ·exact unitU_at hj
 ·rw [unitU_out (by omega), if_neg (by omega)]
theorem unit_cn {O : FOps} {q : Int} (hO : O.Fld q) (n : Nat) : Cn O q n (unTo n n) := by
 have hq : 2 ≤ q := hO.lt.pos
 have hp : ∀ i, i < n → pvt ((List.range n).map fun (i : Nat) => (i : Int)) i = i := fun i hi => by unfold pvt; simp [List.getD, hi]
 refine ⟨(List.range n).map fun (i : Nat) => (i : Int), ⟨fun i hi => ?_, by simp [unTo_len], fun i hi => ?_, fun i hi => ?_, fun i k hik hk => ?_, fun i hi => ?_, fun i hi k hne => ?_, fun i hi j hj => ?_⟩⟩ <;> rw [unTo_len] at *
 ·rw [unTo_at n n i hi]
  refine ⟨unitU_len n i, fun j => ?_⟩
  by_cases hj : j < n
  ·rw [unitU_at hj]; split <;> omega
  ·rw [unitU_out (by omega)]; omega
 ·rw [hp i hi]; simp [List.getD, hi]
 ·rw [hp i hi]; exact hi
 ·rw [hp i (by omega), hp k hk]; exact hik
 ·rw [hp i hi, unit_ent hi, if_pos rfl]
 ·rw [hp i hi]
  by_cases hk : k < n
  ·rw [unit_ent hk, if_neg hne]
  ·unfold ent
   simp [List.getD, List.getElem?_eq_none (show (unTo n n).length ≤ k by rw [unTo_len]; omega)]
 ·rw [hp i hi] at hj
  rw [unit_ent hi, if_neg (by omega)]
theorem mk_row1 (w : World) (n : Nat) : ∃ w' g, w.alloc (.cells (madeCells #[.int .i64 0] n) 3) = w' ∧ w.heap.size = g ∧ RI w' g (List.replicate n 0) ∧ Below w.heap.size w w' :=
 ⟨_, _, rfl, rfl, RI.made w n, bl_alloc w _⟩
set_option maxHeartbeats 16000000 in
theorem munit_any (w : World) (n : Nat) (hn : n ≤ 256) : Calls Tryz.prog 135 #[.int .i64 (n : Int)] w (fun e w' => ∃ g, e = .returned (.slice (some ⟨g, 0, none⟩) n n) ∧ Sep w.heap.size w' (fun w2 => SS w2 (.slice (some ⟨g, 0, none⟩) n n) (unTo n n)) ∧ Below w.heap.size w w') := by
 have hmr := fun (w : World) => run_mkR n (by omega) w
 have hmk := fun (w : World) => run_mkI n (by omega) w
 have HFU := Lib.hid (uiTo_full n)
 go_enter Tryz.func135, Tryz.ntmps135
 go_upto_region 2 with fail
 obtain ⟨w0, gv, e1, e2, hX, hb⟩ := mk_rows2 w n (by omega)
 rw [e1, e2]
 have HO := Lib.hid hX; have HB := Lib.hid hb
 clear e1 hX hb hmr
 go_wp2_with fail
 go_loopw [4, 9] (fun _ i wr => ∃ j : Nat, j ≤ n ∧ i = .int .i64 (j : Int) ∧ Hid (OM w.heap.size (fun g => g < w.heap.size) wr (.slice (some ⟨gv, 0, none⟩) n n) (uiTo n j)) ∧ Hid (Below w.heap.size w wr)) (fun _ i _ => n - (intOf i).toNat)
 case atStart => exact ⟨0, Nat.zero_le _, rfl, HO, HB⟩
 case round =>
  clear HO HB
  obtain ⟨j, hj, rfl, HO, HB⟩ := hrel
  by_cases hjn : j < n
  ·have HLT : Hid ((uiTo n j).length = n) := hid' (uiTo_len _ _)
   have HO6 := Lib.hid (HO.out.below (bl_alloc wr (.cells (madeCells #[.int .i64 0] n) 3)))
   obtain ⟨u0, h0, _, _⟩ := HO6.out.row (k := j) (by rw [HLT.out]; exact hjn)
   have f0 := HO6.out.frozen j
   go_upto_region 6 with fail
   obtain ⟨w6, gj, e1, e3, hX, hb⟩ := mk_row1 wr n
   rw [e1] at HO6 h0 f0 ⊢
   rw [e3]
   have HX6 := Lib.hid hX; have HB6 := Lib.hid hb
   have hsz := HB.out.size
   have hgv := HO.out.lt (g := gv) rfl
   have hgj : w.heap.size ≤ gj ∧ gv < gj := by omega
   have HOJ := Lib.hid (HO.out.put HB6.out (fun g hg => by omega) (i := j) (by rw [HLT.out]; exact hjn) (u := .slice (some ⟨gj, 0, none⟩) n n) (ys := List.replicate n 0) (by
    have h := HX6.out.oi (B := wr.heap.size) (by omega) (by simp; omega)
    rw [List.length_replicate] at h
    exact h))
   have hc7 : (w6.setCell ⟨gv, j, none⟩ (.slice (some ⟨gj, 0, none⟩) n n)).cell? ⟨gv, j, none⟩ = some (.slice (some ⟨gj, 0, none⟩) n n) := World.cell?_setCell_same w6 ⟨gv, j, none⟩ _ h0
   have hgz := gr_set1 w6 gv j (.slice (some ⟨gj, 0, none⟩) n n)
   have HX7 := Lib.hid (HX6.out.grown hgz (by intro e; have := Option.some.inj e; omega))
   have HB7 := Lib.hid ((bl_trans HB.out HB6.out).grown hgz (by have := HB6.out.size; omega) (fun k e => by have := Option.some.inj e; omega))
   clear e1 hX hb h0 f0 HO HO6 HX6 hgz
   generalize w6.setCell ⟨gv, j, none⟩ (.slice (some ⟨gj, 0, none⟩) n n) = w7 at *
   have hd := HX7.out.cell j (by simp; exact hjn)
   have fd := HX7.out.frozen j
   go_wp2_with fail
   have HX8 := Lib.hid (HX7.out.set j 1)
   change Hid (RI _ gj (unitL n j)) at HX8
   have hg8 := gr_set1 w7 gj j (.int .i64 1)
   have HO8 := Lib.hid (HOJ.out.write (i := j) (by rw [List.length_set, HLT.out]; exact hjn) hc7 hg8 (ys := unitL n j) (by
    have h := HX8.out.oi (B := w.heap.size) (by omega) (by rw [unitU_len]; omega)
    rw [unitU_len] at h
    exact h))
   rw [List.set_set] at HO8
   have HB8 := Lib.hid (HB7.out.grown hg8 HB7.out.size (fun k e => by have := Option.some.inj e; omega))
   exact ⟨⟨j + 1, by omega, by push_cast; rfl, HO8, HB8⟩, by simp only [intOf]; omega⟩
  ·obtain rfl : n = j := by omega
   rw [HFU.out] at HO
   have HS := Lib.hid ((HO.out.os (fun i hi => by
    rw [unTo_len] at hi
    rw [unTo_at n n i hi, unitU_len]
    refine ⟨by omega, fun k => ?_⟩
    by_cases hk : k < n
    ·rw [unitU_at hk]; split
     ·exact I64.one
     ·exact I64.zero
    ·rw [unitU_out (by omega)]; exact I64.zero)).sep (fun g hg => hg) (by rw [unTo_len]; omega))
   go_wp2_with fail
   go_ret
   exact ⟨gv, rfl, HS.out, HB.out⟩
set_option maxHeartbeats 8000000 in
theorem mIdent_ok (w : World) (n : Nat) (hn : n ≤ 256) : Calls Tryz.prog 99 #[.int .i64 (n : Int)] w (RetMx w n (unTo n n)) := by
 have HQ := Lib.hid (Blk.new w 27 [.int .i64 0, .slice none 0 0])
 have HB := Lib.hid (bl_alloc w (.cells #[.int .i64 0, .slice none 0 0] 27))
 have b1 : decide ((n : Int) < 0) = false := decide_eq_false (by omega)
 have b2 : decide (256 < (n : Int)) = false := decide_eq_false (by omega)
 go_enter Tryz.func99, Tryz.ntmps99
 go_upto_region 1 with fail
 generalize w.alloc (.cells #[.int .i64 0, .slice none 0 0] 27) = w1 at *
 go_wp2_with fail
 refine (munit_any w1 n hn).mono ?_
 rintro e w2 ⟨g, rfl, hx, hb2⟩
 have HX := Lib.hid hx
 have HQ2 := Lib.hid (HQ.out.belowS hb2)
 have HB2 := Lib.hid (bl_trans HB.out hb2)
 have hs1 := HB.out.size
 have hlt := HQ.out.lt
 clear hx hb2
 obtain ⟨d0, d1, f0, f1⟩ := HQ2.out.two
 go_wp2_with fail
 obtain ⟨wz, hz, HL⟩ := lay2 (x := .int .i64 (n : Int)) (y := .slice (some ⟨g, 0, none⟩) n n) HQ2.out
 rw [hz]
 have q0 := HL.c0; have q1 := HL.c1
 refine bodyPost_ret (v := .tuple #[.agg #[.int .i64 (n : Int), .slice (some ⟨g, 0, none⟩) n n], .int .i64 0]) (by simp [results, Tryz.results99, go_sem, q0, q1]) rfl ?_
 exact ⟨_, rfl, (HX.out.grown HL.gr (by rintro b e; cases e; omega)).mono hs1, HL.below HB2.out HB2.out.size (by omega)⟩
end Go.Proofs.YtodgdoglhecolaaGreat
