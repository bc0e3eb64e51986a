/- Texts of a claim, merged: words, plain facts and walks that the last of its texts uses. -/
import Derived.Test.YtodgdoglhecolaaGreatZA4
import Derived.Test.YtodgdoglhecolaaGreatZA6
import Derived.Test.YtodgdoglhecolaaGreatZA11
import Derived.Test.YtodgdoglhecolaaGreatZA12
import Derived.Test.YtodgdoglhecolaaGreatZA13
import Derived.Test.YtodgdoglhecolaaGreatZA16
import Derived.Test.YtodgdoglhecolaaGreatZA17
set_option linter.unusedSimpArgs false
set_option linter.unusedVariables false

namespace Go.Proofs.YtodgdoglhecolaaGreat
open Go.RowKit
set_option maxRecDepth 100000
def RetLA (w : World) (xs : List Int) (er : Int) (e : Ending) (w' : World) : Prop := ∃ u, e = .returned (.tuple #[u, .int .i64 er]) ∧ Sep w.heap.size w' (fun w2 => SI w2 u xs) ∧ Below w.heap.size w w'
theorem RetZE.la {w : World} {er : Int} {e : Ending} {w' : World} (h : RetZE w (.slice none 0 0) er e w') : RetLA w [] er e w' := ⟨_, h.1, SI.nilSep _ _, h.2⟩
theorem RetIs.la {w : World} {xs : List Int} (hl : xs.length ≤ 17592186044416) (hw : ∀ k, I64 (xs.getD k 0)) {e : Ending} {w' : World} (h : RetIs w xs e w') : RetLA w xs 0 e w' := by
 obtain ⟨u, h1, h2, h3⟩ := h
 exact ⟨u, h1, h2.sep hl hw, h3⟩
theorem CMQ.on {w w1 w2 : World} {P M : Int} {mv : Value} {n : Int} {gv : Value} (h : CMQ w w1 P M mv n gv) (hb : Below w1.heap.size w1 w2) : CMQ w w2 P M mv n gv := ⟨h.cb.on hb, h.q.belowS hb⟩
set_option maxHeartbeats 8000000 in
theorem cPivots_no (w : World) (P M n : Int) (mv gv : Value) (Mod : List Int) (gen : List (List Int)) (hm : SI w mv Mod) (hg : SS w gv gen) (hE : codeE P M Mod n gen ≠ 0) :
  Calls Tryz.prog 30 #[.agg #[.int .i64 P, .int .i64 M, mv, .int .i64 n, gv]] w (RetZE w (.slice none 0 0) (codeE P M Mod n gen)) := by
 have HCK := Lib.hid (fun (w' : World) (hb : Below w.heap.size w w') => cCheck_any w' P M n mv gv Mod gen (hm.below hb (Nat.le_refl _)) (hg.below hb (Nat.le_refl _)))
 have e2 : (codeE P M Mod n gen != 0) = true := by rw [bne_iff_ne]; exact hE
 generalize codeE P M Mod n gen = er at *
 clear hm hg hE
 have HF := Lib.hid (CBox.mk' w P M mv n gv)
 go_enter Tryz.func30, Tryz.ntmps30
 go_upto_region 1 with fail
 generalize w.alloc (.cells #[.int .i64 P, .int .i64 M, mv, .int .i64 n, gv] 34) = w0 at *
 have c0 := HF.out.c0; have c1 := HF.out.c1; have c2 := HF.out.c2; have c3 := HF.out.c3; have c4 := HF.out.c4
 go_wp2_with fail
 refine (HCK.out w0 HF.out.bel).mono ?_
 rintro e w1 ⟨rfl, hb1⟩
 have HF1 := Lib.hid (HF.out.on hb1)
 clear hb1 c0 c1 c2 c3 c4
 go_wp2_with fail
 go_ret2
 exact ⟨rfl, HF1.out.bel⟩
set_option maxHeartbeats 16000000 in
theorem cPivots_ok (w : World) (P M : Int) (n : Nat) (mv gv : Value) (Mod : List Int) (gen : List (List Int)) (hm : SI w mv Mod) (hg : SS w gv gen) (hE : codeE P M Mod n gen = 0) :
  Calls Tryz.prog 30 #[.agg #[.int .i64 P, .int .i64 M, mv, .int .i64 (n : Int), gv]] w (RetLA w (pivL (refOps P M Mod) gen n) 0) := by
 have HCK := Lib.hid (fun (w' : World) (hb : Below w.heap.size w w') => cCheck_any w' P M n mv gv Mod gen (hm.below hb (Nat.le_refl _)) (hg.below hb (Nat.le_refl _)))
 rw [hE] at HCK
 have hmat : matE P M Mod n gen = 0 := by
  obtain ⟨h1, h2, h3, h4, h5, h6⟩ := codeE_zero hE
  rw [Int.toNat_natCast] at h5
  exact matE_mk h1 (by omega) h4 h5
 have HCA := Lib.hid (fun (w' : World) (hb : Below w.heap.size w w') => mCanonical_ok w' P M n mv gv Mod gen (hm.below hb (Nat.le_refl _)) (hg.below hb (Nat.le_refl _)) hmat)
 unfold RetCM at HCA
 obtain ⟨GA, gc, rfl, _⟩ := hg
 generalize gen.length = gl at *
 clear hm hE hmat
 generalize canonL (refOps P M Mod) gen n = C at *
 generalize pivL (refOps P M Mod) gen n = D at *
 have HF := Lib.hid (CBox.mk' w P M mv n (.slice GA gl gc))
 go_enter Tryz.func30, Tryz.ntmps30
 go_upto_region 1 with fail
 generalize w.alloc (.cells #[.int .i64 P, .int .i64 M, mv, .int .i64 (n : Int), .slice GA gl gc] 34) = w0 at *
 have c0 := HF.out.c0; have c1 := HF.out.c1; have c2 := HF.out.c2; have c3 := HF.out.c3; have c4 := HF.out.c4
 go_wp2_with fail
 refine (HCK.out w0 HF.out.bel).mono ?_
 rintro e w2 ⟨rfl, hb2⟩
 have HF2 := Lib.hid (HF.out.on hb2)
 have HB2 := Lib.hid HF2.out.bel
 clear hb2 c0 c1 c2 c3 c4
 have c0 := HF2.out.c0; have c1 := HF2.out.c1; have c2 := HF2.out.c2; have c3 := HF2.out.c3; have c4 := HF2.out.c4
 have C0 := Lib.hid c0; have C1 := Lib.hid c1; have C2 := Lib.hid c2; have C3 := Lib.hid c3; have C4 := Lib.hid c4
 obtain ⟨k, hk⟩ : ∃ k, k = C.length := ⟨_, rfl⟩
 have HK := Lib.hid hk; clear hk
 obtain ⟨p, hp⟩ : ∃ p, p = D.length := ⟨_, rfl⟩
 have HP := Lib.hid hp; clear hp
 go_upto_region 4 with fail
 go_cut [5, 6, 7] from 14 to 21 (fun t5 t6 t7 wc => ∃ g UA PU pc, t7 = .int .i64 0 ∧ t6 = .slice PU p pc ∧ t5 = .pointer (some ⟨g, 0, none⟩) ∧ w2.heap.size ≤ g ∧ Hid (Blk wc g 27 [.int .i64 (n : Int), .slice UA k k]) ∧ Hid (Sep w2.heap.size wc fun w9 => SI w9 (.slice PU p pc) D) ∧ Hid (Below w2.heap.size w2 wc))
 case first =>
  refine Kept.start (S := fun w' => w'.cell? ⟨w.heap.size, 0, none⟩ = some (.int .i64 P) ∧ w'.cell? ⟨w.heap.size, 1, none⟩ = some (.int .i64 M) ∧ w'.cell? ⟨w.heap.size, 2, none⟩ = some mv ∧ w'.cell? ⟨w.heap.size, 3, none⟩ = some (.int .i64 (n : Int)) ∧ w'.cell? ⟨w.heap.size, 4, none⟩ = some (.slice GA gl gc)) (by kernel_rfl) (⟨c0, c1, c2, c3, c4⟩) (fun hHeld => ?_)
  change Kept _ _ _ _ 13 _ _ _
  have hdrew := bl_drew w2
  generalize w2.drew = wq1 at hdrew hHeld ⊢
  have HBB := Lib.hid hdrew
  clear c0 c1 c2 c3 c4
  clear hdrew
  refine Kept.tk 0 (v := ?_) rfl ?_ hHeld ?_
  rotate_left
  ·intro w' h; (try dsimp only at h); go_simp <;> with_reducible rfl
  try simp only [tda, tdb, tdc, Act.put, tdd, tde, tdf]
  refine Kept.tk 1 (v := ?_) rfl ?_ hHeld ?_
  rotate_left
  ·intro w' h; (try dsimp only at h); go_simp <;> with_reducible rfl
  try simp only [tda, tdb, tdc, Act.put, tdd, tde, tdf]
  refine Kept.tk 2 (v := ?_) rfl ?_ hHeld ?_
  rotate_left
  ·intro w' h; (try dsimp only at h); go_simp <;> with_reducible rfl
  try simp only [tda, tdb, tdc, Act.put, tdd, tde, tdf]
  refine Kept.two (i := 3) (j := 9) (oi := ?opa2) (oj := ?opb2) (by kernel_rfl) ?hoa2 ?hob2 (fun K hK => ?way12) (fun K hK => ?way22)
  case hoa2 => (conv => lhs; simp only [tdg, tdh, tdi])
  case hob2 => (conv => lhs; simp only [tdg, tdh, tdi])
  case way12 =>
   go_simp
   refine (cgen_any _ P M n mv GA gl gc).mono ?_
   rintro e wq3 ⟨rfl, hb⟩
   replace HBB := Lib.hid (bl_trans HBB.out hb)
   clear hb
   refine hK.out _ _ (⟨cb HBB C0, cb HBB C1, cb HBB C2, cb HBB C3, cb HBB C4⟩) (fun hHeld2 => ?_)
   clear hK K
   replace hHeld := hHeld2
   clear hHeld2
   try simp only [tda, tdb, tdc, Act.put, tdd, tde, tdf]
   refine Kept.two (i := 4) (j := 9) (oi := ?opa4) (oj := ?opb4) (by kernel_rfl) ?hoa4 ?hob4 (fun K hK => ?way14) (fun K hK => ?way24)
   case hoa4 => (conv => lhs; simp only [tdg, tdh, tdi])
   case hob4 => (conv => lhs; simp only [tdg, tdh, tdi])
   case way14 =>
    have hbs0 := HBB.out.size
    go_simp
    refine (HCA.out _ (bl_trans HB2.out HBB.out)).mono ?_
    rintro e wq5 ⟨UA, PU, pc, rfl, hx, _, hb⟩
    rw [← HK.out, ← HP.out] at hx
    rw [← HK.out, ← HP.out]
    replace hx := hx.imp (fun _ h => h.2)
    have HS4 := Lib.hid (hx.mono hbs0) 
    replace HBB := Lib.hid (bl_trans HBB.out hb)
    clear hb hx hbs0
    refine hK.out _ _ (⟨cb HBB C0, cb HBB C1, cb HBB C2, cb HBB C3, cb HBB C4⟩) (fun hHeld2 => ?_)
    clear hK K
    replace hHeld := hHeld2
    clear hHeld2
    try simp only [tda, tdb, tdc, Act.put, tdd, tde, tdf]
    refine Kept.tk 5 (v := ?_) rfl ?_ hHeld ?_
    rotate_left
    ·intro w' h; (try dsimp only at h); go_simp <;> with_reducible rfl
    try simp only [tda, tdb, tdc, Act.put, tdd, tde, tdf]
    refine Kept.tk 6 (v := ?_) rfl ?_ hHeld ?_
    rotate_left
    ·intro w' h; (try dsimp only at h); go_simp <;> with_reducible rfl
    try simp only [tda, tdb, tdc, Act.put, tdd, tde, tdf]
    refine Kept.tk 7 (v := ?_) rfl ?_ hHeld ?_
    rotate_left
    ·intro w' h; (try dsimp only at h); go_simp <;> with_reducible rfl
    try simp only [tda, tdb, tdc, Act.put, tdd, tde, tdf]
    refine Kept.tk 8 (v := ?_) rfl ?_ hHeld ?_
    rotate_left
    ·intro w' h; (try dsimp only at h); go_simp <;> with_reducible rfl
    try simp only [tda, tdb, tdc, Act.put, tdd, tde, tdf]
    refine Kept.only (i := 9) (o := ?op6) (by kernel_rfl) ?ho6 (fun K hK => ?_)
    case ho6 => (conv => lhs; simp only [tdg, tdh, tdi])
    go_simp
    obtain ⟨wq7, g, e1, e2, hX, hb⟩ := mk_box wq5 27 [.int .i64 0, .slice none 0 0]
    rw [e1, e2]
    have HBX := Lib.hid hX
    have hgi : w2.heap.size ≤ g := (by have := HBB.out.size; omega)
    have HSF : Hid (∀ w9, World.grownBy wq7 w9 (some g) → Sep w2.heap.size w9 fun w9 => SI w9 (.slice PU p pc) D) := hid' (fun w9 hg => sep_far HS4.out hb (by omega) hg) 
    replace HBB := Lib.hid (bl_trans HBB.out hb)
    clear e1 e2 hX hb
    refine hK.out _ _ (⟨cb HBB C0, cb HBB C1, cb HBB C2, cb HBB C3, cb HBB C4⟩) (fun hHeld2 => ?_)
    clear hK K
    replace hHeld := hHeld2
    clear hHeld2
    try simp only [tda, tdb, tdc, Act.put, tdd, tde, tdf]
    refine Kept.only (i := 10) (o := ?op8) (by kernel_rfl) ?ho8 (fun K hK => ?_)
    case ho8 => (conv => lhs; simp only [tdg, tdh, tdi])
    obtain ⟨b0, b1, f0, f1⟩ := HBX.out.two
    go_simp
    obtain ⟨wq9, h6, HL⟩ := lay2 (x := .int .i64 (n : Int)) (y := .slice UA k k) HBX.out
    rw [h6]
    have HS6 := Lib.hid (HSF.out _ HL.gr)
    have HBY := Lib.hid HL.blk
    replace HBB := Lib.hid (HL.below HBB.out HBB.out.size hgi)
    clear b0 b1 f0 f1 h6 HL HBX
    refine hK.out _ _ (⟨cb HBB C0, cb HBB C1, cb HBB C2, cb HBB C3, cb HBB C4⟩) (fun hHeld2 => ?_)
    clear hK K
    replace hHeld := hHeld2
    clear hHeld2
    try simp only [tda, tdb, tdc, Act.put, tdd, tde, tdf]
    refine Kept.tk 11 (v := ?_) rfl ?_ hHeld ?_
    rotate_left
    ·intro w' h; (try dsimp only at h); go_simp <;> with_reducible rfl
    try simp only [tda, tdb, tdc, Act.put, tdd, tde, tdf]
    refine Kept.only (i := 12) (by kernel_rfl) rfl (fun K hK => ?_)
    go_simp
    refine hK.out _ _ hHeld (fun hHeld2 => ?_)
    clear hK K
    clear hHeld2
    refine Kept.done (by kernel_rfl) ?_
    try simp only [tda, tdb, tdc, Act.put, tdd, tde, tdf]
    clear hHeld
    go_wp2_with fail
    go_meet
    exact ⟨g, UA, PU, pc, rfl, rfl, rfl, hgi, HBY, HS6, HBB⟩
   case way24 =>
    go_simp
    obtain ⟨wq10, g, e1, e2, hX, hb⟩ := mk_box wq3 27 [.int .i64 0, .slice none 0 0]
    rw [e1, e2]
    have HBX := Lib.hid hX
    have hgi : w2.heap.size ≤ g := (by have := HBB.out.size; omega)
    replace HBB := Lib.hid (bl_trans HBB.out hb)
    clear e1 e2 hX hb
    refine hK.out _ _ (⟨cb HBB C0, cb HBB C1, cb HBB C2, cb HBB C3, cb HBB C4⟩) (fun hHeld2 => ?_)
    clear hK K
    replace hHeld := hHeld2
    clear hHeld2
    try simp only [tda, tdb, tdc, Act.put, tdd, tde, tdf]
    refine Kept.only (i := 4) (o := ?op11) (by kernel_rfl) ?ho11 (fun K hK => ?_)
    case ho11 => (conv => lhs; simp only [tdg, tdh, tdi])
    have hbs0 := HBB.out.size
    go_simp
    refine (HCA.out _ (bl_trans HB2.out HBB.out)).mono ?_
    rintro e wq12 ⟨UA, PU, pc, rfl, hx, _, hb⟩
    rw [← HK.out, ← HP.out] at hx
    rw [← HK.out, ← HP.out]
    replace hx := hx.imp (fun _ h => h.2)
    have hglt := HBX.out.lt 
    have HSF : Hid (∀ w9, World.grownBy wq12 w9 (some g) → Sep w2.heap.size w9 fun w9 => SI w9 (.slice PU p pc) D) := hid' (fun w9 hg => (hx.grown hg (by rintro b e; cases e; exact hglt)).mono hbs0) 
    clear hglt 
    replace HBX := Lib.hid (HBX.out.belowS hb) 
    replace HBB := Lib.hid (bl_trans HBB.out hb)
    clear hb hx hbs0
    refine hK.out _ _ (⟨cb HBB C0, cb HBB C1, cb HBB C2, cb HBB C3, cb HBB C4⟩) (fun hHeld2 => ?_)
    clear hK K
    replace hHeld := hHeld2
    clear hHeld2
    try simp only [tda, tdb, tdc, Act.put, tdd, tde, tdf]
    refine Kept.tk 5 (v := ?_) rfl ?_ hHeld ?_
    rotate_left
    ·intro w' h; (try dsimp only at h); go_simp <;> with_reducible rfl
    try simp only [tda, tdb, tdc, Act.put, tdd, tde, tdf]
    refine Kept.tk 6 (v := ?_) rfl ?_ hHeld ?_
    rotate_left
    ·intro w' h; (try dsimp only at h); go_simp <;> with_reducible rfl
    try simp only [tda, tdb, tdc, Act.put, tdd, tde, tdf]
    refine Kept.tk 7 (v := ?_) rfl ?_ hHeld ?_
    rotate_left
    ·intro w' h; (try dsimp only at h); go_simp <;> with_reducible rfl
    try simp only [tda, tdb, tdc, Act.put, tdd, tde, tdf]
    refine Kept.tk 8 (v := ?_) rfl ?_ hHeld ?_
    rotate_left
    ·intro w' h; (try dsimp only at h); go_simp <;> with_reducible rfl
    try simp only [tda, tdb, tdc, Act.put, tdd, tde, tdf]
    refine Kept.only (i := 10) (o := ?op13) (by kernel_rfl) ?ho13 (fun K hK => ?_)
    case ho13 => (conv => lhs; simp only [tdg, tdh, tdi])
    obtain ⟨b0, b1, f0, f1⟩ := HBX.out.two
    go_simp
    obtain ⟨wq14, h6, HL⟩ := lay2 (x := .int .i64 (n : Int)) (y := .slice UA k k) HBX.out
    rw [h6]
    have HS6 := Lib.hid (HSF.out _ HL.gr)
    have HBY := Lib.hid HL.blk
    replace HBB := Lib.hid (HL.below HBB.out HBB.out.size hgi)
    clear b0 b1 f0 f1 h6 HL HBX
    refine hK.out _ _ (⟨cb HBB C0, cb HBB C1, cb HBB C2, cb HBB C3, cb HBB C4⟩) (fun hHeld2 => ?_)
    clear hK K
    replace hHeld := hHeld2
    clear hHeld2
    try simp only [tda, tdb, tdc, Act.put, tdd, tde, tdf]
    refine Kept.tk 11 (v := ?_) rfl ?_ hHeld ?_
    rotate_left
    ·intro w' h; (try dsimp only at h); go_simp <;> with_reducible rfl
    try simp only [tda, tdb, tdc, Act.put, tdd, tde, tdf]
    refine Kept.only (i := 12) (by kernel_rfl) rfl (fun K hK => ?_)
    go_simp
    refine hK.out _ _ hHeld (fun hHeld2 => ?_)
    clear hK K
    clear hHeld2
    refine Kept.done (by kernel_rfl) ?_
    try simp only [tda, tdb, tdc, Act.put, tdd, tde, tdf]
    clear hHeld
    go_wp2_with fail
    go_meet
    exact ⟨g, UA, PU, pc, rfl, rfl, rfl, hgi, HBY, HS6, HBB⟩
  case way22 =>
   go_simp
   obtain ⟨wq15, g, e1, e2, hX, hb⟩ := mk_box wq1 27 [.int .i64 0, .slice none 0 0]
   rw [e1, e2]
   have HBX := Lib.hid hX
   have hgi : w2.heap.size ≤ g := (by have := HBB.out.size; omega)
   replace HBB := Lib.hid (bl_trans HBB.out hb)
   clear e1 e2 hX hb
   refine hK.out _ _ (⟨cb HBB C0, cb HBB C1, cb HBB C2, cb HBB C3, cb HBB C4⟩) (fun hHeld2 => ?_)
   clear hK K
   replace hHeld := hHeld2
   clear hHeld2
   try simp only [tda, tdb, tdc, Act.put, tdd, tde, tdf]
   refine Kept.only (i := 3) (o := ?op16) (by kernel_rfl) ?ho16 (fun K hK => ?_)
   case ho16 => (conv => lhs; simp only [tdg, tdh, tdi])
   go_simp
   refine (cgen_any _ P M n mv GA gl gc).mono ?_
   rintro e wq17 ⟨rfl, hb⟩
   replace HBX := Lib.hid (HBX.out.belowS hb) 
   replace HBB := Lib.hid (bl_trans HBB.out hb)
   clear hb
   refine hK.out _ _ (⟨cb HBB C0, cb HBB C1, cb HBB C2, cb HBB C3, cb HBB C4⟩) (fun hHeld2 => ?_)
   clear hK K
   replace hHeld := hHeld2
   clear hHeld2
   try simp only [tda, tdb, tdc, Act.put, tdd, tde, tdf]
   refine Kept.only (i := 4) (o := ?op18) (by kernel_rfl) ?ho18 (fun K hK => ?_)
   case ho18 => (conv => lhs; simp only [tdg, tdh, tdi])
   have hbs0 := HBB.out.size
   go_simp
   refine (HCA.out _ (bl_trans HB2.out HBB.out)).mono ?_
   rintro e wq19 ⟨UA, PU, pc, rfl, hx, _, hb⟩
   rw [← HK.out, ← HP.out] at hx
   rw [← HK.out, ← HP.out]
   replace hx := hx.imp (fun _ h => h.2)
   have hglt := HBX.out.lt 
   have HSF : Hid (∀ w9, World.grownBy wq19 w9 (some g) → Sep w2.heap.size w9 fun w9 => SI w9 (.slice PU p pc) D) := hid' (fun w9 hg => (hx.grown hg (by rintro b e; cases e; exact hglt)).mono hbs0) 
   clear hglt 
   replace HBX := Lib.hid (HBX.out.belowS hb) 
   replace HBB := Lib.hid (bl_trans HBB.out hb)
   clear hb hx hbs0
   refine hK.out _ _ (⟨cb HBB C0, cb HBB C1, cb HBB C2, cb HBB C3, cb HBB C4⟩) (fun hHeld2 => ?_)
   clear hK K
   replace hHeld := hHeld2
   clear hHeld2
   try simp only [tda, tdb, tdc, Act.put, tdd, tde, tdf]
   refine Kept.tk 5 (v := ?_) rfl ?_ hHeld ?_
   rotate_left
   ·intro w' h; (try dsimp only at h); go_simp <;> with_reducible rfl
   try simp only [tda, tdb, tdc, Act.put, tdd, tde, tdf]
   refine Kept.tk 6 (v := ?_) rfl ?_ hHeld ?_
   rotate_left
   ·intro w' h; (try dsimp only at h); go_simp <;> with_reducible rfl
   try simp only [tda, tdb, tdc, Act.put, tdd, tde, tdf]
   refine Kept.tk 7 (v := ?_) rfl ?_ hHeld ?_
   rotate_left
   ·intro w' h; (try dsimp only at h); go_simp <;> with_reducible rfl
   try simp only [tda, tdb, tdc, Act.put, tdd, tde, tdf]
   refine Kept.tk 8 (v := ?_) rfl ?_ hHeld ?_
   rotate_left
   ·intro w' h; (try dsimp only at h); go_simp <;> with_reducible rfl
   try simp only [tda, tdb, tdc, Act.put, tdd, tde, tdf]
   refine Kept.only (i := 10) (o := ?op20) (by kernel_rfl) ?ho20 (fun K hK => ?_)
   case ho20 => (conv => lhs; simp only [tdg, tdh, tdi])
   obtain ⟨b0, b1, f0, f1⟩ := HBX.out.two
   go_simp
   obtain ⟨wq21, h6, HL⟩ := lay2 (x := .int .i64 (n : Int)) (y := .slice UA k k) HBX.out
   rw [h6]
   have HS6 := Lib.hid (HSF.out _ HL.gr)
   have HBY := Lib.hid HL.blk
   replace HBB := Lib.hid (HL.below HBB.out HBB.out.size hgi)
   clear b0 b1 f0 f1 h6 HL HBX
   refine hK.out _ _ (⟨cb HBB C0, cb HBB C1, cb HBB C2, cb HBB C3, cb HBB C4⟩) (fun hHeld2 => ?_)
   clear hK K
   replace hHeld := hHeld2
   clear hHeld2
   try simp only [tda, tdb, tdc, Act.put, tdd, tde, tdf]
   refine Kept.tk 11 (v := ?_) rfl ?_ hHeld ?_
   rotate_left
   ·intro w' h; (try dsimp only at h); go_simp <;> with_reducible rfl
   try simp only [tda, tdb, tdc, Act.put, tdd, tde, tdf]
   refine Kept.only (i := 12) (by kernel_rfl) rfl (fun K hK => ?_)
   go_simp
   refine hK.out _ _ hHeld (fun hHeld2 => ?_)
   clear hK K
   clear hHeld2
   refine Kept.done (by kernel_rfl) ?_
   try simp only [tda, tdb, tdc, Act.put, tdd, tde, tdf]
   clear hHeld
   go_wp2_with fail
   go_meet
   exact ⟨g, UA, PU, pc, rfl, rfl, rfl, hgi, HBY, HS6, HBB⟩
 case rest =>
  clear c0 c1 c2 c3 c4
  obtain ⟨g, UA, PU, pc, rfl, rfl, rfl, hg, HBY, HS5, HBB⟩ := hcut
  have hs2 := HF2.out.bel.size
  clear C0 C1 C2 C3 C4
  go_wp2_with fail
  go_ret2
  exact ⟨_, rfl, HS5.out.mono hs2, bl_trans HF2.out.bel HBB.out⟩
set_option maxHeartbeats 8000000 in
theorem cMatrix_no (w : World) (P M n : Int) (mv gv : Value) (Mod : List Int) (gen : List (List Int)) (hm : SI w mv Mod) (hg : SS w gv gen) (hE : codeE P M Mod n gen ≠ 0) :
  Calls Tryz.prog 29 #[.agg #[.int .i64 P, .int .i64 M, mv, .int .i64 n, gv]] w (RetNo w (codeE P M Mod n gen)) := by
 have HCK := Lib.hid (fun (w' : World) (hb : Below w.heap.size w w') => cCheck_any w' P M n mv gv Mod gen (hm.below hb (Nat.le_refl _)) (hg.below hb (Nat.le_refl _)))
 have e2 : (codeE P M Mod n gen != 0) = true := by rw [bne_iff_ne]; exact hE
 generalize codeE P M Mod n gen = er at *
 clear hm hg hE
 obtain ⟨w1, e1, hq⟩ := CMQ.mk' w P M mv n gv
 have HQ := Lib.hid hq; have HE1 := Lib.hid e1; clear hq e1
 go_enter Tryz.func29, Tryz.ntmps29
 go_upto_region 1 with fail
 rw [HE1.out]
 clear HE1
 have c0 := HQ.out.cb.c0; have c1 := HQ.out.cb.c1; have c2 := HQ.out.cb.c2; have c3 := HQ.out.cb.c3; have c4 := HQ.out.cb.c4
 go_wp2_with fail
 refine (HCK.out w1 HQ.out.cb.bel).mono ?_
 rintro e w2 ⟨rfl, hb2⟩
 have HQ2 := Lib.hid (HQ.out.on hb2)
 clear hb2 c0 c1 c2 c3 c4
 obtain ⟨d0, d1, f0, f1⟩ := HQ2.out.q.two
 go_wp2_with fail
 obtain ⟨w9, h9, HL⟩ := lay2 (x := .int .i64 0) (y := .slice none 0 0) HQ2.out.q
 rw [h9]
 have q0 := HL.c0; have q1 := HL.c1
 refine bodyPost_ret (v := .tuple #[.agg #[.int .i64 0, .slice none 0 0], .int .i64 er]) (by simp [results, Tryz.results29, go_sem, q0, q1]) rfl ?_
 exact ⟨rfl, HL.below HQ2.out.cb.bel HQ2.out.cb.bel.size (by omega)⟩
set_option maxHeartbeats 16000000 in
theorem cMatrix_ok (w : World) (P M : Int) (n : Nat) (mv gv : Value) (Mod : List Int) (gen : List (List Int)) (hm : SI w mv Mod) (hg : SS w gv gen) (hE : codeE P M Mod n gen = 0) :
  Calls Tryz.prog 29 #[.agg #[.int .i64 P, .int .i64 M, mv, .int .i64 (n : Int), gv]] w (RetMx w n (canonL (refOps P M Mod) gen n)) := by
 have HCK := Lib.hid (fun (w' : World) (hb : Below w.heap.size w w') => cCheck_any w' P M n mv gv Mod gen (hm.below hb (Nat.le_refl _)) (hg.below hb (Nat.le_refl _)))
 rw [hE] at HCK
 have hmat : matE P M Mod n gen = 0 := by
  obtain ⟨h1, h2, h3, h4, h5, h6⟩ := codeE_zero hE
  rw [Int.toNat_natCast] at h5
  exact matE_mk h1 (by omega) h4 h5
 have HCA := Lib.hid (fun (w' : World) (hb : Below w.heap.size w w') => mCanonical_ok w' P M n mv gv Mod gen (hm.below hb (Nat.le_refl _)) (hg.below hb (Nat.le_refl _)) hmat)
 unfold RetCM at HCA
 obtain ⟨GA, gc, rfl, _⟩ := hg
 generalize gen.length = gl at *
 clear hm hE hmat
 generalize canonL (refOps P M Mod) gen n = C at *
 generalize pivL (refOps P M Mod) gen n = D at *
 obtain ⟨w1, e1, hq⟩ := CMQ.mk' w P M mv n (.slice GA gl gc)
 have HQ := Lib.hid hq; have HE1 := Lib.hid e1; clear hq e1
 go_enter Tryz.func29, Tryz.ntmps29
 go_upto_region 1 with fail
 rw [HE1.out]
 clear HE1
 have c0 := HQ.out.cb.c0; have c1 := HQ.out.cb.c1; have c2 := HQ.out.cb.c2; have c3 := HQ.out.cb.c3; have c4 := HQ.out.cb.c4
 go_wp2_with fail
 refine (HCK.out w1 HQ.out.cb.bel).mono ?_
 rintro e w2 ⟨rfl, hb2⟩
 have HQ2 := Lib.hid (HQ.out.on hb2)
 have HB2 := Lib.hid HQ2.out.cb.bel
 clear hb2 c0 c1 c2 c3 c4
 have c0 := HQ2.out.cb.c0; have c1 := HQ2.out.cb.c1; have c2 := HQ2.out.cb.c2; have c3 := HQ2.out.cb.c3; have c4 := HQ2.out.cb.c4
 have C0 := Lib.hid c0; have C1 := Lib.hid c1; have C2 := Lib.hid c2; have C3 := Lib.hid c3; have C4 := Lib.hid c4
 obtain ⟨k, hk⟩ : ∃ k, k = C.length := ⟨_, rfl⟩
 have HK := Lib.hid hk; clear hk
 obtain ⟨p, hp⟩ : ∃ p, p = D.length := ⟨_, rfl⟩
 have HP := Lib.hid hp; clear hp
 go_upto_region 4 with fail
 go_cut [5, 6, 7] from 15 to 22 (fun t5 t6 t7 wc => ∃ g UA PU pc, t7 = .int .i64 0 ∧ t6 = .slice PU p pc ∧ t5 = .pointer (some ⟨g, 0, none⟩) ∧ w2.heap.size ≤ g ∧ Hid (Blk wc g 27 [.int .i64 (n : Int), .slice UA k k]) ∧ Hid (Sep w2.heap.size wc fun w9 => SS w9 (.slice UA k k) C) ∧ Hid (Below w2.heap.size w2 wc))
 case first =>
  refine Kept.start (S := fun w' => w'.cell? ⟨w.heap.size, 0, none⟩ = some (.int .i64 P) ∧ w'.cell? ⟨w.heap.size, 1, none⟩ = some (.int .i64 M) ∧ w'.cell? ⟨w.heap.size, 2, none⟩ = some mv ∧ w'.cell? ⟨w.heap.size, 3, none⟩ = some (.int .i64 (n : Int)) ∧ w'.cell? ⟨w.heap.size, 4, none⟩ = some (.slice GA gl gc)) (by kernel_rfl) (⟨c0, c1, c2, c3, c4⟩) (fun hHeld => ?_)
  change Kept _ _ _ _ 13 _ _ _
  have hdrew := bl_drew w2
  generalize w2.drew = wq22 at hdrew hHeld ⊢
  have HBB := Lib.hid hdrew
  clear c0 c1 c2 c3 c4
  clear hdrew
  refine Kept.tk 0 (v := ?_) rfl ?_ hHeld ?_
  rotate_left
  ·intro w' h; (try dsimp only at h); go_simp <;> with_reducible rfl
  try simp only [tda, tdb, tdc, Act.put, tdd, tde, tdf]
  refine Kept.tk 1 (v := ?_) rfl ?_ hHeld ?_
  rotate_left
  ·intro w' h; (try dsimp only at h); go_simp <;> with_reducible rfl
  try simp only [tda, tdb, tdc, Act.put, tdd, tde, tdf]
  refine Kept.tk 2 (v := ?_) rfl ?_ hHeld ?_
  rotate_left
  ·intro w' h; (try dsimp only at h); go_simp <;> with_reducible rfl
  try simp only [tda, tdb, tdc, Act.put, tdd, tde, tdf]
  refine Kept.two (i := 3) (j := 9) (oi := ?opa23) (oj := ?opb23) (by kernel_rfl) ?hoa23 ?hob23 (fun K hK => ?way123) (fun K hK => ?way223)
  case hoa23 => (conv => lhs; simp only [tdg, tdh, tdi])
  case hob23 => (conv => lhs; simp only [tdg, tdh, tdi])
  case way123 =>
   go_simp
   refine (cgen_any _ P M n mv GA gl gc).mono ?_
   rintro e wq24 ⟨rfl, hb⟩
   replace HBB := Lib.hid (bl_trans HBB.out hb)
   clear hb
   refine hK.out _ _ (⟨cb HBB C0, cb HBB C1, cb HBB C2, cb HBB C3, cb HBB C4⟩) (fun hHeld2 => ?_)
   clear hK K
   replace hHeld := hHeld2
   clear hHeld2
   try simp only [tda, tdb, tdc, Act.put, tdd, tde, tdf]
   refine Kept.two (i := 4) (j := 9) (oi := ?opa25) (oj := ?opb25) (by kernel_rfl) ?hoa25 ?hob25 (fun K hK => ?way125) (fun K hK => ?way225)
   case hoa25 => (conv => lhs; simp only [tdg, tdh, tdi])
   case hob25 => (conv => lhs; simp only [tdg, tdh, tdi])
   case way125 =>
    have hbs0 := HBB.out.size
    go_simp
    refine (HCA.out _ (bl_trans HB2.out HBB.out)).mono ?_
    rintro e wq26 ⟨UA, PU, pc, rfl, hx, _, hb⟩
    rw [← HK.out, ← HP.out] at hx
    rw [← HK.out, ← HP.out]
    replace hx := hx.imp (fun _ h => h.1)
    have HS4 := Lib.hid (hx.mono hbs0) 
    replace HBB := Lib.hid (bl_trans HBB.out hb)
    clear hb hx hbs0
    refine hK.out _ _ (⟨cb HBB C0, cb HBB C1, cb HBB C2, cb HBB C3, cb HBB C4⟩) (fun hHeld2 => ?_)
    clear hK K
    replace hHeld := hHeld2
    clear hHeld2
    try simp only [tda, tdb, tdc, Act.put, tdd, tde, tdf]
    refine Kept.tk 5 (v := ?_) rfl ?_ hHeld ?_
    rotate_left
    ·intro w' h; (try dsimp only at h); go_simp <;> with_reducible rfl
    try simp only [tda, tdb, tdc, Act.put, tdd, tde, tdf]
    refine Kept.tk 6 (v := ?_) rfl ?_ hHeld ?_
    rotate_left
    ·intro w' h; (try dsimp only at h); go_simp <;> with_reducible rfl
    try simp only [tda, tdb, tdc, Act.put, tdd, tde, tdf]
    refine Kept.tk 7 (v := ?_) rfl ?_ hHeld ?_
    rotate_left
    ·intro w' h; (try dsimp only at h); go_simp <;> with_reducible rfl
    try simp only [tda, tdb, tdc, Act.put, tdd, tde, tdf]
    refine Kept.tk 8 (v := ?_) rfl ?_ hHeld ?_
    rotate_left
    ·intro w' h; (try dsimp only at h); go_simp <;> with_reducible rfl
    try simp only [tda, tdb, tdc, Act.put, tdd, tde, tdf]
    refine Kept.only (i := 9) (o := ?op27) (by kernel_rfl) ?ho27 (fun K hK => ?_)
    case ho27 => (conv => lhs; simp only [tdg, tdh, tdi])
    go_simp
    obtain ⟨wq28, g, e1, e2, hX, hb⟩ := mk_box wq26 27 [.int .i64 0, .slice none 0 0]
    rw [e1, e2]
    have HBX := Lib.hid hX
    have hgi : w2.heap.size ≤ g := (by have := HBB.out.size; omega)
    have HSF : Hid (∀ w9, World.grownBy wq28 w9 (some g) → Sep w2.heap.size w9 fun w9 => SS w9 (.slice UA k k) C) := hid' (fun w9 hg => sep_far HS4.out hb (by omega) hg) 
    replace HBB := Lib.hid (bl_trans HBB.out hb)
    clear e1 e2 hX hb
    refine hK.out _ _ (⟨cb HBB C0, cb HBB C1, cb HBB C2, cb HBB C3, cb HBB C4⟩) (fun hHeld2 => ?_)
    clear hK K
    replace hHeld := hHeld2
    clear hHeld2
    try simp only [tda, tdb, tdc, Act.put, tdd, tde, tdf]
    refine Kept.only (i := 10) (o := ?op29) (by kernel_rfl) ?ho29 (fun K hK => ?_)
    case ho29 => (conv => lhs; simp only [tdg, tdh, tdi])
    obtain ⟨b0, b1, f0, f1⟩ := HBX.out.two
    go_simp
    obtain ⟨wq30, h6, HL⟩ := lay2 (x := .int .i64 (n : Int)) (y := .slice UA k k) HBX.out
    rw [h6]
    have HS6 := Lib.hid (HSF.out _ HL.gr)
    have HBY := Lib.hid HL.blk
    replace HBB := Lib.hid (HL.below HBB.out HBB.out.size hgi)
    clear b0 b1 f0 f1 h6 HL HBX
    refine hK.out _ _ (⟨cb HBB C0, cb HBB C1, cb HBB C2, cb HBB C3, cb HBB C4⟩) (fun hHeld2 => ?_)
    clear hK K
    replace hHeld := hHeld2
    clear hHeld2
    try simp only [tda, tdb, tdc, Act.put, tdd, tde, tdf]
    refine Kept.tk 11 (v := ?_) rfl ?_ hHeld ?_
    rotate_left
    ·intro w' h; (try dsimp only at h); go_simp <;> with_reducible rfl
    try simp only [tda, tdb, tdc, Act.put, tdd, tde, tdf]
    refine Kept.only (i := 12) (by kernel_rfl) rfl (fun K hK => ?_)
    go_simp
    refine hK.out _ _ hHeld (fun hHeld2 => ?_)
    clear hK K
    clear hHeld2
    refine Kept.done (by kernel_rfl) ?_
    try simp only [tda, tdb, tdc, Act.put, tdd, tde, tdf]
    clear hHeld
    go_wp2_with fail
    go_meet
    exact ⟨g, UA, PU, pc, rfl, rfl, rfl, hgi, HBY, HS6, HBB⟩
   case way225 =>
    go_simp
    obtain ⟨wq31, g, e1, e2, hX, hb⟩ := mk_box wq24 27 [.int .i64 0, .slice none 0 0]
    rw [e1, e2]
    have HBX := Lib.hid hX
    have hgi : w2.heap.size ≤ g := (by have := HBB.out.size; omega)
    replace HBB := Lib.hid (bl_trans HBB.out hb)
    clear e1 e2 hX hb
    refine hK.out _ _ (⟨cb HBB C0, cb HBB C1, cb HBB C2, cb HBB C3, cb HBB C4⟩) (fun hHeld2 => ?_)
    clear hK K
    replace hHeld := hHeld2
    clear hHeld2
    try simp only [tda, tdb, tdc, Act.put, tdd, tde, tdf]
    refine Kept.only (i := 4) (o := ?op32) (by kernel_rfl) ?ho32 (fun K hK => ?_)
    case ho32 => (conv => lhs; simp only [tdg, tdh, tdi])
    have hbs0 := HBB.out.size
    go_simp
    refine (HCA.out _ (bl_trans HB2.out HBB.out)).mono ?_
    rintro e wq33 ⟨UA, PU, pc, rfl, hx, _, hb⟩
    rw [← HK.out, ← HP.out] at hx
    rw [← HK.out, ← HP.out]
    replace hx := hx.imp (fun _ h => h.1)
    have hglt := HBX.out.lt 
    have HSF : Hid (∀ w9, World.grownBy wq33 w9 (some g) → Sep w2.heap.size w9 fun w9 => SS w9 (.slice UA k k) C) := hid' (fun w9 hg => (hx.grown hg (by rintro b e; cases e; exact hglt)).mono hbs0) 
    clear hglt 
    replace HBX := Lib.hid (HBX.out.belowS hb) 
    replace HBB := Lib.hid (bl_trans HBB.out hb)
    clear hb hx hbs0
    refine hK.out _ _ (⟨cb HBB C0, cb HBB C1, cb HBB C2, cb HBB C3, cb HBB C4⟩) (fun hHeld2 => ?_)
    clear hK K
    replace hHeld := hHeld2
    clear hHeld2
    try simp only [tda, tdb, tdc, Act.put, tdd, tde, tdf]
    refine Kept.tk 5 (v := ?_) rfl ?_ hHeld ?_
    rotate_left
    ·intro w' h; (try dsimp only at h); go_simp <;> with_reducible rfl
    try simp only [tda, tdb, tdc, Act.put, tdd, tde, tdf]
    refine Kept.tk 6 (v := ?_) rfl ?_ hHeld ?_
    rotate_left
    ·intro w' h; (try dsimp only at h); go_simp <;> with_reducible rfl
    try simp only [tda, tdb, tdc, Act.put, tdd, tde, tdf]
    refine Kept.tk 7 (v := ?_) rfl ?_ hHeld ?_
    rotate_left
    ·intro w' h; (try dsimp only at h); go_simp <;> with_reducible rfl
    try simp only [tda, tdb, tdc, Act.put, tdd, tde, tdf]
    refine Kept.tk 8 (v := ?_) rfl ?_ hHeld ?_
    rotate_left
    ·intro w' h; (try dsimp only at h); go_simp <;> with_reducible rfl
    try simp only [tda, tdb, tdc, Act.put, tdd, tde, tdf]
    refine Kept.only (i := 10) (o := ?op34) (by kernel_rfl) ?ho34 (fun K hK => ?_)
    case ho34 => (conv => lhs; simp only [tdg, tdh, tdi])
    obtain ⟨b0, b1, f0, f1⟩ := HBX.out.two
    go_simp
    obtain ⟨wq35, h6, HL⟩ := lay2 (x := .int .i64 (n : Int)) (y := .slice UA k k) HBX.out
    rw [h6]
    have HS6 := Lib.hid (HSF.out _ HL.gr)
    have HBY := Lib.hid HL.blk
    replace HBB := Lib.hid (HL.below HBB.out HBB.out.size hgi)
    clear b0 b1 f0 f1 h6 HL HBX
    refine hK.out _ _ (⟨cb HBB C0, cb HBB C1, cb HBB C2, cb HBB C3, cb HBB C4⟩) (fun hHeld2 => ?_)
    clear hK K
    replace hHeld := hHeld2
    clear hHeld2
    try simp only [tda, tdb, tdc, Act.put, tdd, tde, tdf]
    refine Kept.tk 11 (v := ?_) rfl ?_ hHeld ?_
    rotate_left
    ·intro w' h; (try dsimp only at h); go_simp <;> with_reducible rfl
    try simp only [tda, tdb, tdc, Act.put, tdd, tde, tdf]
    refine Kept.only (i := 12) (by kernel_rfl) rfl (fun K hK => ?_)
    go_simp
    refine hK.out _ _ hHeld (fun hHeld2 => ?_)
    clear hK K
    clear hHeld2
    refine Kept.done (by kernel_rfl) ?_
    try simp only [tda, tdb, tdc, Act.put, tdd, tde, tdf]
    clear hHeld
    go_wp2_with fail
    go_meet
    exact ⟨g, UA, PU, pc, rfl, rfl, rfl, hgi, HBY, HS6, HBB⟩
  case way223 =>
   go_simp
   obtain ⟨wq36, g, e1, e2, hX, hb⟩ := mk_box wq22 27 [.int .i64 0, .slice none 0 0]
   rw [e1, e2]
   have HBX := Lib.hid hX
   have hgi : w2.heap.size ≤ g := (by have := HBB.out.size; omega)
   replace HBB := Lib.hid (bl_trans HBB.out hb)
   clear e1 e2 hX hb
   refine hK.out _ _ (⟨cb HBB C0, cb HBB C1, cb HBB C2, cb HBB C3, cb HBB C4⟩) (fun hHeld2 => ?_)
   clear hK K
   replace hHeld := hHeld2
   clear hHeld2
   try simp only [tda, tdb, tdc, Act.put, tdd, tde, tdf]
   refine Kept.only (i := 3) (o := ?op37) (by kernel_rfl) ?ho37 (fun K hK => ?_)
   case ho37 => (conv => lhs; simp only [tdg, tdh, tdi])
   go_simp
   refine (cgen_any _ P M n mv GA gl gc).mono ?_
   rintro e wq38 ⟨rfl, hb⟩
   replace HBX := Lib.hid (HBX.out.belowS hb) 
   replace HBB := Lib.hid (bl_trans HBB.out hb)
   clear hb
   refine hK.out _ _ (⟨cb HBB C0, cb HBB C1, cb HBB C2, cb HBB C3, cb HBB C4⟩) (fun hHeld2 => ?_)
   clear hK K
   replace hHeld := hHeld2
   clear hHeld2
   try simp only [tda, tdb, tdc, Act.put, tdd, tde, tdf]
   refine Kept.only (i := 4) (o := ?op39) (by kernel_rfl) ?ho39 (fun K hK => ?_)
   case ho39 => (conv => lhs; simp only [tdg, tdh, tdi])
   have hbs0 := HBB.out.size
   go_simp
   refine (HCA.out _ (bl_trans HB2.out HBB.out)).mono ?_
   rintro e wq40 ⟨UA, PU, pc, rfl, hx, _, hb⟩
   rw [← HK.out, ← HP.out] at hx
   rw [← HK.out, ← HP.out]
   replace hx := hx.imp (fun _ h => h.1)
   have hglt := HBX.out.lt 
   have HSF : Hid (∀ w9, World.grownBy wq40 w9 (some g) → Sep w2.heap.size w9 fun w9 => SS w9 (.slice UA k k) C) := hid' (fun w9 hg => (hx.grown hg (by rintro b e; cases e; exact hglt)).mono hbs0) 
   clear hglt 
   replace HBX := Lib.hid (HBX.out.belowS hb) 
   replace HBB := Lib.hid (bl_trans HBB.out hb)
   clear hb hx hbs0
   refine hK.out _ _ (⟨cb HBB C0, cb HBB C1, cb HBB C2, cb HBB C3, cb HBB C4⟩) (fun hHeld2 => ?_)
   clear hK K
   replace hHeld := hHeld2
   clear hHeld2
   try simp only [tda, tdb, tdc, Act.put, tdd, tde, tdf]
   refine Kept.tk 5 (v := ?_) rfl ?_ hHeld ?_
   rotate_left
   ·intro w' h; (try dsimp only at h); go_simp <;> with_reducible rfl
   try simp only [tda, tdb, tdc, Act.put, tdd, tde, tdf]
   refine Kept.tk 6 (v := ?_) rfl ?_ hHeld ?_
   rotate_left
   ·intro w' h; (try dsimp only at h); go_simp <;> with_reducible rfl
   try simp only [tda, tdb, tdc, Act.put, tdd, tde, tdf]
   refine Kept.tk 7 (v := ?_) rfl ?_ hHeld ?_
   rotate_left
   ·intro w' h; (try dsimp only at h); go_simp <;> with_reducible rfl
   try simp only [tda, tdb, tdc, Act.put, tdd, tde, tdf]
   refine Kept.tk 8 (v := ?_) rfl ?_ hHeld ?_
   rotate_left
   ·intro w' h; (try dsimp only at h); go_simp <;> with_reducible rfl
   try simp only [tda, tdb, tdc, Act.put, tdd, tde, tdf]
   refine Kept.only (i := 10) (o := ?op41) (by kernel_rfl) ?ho41 (fun K hK => ?_)
   case ho41 => (conv => lhs; simp only [tdg, tdh, tdi])
   obtain ⟨b0, b1, f0, f1⟩ := HBX.out.two
   go_simp
   obtain ⟨wq42, h6, HL⟩ := lay2 (x := .int .i64 (n : Int)) (y := .slice UA k k) HBX.out
   rw [h6]
   have HS6 := Lib.hid (HSF.out _ HL.gr)
   have HBY := Lib.hid HL.blk
   replace HBB := Lib.hid (HL.below HBB.out HBB.out.size hgi)
   clear b0 b1 f0 f1 h6 HL HBX
   refine hK.out _ _ (⟨cb HBB C0, cb HBB C1, cb HBB C2, cb HBB C3, cb HBB C4⟩) (fun hHeld2 => ?_)
   clear hK K
   replace hHeld := hHeld2
   clear hHeld2
   try simp only [tda, tdb, tdc, Act.put, tdd, tde, tdf]
   refine Kept.tk 11 (v := ?_) rfl ?_ hHeld ?_
   rotate_left
   ·intro w' h; (try dsimp only at h); go_simp <;> with_reducible rfl
   try simp only [tda, tdb, tdc, Act.put, tdd, tde, tdf]
   refine Kept.only (i := 12) (by kernel_rfl) rfl (fun K hK => ?_)
   go_simp
   refine hK.out _ _ hHeld (fun hHeld2 => ?_)
   clear hK K
   clear hHeld2
   refine Kept.done (by kernel_rfl) ?_
   try simp only [tda, tdb, tdc, Act.put, tdd, tde, tdf]
   clear hHeld
   go_wp2_with fail
   go_meet
   exact ⟨g, UA, PU, pc, rfl, rfl, rfl, hgi, HBY, HS6, HBB⟩
 case rest =>
  clear c0 c1 c2 c3 c4
  obtain ⟨g, UA, PU, pc, rfl, rfl, rfl, hg, HBY, HS5, HBB⟩ := hcut
  have HQ3 := Lib.hid (HQ2.out.on HBB.out)
  have hs1 := HQ2.out.cb.bel.size
  have hq2 := HQ2.out.q.lt
  clear C0 C1 C2 C3 C4
  have x0 : wc.cell? ⟨g, 0, none⟩ = some (.int .i64 (n : Int)) := HBY.out.cell 0
  have x1 : wc.cell? ⟨g, 1, none⟩ = some (.slice UA k k) := HBY.out.cell 1
  obtain ⟨d0, d1, f0, f1⟩ := HQ3.out.q.two
  go_wp2_with fail
  obtain ⟨wz, hz, HL⟩ := lay2 (x := .int .i64 (n : Int)) (y := .slice UA k k) HQ3.out.q
  rw [hz]
  have q0 := HL.c0; have q1 := HL.c1
  refine bodyPost_ret (v := .tuple #[.agg #[.int .i64 (n : Int), .slice UA k k], .int .i64 0]) (by simp [results, Tryz.results29, go_sem, q0, q1]) rfl ?_
  exact ⟨_, rfl, (HS5.out.grown HL.gr (by rintro b e; cases e; omega)).mono hs1, HL.below HQ3.out.cb.bel HQ3.out.cb.bel.size (by omega)⟩
set_option maxHeartbeats 4000000 in
theorem clist1_any (w : World) (g a : Nat) (P M x : Int) (Mod : List Int) (hG : GF w a P M Mod) (hc : w.cell? ⟨g, 0, none⟩ = some (.pointer (some ⟨a, 0, none⟩))) :
  Calls Tryz.prog 117 #[.int .i64 x, .pointer (some ⟨g, 0, none⟩)] w (fun e w' => e = .returned (.bool (!(isB P M x))) ∧ w = w') := by
 have HG := Lib.hid hG; clear hG
 go_enter Tryz.func117, Tryz.ntmps117
 go_wp2_with fail
 refine (gis_any _ a P M x Mod HG.out).mono ?_
 rintro e w1 ⟨rfl, rfl⟩
 go_wp2_with fail
 go_ret
 exact ⟨rfl, rfl⟩
set_option maxHeartbeats 4000000 in
theorem indexC_any (w : World) (g a : Nat) (P M : Int) (Mod : List Int) (v : Value) (xs : List Int) (hG : GF w a P M Mod) (hc : w.cell? ⟨g, 0, none⟩ = some (.pointer (some ⟨a, 0, none⟩))) (hv : SI w v xs) :
  Calls Tryz.prog 147 #[v, .func (.func 117) #[] #[.pointer (some ⟨g, 0, none⟩)]] w (fun e w' => ∃ z, e = .returned (.int .i64 z) ∧ decide (0 ≤ z) = decide (entriesF (orderF P M) xs ≠ 0) ∧ w = w') := by
 obtain ⟨A, c, rfl, hv⟩ := hv
 have hn := hv.len
 have HV := Lib.hid hv; have HG := Lib.hid hG; have HC := Lib.hid hc; clear hv hG hc
 go_enter Tryz.func147, Tryz.ntmps147
 go_wp2_with fail
 go_loop [8] (fun i => ∃ k : Nat, k ≤ xs.length ∧ i = .int .i64 (k : Int) ∧ Hid (∀ j, j < k → 0 ≤ xs.getD j 0 ∧ xs.getD j 0 < orderF P M)) (fun i => xs.length - (intOf i).toNat)
 case atStart => exact ⟨0, Nat.zero_le _, rfl, hid' fun j hj => absurd hj (Nat.not_lt_zero _)⟩
 case round =>
  obtain ⟨k, hk, rfl, HK⟩ := hrel
  by_cases hlt : k < xs.length
  ·obtain ⟨ad, x, rfl, hcc, _, HX⟩ := HV.out.elt hlt
   go_wp2_with fail
   refine (clist1_any _ g a P M x Mod HG.out HC.out).mono ?_
   rintro e w1 ⟨rfl, rfl⟩
   by_cases hx : 0 ≤ x ∧ x < orderF P M
   ·rw [isB_true hx]
    have HXX := Lib.hid hx; clear hx
    go_wp2_with fail
    go_round
    case rel => exact ⟨k + 1, by omega, by go_num, hid' fun j hj => by
     by_cases e : j = k
     ·subst e; rw [HX.out]; exact HXX.out
     ·exact HK.out j (by omega)⟩
    case measure => simp [intOf]; omega
   ·rw [isB_false hx]
    have HE : Hid (entriesF (orderF P M) xs = 2) := entriesF_bad hlt (by rw [HX.out]; exact hx)
    clear hx
    go_wp2_with fail
    go_ret
    refine ⟨_, rfl, ?_, rfl⟩
    rw [HE.out]
    show decide ((0 : Int) ≤ (k : Int)) = true
    rw [decide_eq_true_eq]; omega
  ·obtain rfl : xs.length = k := by omega
   have HE : Hid (entriesF (orderF P M) xs = 0) := entriesF_ok HK.out
   go_wp2_with fail
   go_ret
   refine ⟨_, rfl, ?_, rfl⟩
   rw [HE.out]; rfl
set_option maxHeartbeats 8000000 in
theorem containsC_any (w : World) (g a : Nat) (P M : Int) (Mod : List Int) (v : Value) (xs : List Int) (hG : GF w a P M Mod) (hc : w.cell? ⟨g, 0, none⟩ = some (.pointer (some ⟨a, 0, none⟩))) (hv : SI w v xs) :
  Calls Tryz.prog 116 #[v, .func (.func 117) #[] #[.pointer (some ⟨g, 0, none⟩)]] w (fun e w' => e = .returned (.bool (decide (entriesF (orderF P M) xs ≠ 0))) ∧ w = w') := by
 have HI := Lib.hid (indexC_any w g a P M Mod v xs hG hc hv)
 clear hG hc hv
 go_enter Tryz.func116, Tryz.ntmps116
 go_wp2_with fail
 refine HI.out.mono ?_
 rintro e w2 ⟨z, rfl, hz, rfl⟩
 have HZ := Lib.hid hz; clear hz
 go_wp2_with fail
 go_ret
 exact ⟨by rw [← HZ.out]; rfl, rfl⟩
set_option maxHeartbeats 8000000 in
theorem cList_ok (w : World) (P M n : Int) (mv xv : Value) (Mod x : List Int) (hm : SI w mv Mod) (hx : SI w xv x) (hf : FieldP P M Mod) (hl : (x.length : Int) = n) (he : entriesF (orderF P M) x = 0) :
  Calls Tryz.prog 73 #[.agg #[.int .i64 P, .int .i64 M, mv], xv, .int .i64 n] w (RetI w 0) := by
 have HNW := Lib.hid (fun (w' : World) (hb : Below w.heap.size w w') => new_ok w' P M mv Mod (hm.below hb (Nat.le_refl _)) hf)
 unfold RetG at HNW
 have HX := Lib.hid hx
 have HE : Hid (decide (entriesF (orderF P M) x ≠ 0) = false) := hid' (by rw [he]; rfl)
 obtain ⟨XA, xc, rfl, _⟩ := hx
 obtain ⟨l, hll⟩ : ∃ l, l = x.length := ⟨_, rfl⟩
 rw [← hll] at HX hl ⊢
 clear hll hm hf he
 have hnb : ((l : Int) != n) = false := by rw [bne_eq_false_iff_eq]; exact hl
 clear hl
 have HF := Lib.hid (FBox.mk' w P M mv)
 go_enter Tryz.func73, Tryz.ntmps73
 go_upto_region 1 with fail
 generalize w.alloc (.cells #[.int .i64 P, .int .i64 M, mv] 24) = w0 at *
 have c0 := HF.out.c0; have c1 := HF.out.c1; have c2 := HF.out.c2
 go_wp2_with fail
 refine (HNW.out w0 HF.out.bel).mono ?_
 rintro e w1 ⟨a, rfl, hg, hb1⟩
 have HG := Lib.hid hg.out
 have HF1 := Lib.hid (HF.out.on hb1)
 clear hg hb1 c0 c1 c2
 go_upto_region 4 with fail
 obtain ⟨w2, g, e1, e2, hx2, hb2⟩ := mk_box w1 84 [.pointer (some ⟨a, 0, none⟩)]
 rw [e1, e2]
 have HF2 := Lib.hid (HF1.out.on hb2); have HG2 := Lib.hid (HG.out.on hb2); have HX2 := Lib.hid (HX.out.below HF2.out.bel (Nat.le_refl _))
 have HC := Lib.hid (containsC_any w2 g a P M Mod _ x HG2.out (hx2.cell 0) HX2.out)
 rw [HE.out] at HC
 clear e1 e2 hx2 hb2
 go_wp2_with fail
 refine HC.out.mono ?_
 rintro e w3 ⟨rfl, rfl⟩
 go_wp2_with fail
 go_ret
 exact ⟨rfl, HF2.out.bel⟩
set_option maxHeartbeats 8000000 in
theorem cWord_ok (w : World) (P M : Int) (n : Nat) (mv gv xv : Value) (Mod x : List Int) (gen : List (List Int)) (hm : SI w mv Mod) (hg : SS w gv gen) (hx : SI w xv x) (hE : codeE P M Mod n gen = 0) (hl : x.length = n) (he : entriesF (orderF P M) x = 0) :
  Calls Tryz.prog 90 #[.agg #[.int .i64 P, .int .i64 M, mv, .int .i64 (n : Int), gv], xv] w (RetI w 0) := by
 have HCK := Lib.hid (fun (w' : World) (hb : Below w.heap.size w w') => cCheck_any w' P M n mv gv Mod gen (hm.below hb (Nat.le_refl _)) (hg.below hb (Nat.le_refl _)))
 rw [hE] at HCK
 have HLI := Lib.hid (fun (w' : World) (hb : Below w.heap.size w w') => cList_ok w' P M n mv xv Mod x (hm.below hb (Nat.le_refl _)) (hx.below hb (Nat.le_refl _)) (codeE_zero hE).1 (by omega) he)
 clear hm hg hx hE hl he
 have HF := Lib.hid (CBox.mk' w P M mv n gv)
 go_enter Tryz.func90, Tryz.ntmps90
 go_upto_region 1 with fail
 generalize w.alloc (.cells #[.int .i64 P, .int .i64 M, mv, .int .i64 (n : Int), gv] 34) = w0 at *
 have c0 := HF.out.c0; have c1 := HF.out.c1; have c2 := HF.out.c2; have c3 := HF.out.c3; have c4 := HF.out.c4
 go_wp2_with fail
 refine (HCK.out w0 HF.out.bel).mono ?_
 rintro e w1 ⟨rfl, hb1⟩
 have HF1 := Lib.hid (HF.out.on hb1)
 clear hb1 c0 c1 c2 c3 c4
 have c0 := HF1.out.c0; have c1 := HF1.out.c1; have c2 := HF1.out.c2; have c3 := HF1.out.c3
 go_wp2_with fail
 refine (HLI.out w1 HF1.out.bel).mono ?_
 rintro e w2 ⟨rfl, hb2⟩
 have HF2 := Lib.hid (HF1.out.on hb2)
 clear hb2 c0 c1 c2 c3
 go_wp2_with fail
 go_ret
 exact ⟨rfl, HF2.out.bel⟩
set_option maxHeartbeats 8000000 in
theorem cHas_ok (w : World) (P M : Int) (n : Nat) (mv gv xv : Value) (Mod x : List Int) (gen : List (List Int)) (hm : SI w mv Mod) (hg : SS w gv gen) (hx : SI w xv x) (hE : codeE P M Mod n gen = 0) (hl : x.length = n) (he : entriesF (orderF P M) x = 0) :
  Calls Tryz.prog 47 #[.agg #[.int .i64 P, .int .i64 M, mv, .int .i64 (n : Int), gv], xv] w (fun e w' => e = .returned (.tuple #[.bool (inL (refOps P M Mod) gen x), .int .i64 0]) ∧ Below w.heap.size w w') := by
 have hsp : spaceE P M Mod n gen = 0 := by
  unfold codeE at hE
  split at hE
  ·rename_i h; exact absurd hE h
  split at hE
  ·exact hE
  ·cases hE
 have HWD := Lib.hid (fun (w' : World) (hb : Below w.heap.size w w') => cWord_ok w' P M n mv gv xv Mod x gen (hm.below hb (Nat.le_refl _)) (hg.below hb (Nat.le_refl _)) (hx.below hb (Nat.le_refl _)) hE hl he)
 have HSH := Lib.hid (fun (w' : World) (hb : Below w.heap.size w w') => sHas_ok w' P M n mv gv xv Mod gen x (hm.below hb (Nat.le_refl _)) (hg.below hb (Nat.le_refl _)) (hx.below hb (Nat.le_refl _)) hsp (by unfold vecE; rw [if_pos (by omega)]; exact he))
 obtain ⟨GA, gc, rfl, _⟩ := hg
 generalize gen.length = gl at *
 clear hm hx hE hl he hsp
 have HF := Lib.hid (CBox.mk' w P M mv n (.slice GA gl gc))
 go_enter Tryz.func47, Tryz.ntmps47
 go_upto_region 1 with fail
 generalize w.alloc (.cells #[.int .i64 P, .int .i64 M, mv, .int .i64 (n : Int), .slice GA gl gc] 34) = w0 at *
 have c0 := HF.out.c0; have c1 := HF.out.c1; have c2 := HF.out.c2; have c3 := HF.out.c3; have c4 := HF.out.c4
 go_wp2_with fail
 refine (HWD.out w0 HF.out.bel).mono ?_
 rintro e w1 ⟨rfl, hb1⟩
 have HF1 := Lib.hid (HF.out.on hb1)
 clear hb1 c0 c1 c2 c3 c4
 have c0 := HF1.out.c0; have c1 := HF1.out.c1; have c2 := HF1.out.c2; have c3 := HF1.out.c3; have c4 := HF1.out.c4
 go_upto_region 4 with fail
 refine Kept.start (S := fun w' => w'.cell? ⟨w.heap.size, 0, none⟩ = some (.int .i64 P) ∧ w'.cell? ⟨w.heap.size, 1, none⟩ = some (.int .i64 M) ∧ w'.cell? ⟨w.heap.size, 2, none⟩ = some mv ∧ w'.cell? ⟨w.heap.size, 3, none⟩ = some (.int .i64 (n : Int)) ∧ w'.cell? ⟨w.heap.size, 4, none⟩ = some (.slice GA gl gc)) (by kernel_rfl) (⟨c0, c1, c2, c3, c4⟩) (fun hHeld => ?_)
 change Kept _ _ _ _ 10 _ _ _
 refine Kept.tk 0 (v := ?_) rfl ?_ hHeld ?_
 rotate_left
 ·intro w' h; (try dsimp only at h); go_simp <;> with_reducible rfl
 try simp only [tda, tdb, tdc, Act.put, tdd, tde, tdf]
 refine Kept.tk 1 (v := ?_) rfl ?_ hHeld ?_
 rotate_left
 ·intro w' h; (try dsimp only at h); go_simp <;> with_reducible rfl
 try simp only [tda, tdb, tdc, Act.put, tdd, tde, tdf]
 refine Kept.tk 2 (v := ?_) rfl ?_ hHeld ?_
 rotate_left
 ·intro w' h; (try dsimp only at h); go_simp <;> with_reducible rfl
 try simp only [tda, tdb, tdc, Act.put, tdd, tde, tdf]
 refine Kept.tk 4 (v := ?_) rfl ?_ hHeld ?_
 rotate_left
 ·intro w' h; (try dsimp only at h); go_simp <;> with_reducible rfl
 try simp only [tda, tdb, tdc, Act.put, tdd, tde, tdf]
 refine Kept.only (i := 3) (by kernel_rfl) rfl (fun K hK => ?_)
 go_simp
 refine (cgen_any _ P M n mv GA gl gc).mono ?_; rintro e w3 ⟨rfl, hb3⟩; have HF3 := Lib.hid (HF1.out.on (bl_trans (bl_drew w1) hb3)); clear hb3
 refine hK.out _ _ (⟨HF3.out.c0, HF3.out.c1, HF3.out.c2, HF3.out.c3, HF3.out.c4⟩) (fun hHeld2 => ?_)
 clear hK K
 replace hHeld := hHeld2
 clear hHeld2
 try simp only [tda, tdb, tdc, Act.put, tdd, tde, tdf]
 refine Kept.only (i := 5) (by kernel_rfl) rfl (fun K hK => ?_)
 go_simp
 refine (HSH.out w3 HF3.out.bel).mono ?_; rintro e w4 ⟨rfl, hb4⟩; have HF4 := Lib.hid (HF3.out.on hb4); clear hb4
 refine hK.out _ _ (⟨HF4.out.c0, HF4.out.c1, HF4.out.c2, HF4.out.c3, HF4.out.c4⟩) (fun hHeld2 => ?_)
 clear hK K
 replace hHeld := hHeld2
 clear hHeld2
 try simp only [tda, tdb, tdc, Act.put, tdd, tde, tdf]
 refine Kept.tk 6 (v := ?_) rfl ?_ hHeld ?_
 rotate_left
 ·intro w' h; (try dsimp only at h); go_simp <;> with_reducible rfl
 try simp only [tda, tdb, tdc, Act.put, tdd, tde, tdf]
 refine Kept.tk 7 (v := ?_) rfl ?_ hHeld ?_
 rotate_left
 ·intro w' h; (try dsimp only at h); go_simp <;> with_reducible rfl
 try simp only [tda, tdb, tdc, Act.put, tdd, tde, tdf]
 refine Kept.tk 8 (v := ?_) rfl ?_ hHeld ?_
 rotate_left
 ·intro w' h; (try dsimp only at h); go_simp <;> with_reducible rfl
 try simp only [tda, tdb, tdc, Act.put, tdd, tde, tdf]
 refine Kept.only (i := 9) (by kernel_rfl) rfl (fun K hK => ?_)
 go_simp
 refine hK.out _ _ hHeld (fun hHeld2 => ?_)
 clear hK K
 clear hHeld2
 refine Kept.done (by kernel_rfl) ?_
 try simp only [tda, tdb, tdc, Act.put, tdd, tde, tdf]
 clear hHeld
 clear c0 c1 c2 c3 c4
 go_wp2_with fail
 go_ret2
 exact ⟨rfl, HF4.out.bel⟩
set_option maxHeartbeats 8000000 in
theorem cList_any (w : World) (P M n : Int) (mv xv : Value) (Mod x : List Int) (hm : SI w mv Mod) (hx : SI w xv x) (hf : FieldP P M Mod) :
  Calls Tryz.prog 73 #[.agg #[.int .i64 P, .int .i64 M, mv], xv, .int .i64 n] w (RetI w (listF (orderF P M) x n)) := by
 by_cases hl : (x.length : Int) = n
 case neg =>
  have HE : Hid (listF (orderF P M) x n = 4) := hid' (by unfold listF; rw [if_neg hl])
  obtain ⟨XA, xc, rfl, _⟩ := hx
  obtain ⟨l, hll⟩ : ∃ l, l = x.length := ⟨_, rfl⟩
  rw [← hll] at hl ⊢
  clear hll hm hf
  have hnb : ((l : Int) != n) = true := by rw [bne_iff_ne]; exact hl
  clear hl
  have HF := Lib.hid (FBox.mk' w P M mv)
  go_enter Tryz.func73, Tryz.ntmps73
  go_upto_region 1 with fail
  generalize w.alloc (.cells #[.int .i64 P, .int .i64 M, mv] 24) = w0 at *
  go_wp2_with fail
  go_ret
  exact ⟨by rw [HE.out]; rfl, HF.out.bel⟩
 by_cases he : entriesF (orderF P M) x = 0
 ·rw [show listF (orderF P M) x n = 0 by unfold listF; rw [if_pos hl, he]]
  exact cList_ok w P M n mv xv Mod x hm hx hf hl he
 have he2 : entriesF (orderF P M) x = 2 := by rcases entriesF_cases (orderF P M) x with h | h; exact absurd h he; exact h
 rw [show listF (orderF P M) x n = 2 by unfold listF; rw [if_pos hl, he2]]
 have HNW := Lib.hid (fun (w' : World) (hb : Below w.heap.size w w') => new_ok w' P M mv Mod (hm.below hb (Nat.le_refl _)) hf)
 unfold RetG at HNW
 have HX := Lib.hid hx
 have HE : Hid (decide (entriesF (orderF P M) x ≠ 0) = true) := hid' (by rw [he2]; rfl)
 obtain ⟨XA, xc, rfl, _⟩ := hx
 obtain ⟨l, hll⟩ : ∃ l, l = x.length := ⟨_, rfl⟩
 rw [← hll] at HX hl ⊢
 clear hll hm hf he he2
 have hnb : ((l : Int) != n) = false := by rw [bne_eq_false_iff_eq]; exact hl
 clear hl
 have HF := Lib.hid (FBox.mk' w P M mv)
 go_enter Tryz.func73, Tryz.ntmps73
 go_upto_region 1 with fail
 generalize w.alloc (.cells #[.int .i64 P, .int .i64 M, mv] 24) = w0 at *
 have c0 := HF.out.c0; have c1 := HF.out.c1; have c2 := HF.out.c2
 go_wp2_with fail
 refine (HNW.out w0 HF.out.bel).mono ?_
 rintro e w1 ⟨a, rfl, hg, hb1⟩
 have HG := Lib.hid hg.out
 have HF1 := Lib.hid (HF.out.on hb1)
 clear hg hb1 c0 c1 c2
 go_upto_region 4 with fail
 obtain ⟨w2, g, e1, e2, hx2, hb2⟩ := mk_box w1 84 [.pointer (some ⟨a, 0, none⟩)]
 rw [e1, e2]
 have HF2 := Lib.hid (HF1.out.on hb2); have HG2 := Lib.hid (HG.out.on hb2); have HX2 := Lib.hid (HX.out.below HF2.out.bel (Nat.le_refl _))
 have HC := Lib.hid (containsC_any w2 g a P M Mod _ x HG2.out (hx2.cell 0) HX2.out)
 rw [HE.out] at HC
 clear e1 e2 hx2 hb2
 go_wp2_with fail
 refine HC.out.mono ?_
 rintro e w3 ⟨rfl, rfl⟩
 go_wp2_with fail
 go_ret
 exact ⟨rfl, HF2.out.bel⟩
set_option maxHeartbeats 8000000 in
theorem cWord_any (w : World) (P M n : Int) (mv gv xv : Value) (Mod x : List Int) (gen : List (List Int)) (hm : SI w mv Mod) (hg : SS w gv gen) (hx : SI w xv x) :
  Calls Tryz.prog 90 #[.agg #[.int .i64 P, .int .i64 M, mv, .int .i64 n, gv], xv] w (RetI w (wordE P M Mod n gen x)) := by
 have HCK := Lib.hid (fun (w' : World) (hb : Below w.heap.size w w') => cCheck_any w' P M n mv gv Mod gen (hm.below hb (Nat.le_refl _)) (hg.below hb (Nat.le_refl _)))
 by_cases hE : codeE P M Mod n gen = 0
 case neg =>
  have HE : Hid (wordE P M Mod n gen x = codeE P M Mod n gen) := hid' (by unfold wordE; rw [if_neg hE])
  rw [HE.out]
  have e2 : (codeE P M Mod n gen != 0) = true := by rw [bne_iff_ne]; exact hE
  generalize codeE P M Mod n gen = er at *
  clear hE hm hg hx HE
  have HF := Lib.hid (CBox.mk' w P M mv n gv)
  go_enter Tryz.func90, Tryz.ntmps90
  go_upto_region 1 with fail
  generalize w.alloc (.cells #[.int .i64 P, .int .i64 M, mv, .int .i64 n, gv] 34) = w0 at *
  have c0 := HF.out.c0; have c1 := HF.out.c1; have c2 := HF.out.c2; have c3 := HF.out.c3; have c4 := HF.out.c4
  go_wp2_with fail
  refine (HCK.out w0 HF.out.bel).mono ?_
  rintro e w1 ⟨rfl, hb1⟩
  have HF1 := Lib.hid (HF.out.on hb1)
  clear hb1 c0 c1 c2 c3 c4
  go_wp2_with fail
  go_ret
  exact ⟨rfl, HF1.out.bel⟩
 have HE : Hid (wordE P M Mod n gen x = listF (orderF P M) x n) := hid' (by unfold wordE; rw [if_pos hE])
 rw [HE.out]
 have HLI := Lib.hid (fun (w' : World) (hb : Below w.heap.size w w') => cList_any w' P M n mv xv Mod x (hm.below hb (Nat.le_refl _)) (hx.below hb (Nat.le_refl _)) (codeE_zero hE).1)
 rw [hE] at HCK
 generalize listF (orderF P M) x n = er at *
 clear hm hg hx hE HE
 have HF := Lib.hid (CBox.mk' w P M mv n gv)
 go_enter Tryz.func90, Tryz.ntmps90
 go_upto_region 1 with fail
 generalize w.alloc (.cells #[.int .i64 P, .int .i64 M, mv, .int .i64 n, gv] 34) = w0 at *
 have c0 := HF.out.c0; have c1 := HF.out.c1; have c2 := HF.out.c2; have c3 := HF.out.c3; have c4 := HF.out.c4
 go_wp2_with fail
 refine (HCK.out w0 HF.out.bel).mono ?_
 rintro e w1 ⟨rfl, hb1⟩
 have HF1 := Lib.hid (HF.out.on hb1)
 clear hb1 c0 c1 c2 c3 c4
 have c0 := HF1.out.c0; have c1 := HF1.out.c1; have c2 := HF1.out.c2; have c3 := HF1.out.c3
 go_wp2_with fail
 refine (HLI.out w1 HF1.out.bel).mono ?_
 rintro e w2 ⟨rfl, hb2⟩
 have HF2 := Lib.hid (HF1.out.on hb2)
 clear hb2 c0 c1 c2 c3
 go_wp2_with fail
 go_ret
 exact ⟨rfl, HF2.out.bel⟩
set_option maxHeartbeats 8000000 in
theorem cHas_any (w : World) (P M n : Int) (mv gv xv : Value) (Mod x : List Int) (gen : List (List Int)) (hm : SI w mv Mod) (hg : SS w gv gen) (hx : SI w xv x) :
  Calls Tryz.prog 47 #[.agg #[.int .i64 P, .int .i64 M, mv, .int .i64 n, gv], xv] w (RetBE w (hasB P M Mod n gen x) (wordE P M Mod n gen x)) := by
 by_cases hE : wordE P M Mod n gen x = 0
 ·have hc : codeE P M Mod n gen = 0 := Decidable.byContradiction fun h => h (by unfold wordE at hE; rwa [if_neg h] at hE)
  have hl : listF (orderF P M) x n = 0 := by unfold wordE at hE; rwa [if_pos hc] at hE
  obtain ⟨hf, hn1, hn2, _⟩ := codeE_zero hc
  obtain ⟨N, rfl⟩ : ∃ N : Nat, n = (N : Int) := ⟨n.toNat, by omega⟩
  have h1 := listF_zero hl
  have h := cHas_ok w P M N mv gv xv Mod x gen hm hg hx hc (by omega) (entriesF_ok fun k hk => h1.2 k hk)
  have hb : hasB P M Mod N gen x = inL (refOps P M Mod) gen x := by unfold hasB; rw [if_pos hE]
  rw [hE, hb]
  exact h
 ·have HWD := Lib.hid (fun (w' : World) (hb : Below w.heap.size w w') => cWord_any w' P M n mv gv xv Mod x gen (hm.below hb (Nat.le_refl _)) (hg.below hb (Nat.le_refl _)) (hx.below hb (Nat.le_refl _)))
  have hb : hasB P M Mod n gen x = false := by unfold hasB; rw [if_neg hE]
  rw [hb]
  have e2 : (wordE P M Mod n gen x != 0) = true := by rw [bne_iff_ne]; exact hE
  generalize wordE P M Mod n gen x = er at *
  clear hE hm hg hx hb
  have HF := Lib.hid (CBox.mk' w P M mv n gv)
  go_enter Tryz.func47, Tryz.ntmps47
  go_upto_region 1 with fail
  generalize w.alloc (.cells #[.int .i64 P, .int .i64 M, mv, .int .i64 n, gv] 34) = w0 at *
  have c0 := HF.out.c0; have c1 := HF.out.c1; have c2 := HF.out.c2; have c3 := HF.out.c3; have c4 := HF.out.c4
  go_wp2_with fail
  refine (HWD.out w0 HF.out.bel).mono ?_
  rintro e w1 ⟨rfl, hb1⟩
  have HF1 := Lib.hid (HF.out.on hb1)
  clear hb1 c0 c1 c2 c3 c4
  go_wp2_with fail
  go_ret2
  exact ⟨rfl, HF1.out.bel⟩
set_option maxHeartbeats 8000000 in
theorem cDual_no (w : World) (P M n : Int) (mv gv : Value) (Mod : List Int) (gen : List (List Int)) (hm : SI w mv Mod) (hg : SS w gv gen) (hE : codeE P M Mod n gen ≠ 0) :
  Calls Tryz.prog 34 #[.agg #[.int .i64 P, .int .i64 M, mv, .int .i64 n, gv]] w (RetCE w 0 0 [] 0 [] (codeE P M Mod n gen)) := by
 have HCK := Lib.hid (fun (w' : World) (hb : Below w.heap.size w w') => cCheck_any w' P M n mv gv Mod gen (hm.below hb (Nat.le_refl _)) (hg.below hb (Nat.le_refl _)))
 have e2 : (codeE P M Mod n gen != 0) = true := by rw [bne_iff_ne]; exact hE
 generalize codeE P M Mod n gen = er at *
 clear hm hg hE
 obtain ⟨w1, e1, hq⟩ := CCQ.mk' w P M mv n gv
 have HQ := Lib.hid hq; have HE1 := Lib.hid e1; clear hq e1
 go_enter Tryz.func34, Tryz.ntmps34
 go_upto_region 1 with fail
 rw [HE1.out]
 clear HE1
 have c0 := HQ.out.cb.c0; have c1 := HQ.out.cb.c1; have c2 := HQ.out.cb.c2; have c3 := HQ.out.cb.c3; have c4 := HQ.out.cb.c4
 go_wp2_with fail
 refine (HCK.out w1 HQ.out.cb.bel).mono ?_
 rintro e w2 ⟨rfl, hb2⟩
 have HQ2 := Lib.hid (HQ.out.on hb2)
 clear hb2 c0 c1 c2 c3 c4
 obtain ⟨d0, d1, d2, d3, d4, f0, f1, f2, f3, f4⟩ := HQ2.out.q.five
 go_wp2_with fail
 obtain ⟨w9, h9, HL⟩ := lay5 (x := .int .i64 0) (y := .int .i64 0) (z := .slice none 0 0) (u := .int .i64 0) (v := .slice none 0 0) HQ2.out.q
 rw [h9]
 have q0 := HL.c0; have q1 := HL.c1; have q2 := HL.c2; have q3 := HL.c3; have q4 := HL.c4
 refine bodyPost_ret (v := .tuple #[.agg #[.int .i64 0, .int .i64 0, .slice none 0 0, .int .i64 0, .slice none 0 0], .int .i64 er]) (by simp [results, Tryz.results34, go_sem, q0, q1, q2, q3, q4]) rfl ?_
 exact ⟨_, _, rfl, (SI.nilSep _ _).and (SS.nilSep _ _), HL.below HQ2.out.cb.bel HQ2.out.cb.bel.size (by omega)⟩
def dotL (O : FOps) (a b : List Int) (n : Nat) : Int := sumTo O (fun j => O.mul (a.getD j 0) (b.getD j 0)) n
set_option maxHeartbeats 8000000 in
theorem rDot_any (w : World) (P M : Int) (mv va vb : Value) (Mod a b : List Int) (hm : SI w mv Mod) (ha : SI w va a) (hb : SI w vb b) (ho : orderF P M ≠ 0) (hmod : ModP P M Mod) :
  Calls Tryz.prog 39 #[.agg #[.int .i64 P, .int .i64 M, mv], va, vb] w (RetI w (dotL (refOps P M Mod) a b (min a.length b.length))) := by
 have HMU := Lib.hid (fun (w' : World) (x y : Int) (hb : Below w.heap.size w w') => rMul_any w' P M x y mv Mod (hm.below hb (Nat.le_refl _)) ho hmod)
 have HAD := Lib.hid (fun (w' : World) (x y : Int) => rAdd_any w' P M x y mv ho)
 have HA := Lib.hid ha; have HB := Lib.hid hb
 have hla := ha.len'; have hlb := hb.len'
 obtain ⟨AA, ac, rfl, _⟩ := ha
 obtain ⟨BA, bc, rfl, _⟩ := hb
 have HDS : Hid (∀ k, dotL (refOps P M Mod) a b (k + 1) = addF P M (dotL (refOps P M Mod) a b k) (mulR P M Mod (a.getD k 0) (b.getD k 0))) := hid' fun k => rfl
 have HLT : Hid (∀ k, 0 ≤ dotL (refOps P M Mod) a b k ∧ dotL (refOps P M Mod) a b k ≤ 256) := hid' fun k => by
  have := orderF_bounds P M
  cases k with
  | zero => show 0 ≤ (0 : Int) ∧ (0 : Int) ≤ 256; decide
  | succ k => have h := addF_lt ho (dotL (refOps P M Mod) a b k) (mulR P M Mod (a.getD k 0) (b.getD k 0)); rw [HDS.out k]; omega
 clear hm ho hmod
 obtain ⟨d, hd⟩ : ∃ d : Nat → Int, d = dotL (refOps P M Mod) a b := ⟨_, rfl⟩
 have hd0 : d 0 = 0 := by rw [hd]; rfl
 rw [← hd] at HDS HLT ⊢
 clear hd
 obtain ⟨la, hl1⟩ : ∃ la, la = a.length := ⟨_, rfl⟩
 obtain ⟨lb, hl2⟩ : ∃ lb, lb = b.length := ⟨_, rfl⟩
 rw [← hl1] at HA hla ⊢
 rw [← hl2] at HB hlb ⊢
 have HL1 := Lib.hid hl1; have HL2 := Lib.hid hl2
 have HD0 := Lib.hid hd0
 clear hl1 hl2 hd0
 have HF := Lib.hid (FBox.mk' w P M mv)
 go_enter Tryz.func39, Tryz.ntmps39
 go_wp2_with fail
 generalize w.alloc (.cells #[.int .i64 P, .int .i64 M, mv] 24) = w0 at *
 go_loopw [7, 8] (fun s i wr => ∃ k : Nat, k ≤ min la lb ∧ i = .int .i64 (k : Int) ∧ s = .int .i64 (d k) ∧ Hid (FBox w wr P M mv)) (fun _ i _ => min la lb - (intOf i).toNat)
 case atStart => exact ⟨0, Nat.zero_le _, rfl, by rw [HD0.out], HF⟩
 case round =>
  clear HF
  obtain ⟨k, hk, rfl, rfl, HF⟩ := hrel
  by_cases hka : k < la
  ·have e1 : decide (k < la) = true := decide_eq_true hka
   by_cases hkb : k < lb
   ·have e2 : decide (k < lb) = true := decide_eq_true hkb
    obtain ⟨xd, x, rfl, hxc, _, HX⟩ := (HA.out.below HF.out.bel (Nat.le_refl _)).elt (k := k) (by rw [← HL1.out]; exact hka)
    obtain ⟨yd, y, rfl, hyc, _, HY⟩ := (HB.out.below HF.out.bel (Nat.le_refl _)).elt (k := k) (by rw [← HL2.out]; exact hkb)
    have HDK := Lib.hid (HDS.out k)
    rw [HX.out, HY.out] at HDK
    have hdb := HLT.out k
    generalize d k = dk at *
    have c0 := HF.out.c0; have c1 := HF.out.c1; have c2 := HF.out.c2
    go_wp2_with fail
    refine Kept.start (S := fun w' => w'.cell? ⟨w.heap.size, 0, none⟩ = some (.int .i64 P) ∧ w'.cell? ⟨w.heap.size, 1, none⟩ = some (.int .i64 M) ∧ w'.cell? ⟨w.heap.size, 2, none⟩ = some mv ∧ w'.cell? (xd.add k) = some (.int .i64 x) ∧ w'.cell? (yd.add k) = some (.int .i64 y)) (by kernel_rfl) (⟨c0, c1, c2, hxc, hyc⟩) (fun hHeld => ?_)
    change Kept _ _ _ _ 14 _ _ _
    refine Kept.tk 0 (v := ?_) rfl ?_ hHeld ?_
    rotate_left
    ·intro w' h; (try dsimp only at h); go_simp <;> with_reducible rfl
    try simp only [tda, tdb, tdc, Act.put, tdd, tde, tdf]
    refine Kept.tk 1 (v := ?_) rfl ?_ hHeld ?_
    rotate_left
    ·intro w' h; (try dsimp only at h); go_simp <;> with_reducible rfl
    try simp only [tda, tdb, tdc, Act.put, tdd, tde, tdf]
    refine Kept.tk 2 (v := ?_) rfl ?_ hHeld ?_
    rotate_left
    ·intro w' h; (try dsimp only at h); go_simp <;> with_reducible rfl
    try simp only [tda, tdb, tdc, Act.put, tdd, tde, tdf]
    refine Kept.tk 3 (v := ?_) rfl ?_ hHeld ?_
    rotate_left
    ·intro w' h; (try dsimp only at h); go_simp <;> with_reducible rfl
    try simp only [tda, tdb, tdc, Act.put, tdd, tde, tdf]
    refine Kept.tk 4 (v := ?_) rfl ?_ hHeld ?_
    rotate_left
    ·intro w' h; (try dsimp only at h); go_simp <;> with_reducible rfl
    try simp only [tda, tdb, tdc, Act.put, tdd, tde, tdf]
    refine Kept.tk 5 (v := ?_) rfl ?_ hHeld ?_
    rotate_left
    ·intro w' h; (try dsimp only at h); go_simp <;> with_reducible rfl
    try simp only [tda, tdb, tdc, Act.put, tdd, tde, tdf]
    refine Kept.tk 6 (v := ?_) rfl ?_ hHeld ?_
    rotate_left
    ·intro w' h; (try dsimp only at h); go_simp <;> with_reducible rfl
    try simp only [tda, tdb, tdc, Act.put, tdd, tde, tdf]
    refine Kept.tk 7 (v := ?_) rfl ?_ hHeld ?_
    rotate_left
    ·intro w' h; (try dsimp only at h); go_simp <;> with_reducible rfl
    try simp only [tda, tdb, tdc, Act.put, tdd, tde, tdf]
    refine Kept.tk 8 (v := ?_) rfl ?_ hHeld ?_
    rotate_left
    ·intro w' h; (try dsimp only at h); go_simp <;> with_reducible rfl
    try simp only [tda, tdb, tdc, Act.put, tdd, tde, tdf]
    refine Kept.tk 9 (v := ?_) rfl ?_ hHeld ?_
    rotate_left
    ·intro w' h; (try dsimp only at h); go_simp <;> with_reducible rfl
    try simp only [tda, tdb, tdc, Act.put, tdd, tde, tdf]
    refine Kept.tk 10 (v := ?_) rfl ?_ hHeld ?_
    rotate_left
    ·intro w' h; (try dsimp only at h); go_simp <;> with_reducible rfl
    try simp only [tda, tdb, tdc, Act.put, tdd, tde, tdf]
    refine Kept.only (i := 11) (by kernel_rfl) rfl (fun K hK => ?_)
    go_simp
    refine (HMU.out _ x y (bl_trans HF.out.bel (bl_drew wr))).mono ?_; rintro e w3 ⟨rfl, hb3⟩; have hb4 := bl_trans (bl_drew wr) hb3; have HF3 := Lib.hid (HF.out.on hb4); have hx3 := cell_below hb4 hxc; have hy3 := cell_below hb4 hyc; clear hb3 hb4
    refine hK.out _ _ (⟨HF3.out.c0, HF3.out.c1, HF3.out.c2, hx3, hy3⟩) (fun hHeld2 => ?_)
    clear hK K
    replace hHeld := hHeld2
    clear hHeld2
    try simp only [tda, tdb, tdc, Act.put, tdd, tde, tdf]
    refine Kept.only (i := 12) (by kernel_rfl) rfl (fun K hK => ?_)
    go_simp
    refine (HAD.out _ _ _).mono ?_; rintro e w4 ⟨rfl, hb4⟩; have HF4 := Lib.hid (HF3.out.on hb4); have hx4 := cell_below hb4 hx3; have hy4 := cell_below hb4 hy3; clear hb4
    refine hK.out _ _ (⟨HF4.out.c0, HF4.out.c1, HF4.out.c2, hx4, hy4⟩) (fun hHeld2 => ?_)
    clear hK K
    replace hHeld := hHeld2
    clear hHeld2
    try simp only [tda, tdb, tdc, Act.put, tdd, tde, tdf]
    refine Kept.only (i := 13) (by kernel_rfl) rfl (fun K hK => ?_)
    go_simp
    refine hK.out _ _ hHeld (fun hHeld2 => ?_)
    clear hK K
    clear hHeld2
    refine Kept.done (by kernel_rfl) ?_
    try simp only [tda, tdb, tdc, Act.put, tdd, tde, tdf]
    clear hHeld
    clear c0 c1 c2 hxc hyc hx3 hy3 hx4 hy4
    rw [← HDK.out]
    go_wp2_with fail
    exact ⟨⟨k + 1, by omega, by push_cast; rfl, rfl, HF4⟩, by simp only [intOf]; omega⟩
   ·have e2 : decide (k < lb) = false := decide_eq_false hkb
    have HKE : Hid (min la lb = k) := hid' (show min la lb = k by omega)
    go_wp2_with fail
    go_ret
    exact ⟨by rw [HKE.out]; rfl, HF.out.bel⟩
  ·have e1 : decide (k < la) = false := decide_eq_false hka
   have HKE : Hid (min la lb = k) := hid' (show min la lb = k by omega)
   go_wp2_with fail
   go_ret
   exact ⟨by rw [HKE.out]; rfl, HF.out.bel⟩
set_option maxHeartbeats 8000000 in
theorem gdot_any (w : World) (g : Nat) (P M : Int) (va vb : Value) (Mod a b : List Int) (hg : GF w g P M Mod) (ha : SI w va a) (hb : SI w vb b) (hl : a.length = b.length) :
  Calls Tryz.prog 93 #[.pointer (some ⟨g, 0, none⟩), va, vb] w (RetI w (dotL (refOps P M Mod) a b a.length)) := by
 have ho := hg.fld.1
 have HG := Lib.hid hg
 have HA := Lib.hid ha; have HB := Lib.hid hb
 have hla := ha.len'
 obtain ⟨AA, ac, rfl, _⟩ := ha
 obtain ⟨BA, bc, rfl, _⟩ := hb
 have HDS : Hid (∀ k, dotL (refOps P M Mod) a b (k + 1) = addF P M (dotL (refOps P M Mod) a b k) (mulR P M Mod (a.getD k 0) (b.getD k 0))) := hid' fun k => rfl
 have HLT : Hid (∀ k, 0 ≤ dotL (refOps P M Mod) a b k ∧ dotL (refOps P M Mod) a b k ≤ 256) := hid' fun k => by
  have := orderF_bounds P M
  cases k with
  | zero => show 0 ≤ (0 : Int) ∧ (0 : Int) ≤ 256; decide
  | succ k => have h := addF_lt ho (dotL (refOps P M Mod) a b k) (mulR P M Mod (a.getD k 0) (b.getD k 0)); rw [HDS.out k]; omega
 clear hg ho
 obtain ⟨d, hd⟩ : ∃ d : Nat → Int, d = dotL (refOps P M Mod) a b := ⟨_, rfl⟩
 have hd0 : d 0 = 0 := by rw [hd]; rfl
 rw [← hd] at HDS HLT ⊢
 clear hd
 obtain ⟨la, hl1⟩ : ∃ la, la = a.length := ⟨_, rfl⟩
 rw [← hl] at HB ⊢
 rw [← hl1] at HA HB hla ⊢
 have HL1 := Lib.hid hl1; have HL2 := Lib.hid (hl1.trans hl)
 have HD0 := Lib.hid hd0
 clear hl1 hl hd0
 go_enter Tryz.func93, Tryz.ntmps93
 go_wp2_with fail
 go_loopw [7, 8, 14] (fun s _ i wr => ∃ k : Nat, k ≤ la ∧ i = .int .i64 (k : Int) ∧ s = .int .i64 (d k) ∧ Hid (Below w.heap.size w wr)) (fun _ _ i _ => la - (intOf i).toNat)
 case atStart => exact ⟨0, Nat.zero_le _, rfl, by rw [HD0.out], bl_refl w⟩
 case round =>
  obtain ⟨k, hk, rfl, rfl, HBr⟩ := hrel
  by_cases hka : k < la
  ·obtain ⟨xd, x, rfl, hxc, _, HX⟩ := (HA.out.below HBr.out (Nat.le_refl _)).elt (k := k) (by rw [← HL1.out]; exact hka)
   obtain ⟨yd, y, rfl, hyc, _, HY⟩ := (HB.out.below HBr.out (Nat.le_refl _)).elt (k := k) (by rw [← HL2.out]; exact hka)
   have HDK := Lib.hid (HDS.out k)
   rw [HX.out, HY.out] at HDK
   have hdb := HLT.out k
   generalize d k = dk at *
   have HGr := Lib.hid (HG.out.on HBr.out)
   go_wp2_with fail
   refine Kept.start (S := fun w' => w'.cell? (xd.add k) = some (.int .i64 x) ∧ w'.cell? (yd.add k) = some (.int .i64 y)) (by kernel_rfl) (⟨hxc, hyc⟩) (fun hHeld => ?_)
   change Kept _ _ _ _ 14 _ _ _
   refine Kept.tk 0 (v := ?_) rfl ?_ hHeld ?_
   rotate_left
   ·intro w' h; (try dsimp only at h); go_simp <;> with_reducible rfl
   try simp only [tda, tdb, tdc, Act.put, tdd, tde, tdf]
   refine Kept.tk 1 (v := ?_) rfl ?_ hHeld ?_
   rotate_left
   ·intro w' h; (try dsimp only at h); go_simp <;> with_reducible rfl
   try simp only [tda, tdb, tdc, Act.put, tdd, tde, tdf]
   refine Kept.tk 2 (v := ?_) rfl ?_ hHeld ?_
   rotate_left
   ·intro w' h; (try dsimp only at h); go_simp <;> with_reducible rfl
   try simp only [tda, tdb, tdc, Act.put, tdd, tde, tdf]
   refine Kept.tk 3 (v := ?_) rfl ?_ hHeld ?_
   rotate_left
   ·intro w' h; (try dsimp only at h); go_simp <;> with_reducible rfl
   try simp only [tda, tdb, tdc, Act.put, tdd, tde, tdf]
   refine Kept.tk 4 (v := ?_) rfl ?_ hHeld ?_
   rotate_left
   ·intro w' h; (try dsimp only at h); go_simp <;> with_reducible rfl
   try simp only [tda, tdb, tdc, Act.put, tdd, tde, tdf]
   refine Kept.tk 5 (v := ?_) rfl ?_ hHeld ?_
   rotate_left
   ·intro w' h; (try dsimp only at h); go_simp <;> with_reducible rfl
   try simp only [tda, tdb, tdc, Act.put, tdd, tde, tdf]
   refine Kept.tk 6 (v := ?_) rfl ?_ hHeld ?_
   rotate_left
   ·intro w' h; (try dsimp only at h); go_simp <;> with_reducible rfl
   try simp only [tda, tdb, tdc, Act.put, tdd, tde, tdf]
   refine Kept.tk 7 (v := ?_) rfl ?_ hHeld ?_
   rotate_left
   ·intro w' h; (try dsimp only at h); go_simp <;> with_reducible rfl
   try simp only [tda, tdb, tdc, Act.put, tdd, tde, tdf]
   refine Kept.tk 8 (v := ?_) rfl ?_ hHeld ?_
   rotate_left
   ·intro w' h; (try dsimp only at h); go_simp <;> with_reducible rfl
   try simp only [tda, tdb, tdc, Act.put, tdd, tde, tdf]
   refine Kept.tk 9 (v := ?_) rfl ?_ hHeld ?_
   rotate_left
   ·intro w' h; (try dsimp only at h); go_simp <;> with_reducible rfl
   try simp only [tda, tdb, tdc, Act.put, tdd, tde, tdf]
   refine Kept.tk 10 (v := ?_) rfl ?_ hHeld ?_
   rotate_left
   ·intro w' h; (try dsimp only at h); go_simp <;> with_reducible rfl
   try simp only [tda, tdb, tdc, Act.put, tdd, tde, tdf]
   refine Kept.only (i := 11) (by kernel_rfl) rfl (fun K hK => ?_)
   go_simp
   refine (gmul_any _ g P M x y Mod (HGr.out.on (bl_drew wr))).mono ?_; rintro e w3 ⟨rfl, hb3⟩; have hb4 := bl_trans (bl_drew wr) hb3; have HG3 := Lib.hid (HGr.out.on hb4); have HB3 := Lib.hid (bl_trans HBr.out hb4); have hx3 := cell_below hb4 hxc; have hy3 := cell_below hb4 hyc; clear hb3 hb4
   refine hK.out _ _ (⟨hx3, hy3⟩) (fun hHeld2 => ?_)
   clear hK K
   replace hHeld := hHeld2
   clear hHeld2
   try simp only [tda, tdb, tdc, Act.put, tdd, tde, tdf]
   refine Kept.only (i := 12) (by kernel_rfl) rfl (fun K hK => ?_)
   go_simp
   refine (gadd_any _ g P M _ _ Mod HG3.out).mono ?_; rintro e w4 ⟨rfl, hb4⟩; have HB4 := Lib.hid (bl_trans HB3.out hb4); have hx4 := cell_below hb4 hx3; have hy4 := cell_below hb4 hy3; clear hb4
   refine hK.out _ _ (⟨hx4, hy4⟩) (fun hHeld2 => ?_)
   clear hK K
   replace hHeld := hHeld2
   clear hHeld2
   try simp only [tda, tdb, tdc, Act.put, tdd, tde, tdf]
   refine Kept.only (i := 13) (by kernel_rfl) rfl (fun K hK => ?_)
   go_simp
   refine hK.out _ _ hHeld (fun hHeld2 => ?_)
   clear hK K
   clear hHeld2
   refine Kept.done (by kernel_rfl) ?_
   try simp only [tda, tdb, tdc, Act.put, tdd, tde, tdf]
   clear hHeld
   clear hxc hyc hx3 hy3 hx4 hy4
   rw [← HDK.out]
   go_wp2_with fail
   exact ⟨⟨k + 1, by omega, by push_cast; rfl, rfl, HB4⟩, by simp only [intOf]; omega⟩
  ·obtain rfl : la = k := by omega
   go_wp2_with fail
   go_ret
   exact ⟨rfl, HBr.out⟩
end Go.Proofs.YtodgdoglhecolaaGreat
namespace Go.Proofs.YtodgdoglhecolaaGreat
set_option maxRecDepth 100000
theorem vecE_of {q : Int} {x : List Int} {n : Nat} (hl : x.length = n) (h : Rng q x) : vecE q x n = 0 := by
 unfold vecE
 rw [if_pos (by omega)]
 exact entriesF_ok fun k hk => h k
section
variable {O : FOps} {q : Int} (hO : O.Fld q) {n : Nat}
include hO
end
end Go.Proofs.YtodgdoglhecolaaGreat
