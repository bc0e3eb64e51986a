/- Texts of a claim, merged: words, plain facts and walks that the last of its texts uses. -/
import Derived.Test.YtodgdoglhecolaaZA1
import Derived.Test.YtodgdoglhecolaaZA2
import Derived.Test.YtodgdoglhecolaaZA3
import Derived.Test.YtodgdoglhecolaaZA6
import Derived.Test.YtodgdoglhecolaaZA8
import Derived.Test.YtodgdoglhecolaaZA12
import Derived.Deep.CutRange
import Derived.WalkMore
import Derived.Laws.EntriesVeiled
import Derived.Deep.RegionHeld3
import Derived.Deep.RegionLaw
import Derived.Deep.DeepMust
import Derived.Deep.QuietTactic
import Derived.BigQuiet
import Derived.StillTailTactics
import Derived.Lib.AppendZeros
set_option linter.unusedSimpArgs false
set_option linter.unusedVariables false

namespace Go.Proofs.Ytodgdoglhecolaa
open Go.RowKit
set_option maxRecDepth 100000
theorem sep_far {B : Nat} {w v w9 : World} {Φ : World → Prop} (h : Sep B w Φ) (hb : Below w.heap.size w v) {g : Nat} (hg0 : w.heap.size ≤ g) (hg : v.grownBy w9 (some g)) : Sep B w9 Φ :=
 h.of (Nat.le_trans hb.size hg.size) fun p h1 h2 =>
  (World.cell?_of_block (hg.block p.block (Nat.lt_of_lt_of_le h2 hb.size) (by intro e; have := Option.some.inj e; omega))).trans (hb.cell h2)
set_option maxHeartbeats 8000000 in
theorem cNew_ok (w : World) (P M : Int) (n : Nat) (mv rv : Value) (Mod : List Int) (rows : List (List Int)) (hm : SI w mv Mod) (hv : SS w rv rows) (he : matE P M Mod n rows = 0) (hn1 : 1 ≤ n) (hn2 : n ≤ 64) :
  Calls Try.prog 6 #[.agg #[.int .i64 P, .int .i64 M, mv], .agg #[.int .i64 (n : Int), rv]] w (RetCE w P M Mod n (canonL (refOps P M Mod) rows n) 0) := by
 have HCA := Lib.hid (fun (w' : World) (hb : Below w.heap.size w w') => mCanonical_ok w' P M n mv rv Mod rows (hm.below hb (Nat.le_refl _)) (hv.below hb (Nat.le_refl _)) he)
 have HOF := Lib.hid (fun (w' : World) (A9 : Option Addr) (l9 c9 : Nat) (hb : Below w.heap.size w w') => cof_ok w' P M n mv A9 l9 c9 Mod (hm.below hb (Nat.le_refl _)))
 have HML := Lib.hid hm.len'; have HMW := Lib.hid hm.wfs
 have HLE : Hid (lenE n = 0) := by show _ = _; unfold lenE; rw [if_pos (by omega)]
 unfold RetCM at HCA
 unfold RetOf at HOF
 obtain ⟨RA, rc, rfl, _⟩ := hv
 clear hm he hn1 hn2
 generalize rows.length = r at *
 generalize canonL (refOps P M Mod) rows n = C at *
 obtain ⟨w1, e1, hq, hsz⟩ := FMC.mk' w P M mv n (.slice RA r rc)
 have HQ := Lib.hid hq; have HE1 := Lib.hid e1; clear hq e1
 go_enter Try.func6, Try.ntmps6
 go_upto_region 1 with fail
 rw [HE1.out]
 clear HE1
 have c0 := HQ.out.fm.fb.c0; have c1 := HQ.out.fm.fb.c1; have c2 := HQ.out.fm.fb.c2; have d0 := HQ.out.fm.d0; have d1 := HQ.out.fm.d1
 go_wp2_with fail
 refine (HCA.out w1 HQ.out.fm.fb.bel).mono ?_
 rintro e w2 ⟨U2, PU, pc, rfl, hx2, _, hb2⟩
 obtain ⟨k, hk⟩ : ∃ k, k = C.length := ⟨_, rfl⟩
 rw [← hk] at hx2 ⊢
 clear hk
 have HX2 := Lib.hid (hx2.imp fun _ h => h.1)
 have HQ2 := Lib.hid (HQ.out.on hb2)
 clear hx2 hb2 c0 c1 c2 d0 d1
 go_upto_region 2 with fail
 obtain ⟨w3, g3, e1, e2, h3, hb3⟩ := mk_box w2 27 [.int .i64 (n : Int), .slice U2 k k]
 rw [e1, e2]
 have HQ3 := Lib.hid (HQ2.out.on hb3); have HX3 := Lib.hid (HX2.out.on hb3); have HG3 := Lib.hid h3
 clear e1 e2 h3 hb3 HX2 HQ2
 have d0 := HQ3.out.fm.d0
 go_wp2_with fail
 refine (clen_any _ n).mono ?_
 rintro e w4 ⟨rfl, rfl⟩
 rw [HLE.out]
 clear d0
 have c0 := HQ3.out.fm.fb.c0; have c1 := HQ3.out.fm.fb.c1; have c2 := HQ3.out.fm.fb.c2
 have x0 : w3.cell? ⟨g3, 0, none⟩ = some (.int .i64 (n : Int)) := HG3.out.cell 0
 have x1 : w3.cell? ⟨g3, 1, none⟩ = some (.slice U2 k k) := HG3.out.cell 1
 go_wp2_with fail
 refine (HOF.out w3 _ _ _ HQ3.out.fm.fb.bel).mono ?_
 rintro e w5 ⟨u5, rfl, hu5, hb5⟩
 obtain ⟨UA5, uc5, rfl⟩ := hu5.form'
 have HQ5 := Lib.hid (HQ3.out.on hb5); have HX5 := Lib.hid (HX3.out.on hb5)
 have HU5 := Lib.hid (hu5.sep HML.out HMW.out)
 have hs1 := HQ.out.fm.fb.bel.size
 have hs3 := HQ3.out.fm.fb.bel.size
 have hq1 := HQ.out.q.lt
 have hq3 := HQ3.out.q.lt
 clear hu5 hb5 c0 c1 c2 x0 x1
 obtain ⟨y0, y1, y2, y3, y4, f0, f1, f2, f3, f4⟩ := HQ5.out.q.five
 go_wp2_with fail
 obtain ⟨wz, hz, HL⟩ := lay5 (x := .int .i64 P) (y := .int .i64 M) (z := .slice UA5 Mod.length uc5) (u := .int .i64 (n : Int)) (v := .slice U2 k k) HQ5.out.q
 rw [hz]
 have q0 := HL.c0; have q1 := HL.c1; have q2 := HL.c2; have q3 := HL.c3; have q4 := HL.c4
 refine bodyPost_ret (v := .tuple #[.agg #[.int .i64 P, .int .i64 M, .slice UA5 Mod.length uc5, .int .i64 (n : Int), .slice U2 k k], .int .i64 0]) (by simp [results, Try.results6, go_sem, q0, q1, q2, q3, q4]) rfl ?_
 exact ⟨_, _, rfl, ((HU5.out.grown HL.gr (by rintro b e; cases e; omega)).mono hs3).and ((HX5.out.grown HL.gr (by rintro b e; cases e; omega)).mono hs1), HL.below HQ5.out.fm.fb.bel HQ5.out.fm.fb.bel.size (by omega)⟩
structure CCQ (w w1 : World) (P M : Int) (mv : Value) (n : Int) (gv : Value) : Prop where
 cb : CBox w w1 P M mv n gv
 q : Blk w1 (w.heap.size + 1) 32 [.int .i64 0, .int .i64 0, .slice none 0 0, .int .i64 0, .slice none 0 0]
theorem CCQ.on {w w1 w2 : World} {P M : Int} {mv : Value} {n : Int} {gv : Value} (h : CCQ w w1 P M mv n gv) (hb : Below w1.heap.size w1 w2) : CCQ w w2 P M mv n gv := ⟨h.cb.on hb, h.q.belowS hb⟩
theorem CCQ.mk' (w : World) (P M : Int) (mv : Value) (n : Int) (gv : Value) : ∃ w1, (w.alloc (.cells #[.int .i64 P, .int .i64 M, mv, .int .i64 n, gv] 32)).alloc (.cells #[.int .i64 0, .int .i64 0, .slice none 0 0, .int .i64 0, .slice none 0 0] 32) = w1 ∧ CCQ w w1 P M mv n gv := by
 refine ⟨_, rfl, (CBox.mk' w P M mv n gv).on (bl_alloc _ _), ?_⟩
 have := Blk.new (w.alloc (.cells #[.int .i64 P, .int .i64 M, mv, .int .i64 n, gv] 32)) 32 [.int .i64 0, .int .i64 0, .slice none 0 0, .int .i64 0, .slice none 0 0]
 rw [World.size_alloc] at this
 exact this
set_option maxHeartbeats 16000000 in
theorem cDual_ok (w : World) (P M : Int) (n : Nat) (mv gv : Value) (Mod : List Int) (gen : List (List Int)) (hm : SI w mv Mod) (hg : SS w gv gen) (hE : codeE P M Mod n gen = 0) :
  Calls Try.prog 16 #[.agg #[.int .i64 P, .int .i64 M, mv, .int .i64 (n : Int), gv]] w (RetCE w P M Mod n (nullL (refOps P M Mod) gen n) 0) := by
 have HCK := Lib.hid (fun (w' : World) (hb : Below w.heap.size w w') => cCheck_any w' P M n mv gv Mod gen (hm.below hb (Nat.le_refl _)) (hg.below hb (Nat.le_refl _)))
 rw [hE] at HCK
 have hmat : matE P M Mod n gen = 0 := by
  obtain ⟨h1, h2, h3, h4, h5, h6⟩ := codeE_zero hE
  rw [Int.toNat_natCast] at h5
  exact matE_mk h1 (by omega) h4 h5
 have HKE := Lib.hid (fun (w' : World) (hb : Below w.heap.size w w') => mKernel_ok w' P M n mv gv Mod gen (hm.below hb (Nat.le_refl _)) (hg.below hb (Nat.le_refl _)) hmat)
 have HOF := Lib.hid (fun (w' : World) (A9 : Option Addr) (l9 c9 : Nat) (hb : Below w.heap.size w w') => cof_ok w' P M n mv A9 l9 c9 Mod (hm.below hb (Nat.le_refl _)))
 have HML := Lib.hid hm.len'; have HMW := Lib.hid hm.wfs
 unfold RetMx at HKE
 unfold RetOf at HOF
 obtain ⟨GA, gc, rfl, _⟩ := hg
 generalize gen.length = gl at *
 clear hm hE hmat
 generalize nullL (refOps P M Mod) gen n = C at *
 obtain ⟨w1, e1, hq⟩ := CCQ.mk' w P M mv n (.slice GA gl gc)
 have HQ := Lib.hid hq; have HE1 := Lib.hid e1; clear hq e1
 go_enter Try.func16, Try.ntmps16
 go_upto_region 1 with fail
 rw [HE1.out]
 clear HE1
 have c0 := HQ.out.cb.c0; have c1 := HQ.out.cb.c1; have c2 := HQ.out.cb.c2; have c3 := HQ.out.cb.c3; have c4 := HQ.out.cb.c4
 go_wp2_with fail
 refine (HCK.out w1 HQ.out.cb.bel).mono ?_
 rintro e w2 ⟨rfl, hb2⟩
 have HQ2 := Lib.hid (HQ.out.on hb2)
 clear hb2 c0 c1 c2 c3 c4
 have c0 := HQ2.out.cb.c0; have c1 := HQ2.out.cb.c1; have c2 := HQ2.out.cb.c2; have c3 := HQ2.out.cb.c3; have c4 := HQ2.out.cb.c4
 have C0 := Lib.hid c0; have C1 := Lib.hid c1; have C2 := Lib.hid c2; have C3 := Lib.hid c3; have C4 := Lib.hid c4
 obtain ⟨k, hk⟩ : ∃ k, k = C.length := ⟨_, rfl⟩
 have HK := Lib.hid hk; clear hk
 go_upto_region 4 with fail
 go_cut [5, 6] from 14 to 20 (fun t5 t6 wc => ∃ g UA uc, t6 = .int .i64 0 ∧ t5 = .pointer (some ⟨g, 0, none⟩) ∧ w2.heap.size ≤ g ∧ Hid (Blk wc g 27 [.int .i64 (n : Int), .slice UA k uc]) ∧ Hid (Sep w2.heap.size wc fun w9 => SS w9 (.slice UA k uc) C) ∧ Hid (Below w2.heap.size w2 wc))
 case first =>
  refine Kept.start (S := fun w' => w'.cell? ⟨w.heap.size, 0, none⟩ = some (.int .i64 P) ∧ w'.cell? ⟨w.heap.size, 1, none⟩ = some (.int .i64 M) ∧ w'.cell? ⟨w.heap.size, 2, none⟩ = some mv ∧ w'.cell? ⟨w.heap.size, 3, none⟩ = some (.int .i64 (n : Int)) ∧ w'.cell? ⟨w.heap.size, 4, none⟩ = some (.slice GA gl gc)) (by kernel_rfl) (⟨c0, c1, c2, c3, c4⟩) (fun hHeld => ?_)
  change Kept _ _ _ _ 11 _ _ _
  have hdrew := bl_drew w2
  generalize w2.drew = wq1 at hdrew hHeld ⊢
  have HBB := Lib.hid hdrew
  clear c0 c1 c2 c3 c4
  clear hdrew
  refine Kept.tk 0 (v := ?_) rfl ?_ hHeld ?_
  rotate_left
  ·intro w' h; (try dsimp only at h); go_simp <;> with_reducible rfl
  try simp only [tda, tdb, tdc, Act.put, tdd, tde, tdf]
  refine Kept.tk 1 (v := ?_) rfl ?_ hHeld ?_
  rotate_left
  ·intro w' h; (try dsimp only at h); go_simp <;> with_reducible rfl
  try simp only [tda, tdb, tdc, Act.put, tdd, tde, tdf]
  refine Kept.tk 2 (v := ?_) rfl ?_ hHeld ?_
  rotate_left
  ·intro w' h; (try dsimp only at h); go_simp <;> with_reducible rfl
  try simp only [tda, tdb, tdc, Act.put, tdd, tde, tdf]
  refine Kept.two (i := 3) (j := 8) (oi := ?opa2) (oj := ?opb2) (by kernel_rfl) ?hoa2 ?hob2 (fun K hK => ?way12) (fun K hK => ?way22)
  case hoa2 => (conv => lhs; simp only [tdg, tdh, tdi])
  case hob2 => (conv => lhs; simp only [tdg, tdh, tdi])
  case way12 =>
   go_simp
   refine (cgen_any _ P M n mv GA gl gc).mono ?_
   rintro e wq3 ⟨rfl, hb⟩
   replace HBB := Lib.hid (bl_trans HBB.out hb)
   clear hb
   refine hK.out _ _ (⟨cb HBB C0, cb HBB C1, cb HBB C2, cb HBB C3, cb HBB C4⟩) (fun hHeld2 => ?_)
   clear hK K
   replace hHeld := hHeld2
   clear hHeld2
   try simp only [tda, tdb, tdc, Act.put, tdd, tde, tdf]
   refine Kept.two (i := 4) (j := 8) (oi := ?opa4) (oj := ?opb4) (by kernel_rfl) ?hoa4 ?hob4 (fun K hK => ?way14) (fun K hK => ?way24)
   case hoa4 => (conv => lhs; simp only [tdg, tdh, tdi])
   case hob4 => (conv => lhs; simp only [tdg, tdh, tdi])
   case way14 =>
    have hbs0 := HBB.out.size
    go_simp
    refine (HKE.out _ (bl_trans HQ2.out.cb.bel HBB.out)).mono ?_
    rintro e wq5 ⟨u, rfl, hx, hb⟩
    obtain ⟨UA, uc, rfl, _⟩ := hx.out
    rw [← HK.out] at hx ⊢
    have HS4 := Lib.hid (hx.mono hbs0) 
    replace HBB := Lib.hid (bl_trans HBB.out hb)
    clear hb hx hbs0
    refine hK.out _ _ (⟨cb HBB C0, cb HBB C1, cb HBB C2, cb HBB C3, cb HBB C4⟩) (fun hHeld2 => ?_)
    clear hK K
    replace hHeld := hHeld2
    clear hHeld2
    try simp only [tda, tdb, tdc, Act.put, tdd, tde, tdf]
    refine Kept.tk 5 (v := ?_) rfl ?_ hHeld ?_
    rotate_left
    ·intro w' h; (try dsimp only at h); go_simp <;> with_reducible rfl
    try simp only [tda, tdb, tdc, Act.put, tdd, tde, tdf]
    refine Kept.tk 6 (v := ?_) rfl ?_ hHeld ?_
    rotate_left
    ·intro w' h; (try dsimp only at h); go_simp <;> with_reducible rfl
    try simp only [tda, tdb, tdc, Act.put, tdd, tde, tdf]
    refine Kept.tk 7 (v := ?_) rfl ?_ hHeld ?_
    rotate_left
    ·intro w' h; (try dsimp only at h); go_simp <;> with_reducible rfl
    try simp only [tda, tdb, tdc, Act.put, tdd, tde, tdf]
    refine Kept.only (i := 8) (o := ?op6) (by kernel_rfl) ?ho6 (fun K hK => ?_)
    case ho6 => (conv => lhs; simp only [tdg, tdh, tdi])
    go_simp
    obtain ⟨wq7, g, e1, e2, hX, hb⟩ := mk_box wq5 27 [.int .i64 0, .slice none 0 0]
    rw [e1, e2]
    have HBX := Lib.hid hX
    have hgi : w2.heap.size ≤ g := (by have := HBB.out.size; omega)
    have HSF : Hid (∀ w9, World.grownBy wq7 w9 (some g) → Sep w2.heap.size w9 fun w9 => SS w9 (.slice UA k uc) C) := hid' (fun w9 hg => sep_far HS4.out hb (by omega) hg) 
    replace HBB := Lib.hid (bl_trans HBB.out hb)
    clear e1 e2 hX hb
    refine hK.out _ _ (⟨cb HBB C0, cb HBB C1, cb HBB C2, cb HBB C3, cb HBB C4⟩) (fun hHeld2 => ?_)
    clear hK K
    replace hHeld := hHeld2
    clear hHeld2
    try simp only [tda, tdb, tdc, Act.put, tdd, tde, tdf]
    refine Kept.only (i := 9) (o := ?op8) (by kernel_rfl) ?ho8 (fun K hK => ?_)
    case ho8 => (conv => lhs; simp only [tdg, tdh, tdi])
    obtain ⟨b0, b1, f0, f1⟩ := HBX.out.two
    go_simp
    obtain ⟨wq9, h6, HL⟩ := lay2 (x := .int .i64 (n : Int)) (y := .slice UA k uc) HBX.out
    rw [h6]
    have HS6 := Lib.hid (HSF.out _ HL.gr)
    have HBY := Lib.hid HL.blk
    replace HBB := Lib.hid (HL.below HBB.out HBB.out.size hgi)
    clear b0 b1 f0 f1 h6 HL HBX
    refine hK.out _ _ (⟨cb HBB C0, cb HBB C1, cb HBB C2, cb HBB C3, cb HBB C4⟩) (fun hHeld2 => ?_)
    clear hK K
    replace hHeld := hHeld2
    clear hHeld2
    try simp only [tda, tdb, tdc, Act.put, tdd, tde, tdf]
    refine Kept.only (i := 10) (by kernel_rfl) rfl (fun K hK => ?_)
    go_simp
    refine hK.out _ _ hHeld (fun hHeld2 => ?_)
    clear hK K
    clear hHeld2
    refine Kept.done (by kernel_rfl) ?_
    try simp only [tda, tdb, tdc, Act.put, tdd, tde, tdf]
    clear hHeld
    go_wp2_with fail
    go_meet
    exact ⟨g, UA, uc, rfl, rfl, hgi, HBY, HS6, HBB⟩
   case way24 =>
    go_simp
    obtain ⟨wq10, g, e1, e2, hX, hb⟩ := mk_box wq3 27 [.int .i64 0, .slice none 0 0]
    rw [e1, e2]
    have HBX := Lib.hid hX
    have hgi : w2.heap.size ≤ g := (by have := HBB.out.size; omega)
    replace HBB := Lib.hid (bl_trans HBB.out hb)
    clear e1 e2 hX hb
    refine hK.out _ _ (⟨cb HBB C0, cb HBB C1, cb HBB C2, cb HBB C3, cb HBB C4⟩) (fun hHeld2 => ?_)
    clear hK K
    replace hHeld := hHeld2
    clear hHeld2
    try simp only [tda, tdb, tdc, Act.put, tdd, tde, tdf]
    refine Kept.only (i := 4) (o := ?op11) (by kernel_rfl) ?ho11 (fun K hK => ?_)
    case ho11 => (conv => lhs; simp only [tdg, tdh, tdi])
    have hbs0 := HBB.out.size
    go_simp
    refine (HKE.out _ (bl_trans HQ2.out.cb.bel HBB.out)).mono ?_
    rintro e wq12 ⟨u, rfl, hx, hb⟩
    obtain ⟨UA, uc, rfl, _⟩ := hx.out
    rw [← HK.out] at hx ⊢
    have hgl := HBX.out.lt 
    have HSF : Hid (∀ w9, World.grownBy wq12 w9 (some g) → Sep w2.heap.size w9 fun w9 => SS w9 (.slice UA k uc) C) := hid' (fun w9 hg => (hx.grown hg (by rintro b e; cases e; exact hgl)).mono hbs0) 
    clear hgl 
    replace HBX := Lib.hid (HBX.out.belowS hb) 
    replace HBB := Lib.hid (bl_trans HBB.out hb)
    clear hb hx hbs0
    refine hK.out _ _ (⟨cb HBB C0, cb HBB C1, cb HBB C2, cb HBB C3, cb HBB C4⟩) (fun hHeld2 => ?_)
    clear hK K
    replace hHeld := hHeld2
    clear hHeld2
    try simp only [tda, tdb, tdc, Act.put, tdd, tde, tdf]
    refine Kept.tk 5 (v := ?_) rfl ?_ hHeld ?_
    rotate_left
    ·intro w' h; (try dsimp only at h); go_simp <;> with_reducible rfl
    try simp only [tda, tdb, tdc, Act.put, tdd, tde, tdf]
    refine Kept.tk 6 (v := ?_) rfl ?_ hHeld ?_
    rotate_left
    ·intro w' h; (try dsimp only at h); go_simp <;> with_reducible rfl
    try simp only [tda, tdb, tdc, Act.put, tdd, tde, tdf]
    refine Kept.tk 7 (v := ?_) rfl ?_ hHeld ?_
    rotate_left
    ·intro w' h; (try dsimp only at h); go_simp <;> with_reducible rfl
    try simp only [tda, tdb, tdc, Act.put, tdd, tde, tdf]
    refine Kept.only (i := 9) (o := ?op13) (by kernel_rfl) ?ho13 (fun K hK => ?_)
    case ho13 => (conv => lhs; simp only [tdg, tdh, tdi])
    obtain ⟨b0, b1, f0, f1⟩ := HBX.out.two
    go_simp
    obtain ⟨wq14, h6, HL⟩ := lay2 (x := .int .i64 (n : Int)) (y := .slice UA k uc) HBX.out
    rw [h6]
    have HS6 := Lib.hid (HSF.out _ HL.gr)
    have HBY := Lib.hid HL.blk
    replace HBB := Lib.hid (HL.below HBB.out HBB.out.size hgi)
    clear b0 b1 f0 f1 h6 HL HBX
    refine hK.out _ _ (⟨cb HBB C0, cb HBB C1, cb HBB C2, cb HBB C3, cb HBB C4⟩) (fun hHeld2 => ?_)
    clear hK K
    replace hHeld := hHeld2
    clear hHeld2
    try simp only [tda, tdb, tdc, Act.put, tdd, tde, tdf]
    refine Kept.only (i := 10) (by kernel_rfl) rfl (fun K hK => ?_)
    go_simp
    refine hK.out _ _ hHeld (fun hHeld2 => ?_)
    clear hK K
    clear hHeld2
    refine Kept.done (by kernel_rfl) ?_
    try simp only [tda, tdb, tdc, Act.put, tdd, tde, tdf]
    clear hHeld
    go_wp2_with fail
    go_meet
    exact ⟨g, UA, uc, rfl, rfl, hgi, HBY, HS6, HBB⟩
  case way22 =>
   go_simp
   obtain ⟨wq15, g, e1, e2, hX, hb⟩ := mk_box wq1 27 [.int .i64 0, .slice none 0 0]
   rw [e1, e2]
   have HBX := Lib.hid hX
   have hgi : w2.heap.size ≤ g := (by have := HBB.out.size; omega)
   replace HBB := Lib.hid (bl_trans HBB.out hb)
   clear e1 e2 hX hb
   refine hK.out _ _ (⟨cb HBB C0, cb HBB C1, cb HBB C2, cb HBB C3, cb HBB C4⟩) (fun hHeld2 => ?_)
   clear hK K
   replace hHeld := hHeld2
   clear hHeld2
   try simp only [tda, tdb, tdc, Act.put, tdd, tde, tdf]
   refine Kept.only (i := 3) (o := ?op16) (by kernel_rfl) ?ho16 (fun K hK => ?_)
   case ho16 => (conv => lhs; simp only [tdg, tdh, tdi])
   go_simp
   refine (cgen_any _ P M n mv GA gl gc).mono ?_
   rintro e wq17 ⟨rfl, hb⟩
   replace HBX := Lib.hid (HBX.out.belowS hb) 
   replace HBB := Lib.hid (bl_trans HBB.out hb)
   clear hb
   refine hK.out _ _ (⟨cb HBB C0, cb HBB C1, cb HBB C2, cb HBB C3, cb HBB C4⟩) (fun hHeld2 => ?_)
   clear hK K
   replace hHeld := hHeld2
   clear hHeld2
   try simp only [tda, tdb, tdc, Act.put, tdd, tde, tdf]
   refine Kept.only (i := 4) (o := ?op18) (by kernel_rfl) ?ho18 (fun K hK => ?_)
   case ho18 => (conv => lhs; simp only [tdg, tdh, tdi])
   have hbs0 := HBB.out.size
   go_simp
   refine (HKE.out _ (bl_trans HQ2.out.cb.bel HBB.out)).mono ?_
   rintro e wq19 ⟨u, rfl, hx, hb⟩
   obtain ⟨UA, uc, rfl, _⟩ := hx.out
   rw [← HK.out] at hx ⊢
   have hgl := HBX.out.lt 
   have HSF : Hid (∀ w9, World.grownBy wq19 w9 (some g) → Sep w2.heap.size w9 fun w9 => SS w9 (.slice UA k uc) C) := hid' (fun w9 hg => (hx.grown hg (by rintro b e; cases e; exact hgl)).mono hbs0) 
   clear hgl 
   replace HBX := Lib.hid (HBX.out.belowS hb) 
   replace HBB := Lib.hid (bl_trans HBB.out hb)
   clear hb hx hbs0
   refine hK.out _ _ (⟨cb HBB C0, cb HBB C1, cb HBB C2, cb HBB C3, cb HBB C4⟩) (fun hHeld2 => ?_)
   clear hK K
   replace hHeld := hHeld2
   clear hHeld2
   try simp only [tda, tdb, tdc, Act.put, tdd, tde, tdf]
   refine Kept.tk 5 (v := ?_) rfl ?_ hHeld ?_
   rotate_left
   ·intro w' h; (try dsimp only at h); go_simp <;> with_reducible rfl
   try simp only [tda, tdb, tdc, Act.put, tdd, tde, tdf]
   refine Kept.tk 6 (v := ?_) rfl ?_ hHeld ?_
   rotate_left
   ·intro w' h; (try dsimp only at h); go_simp <;> with_reducible rfl
   try simp only [tda, tdb, tdc, Act.put, tdd, tde, tdf]
   refine Kept.tk 7 (v := ?_) rfl ?_ hHeld ?_
   rotate_left
   ·intro w' h; (try dsimp only at h); go_simp <;> with_reducible rfl
   try simp only [tda, tdb, tdc, Act.put, tdd, tde, tdf]
   refine Kept.only (i := 9) (o := ?op20) (by kernel_rfl) ?ho20 (fun K hK => ?_)
   case ho20 => (conv => lhs; simp only [tdg, tdh, tdi])
   obtain ⟨b0, b1, f0, f1⟩ := HBX.out.two
   go_simp
   obtain ⟨wq21, h6, HL⟩ := lay2 (x := .int .i64 (n : Int)) (y := .slice UA k uc) HBX.out
   rw [h6]
   have HS6 := Lib.hid (HSF.out _ HL.gr)
   have HBY := Lib.hid HL.blk
   replace HBB := Lib.hid (HL.below HBB.out HBB.out.size hgi)
   clear b0 b1 f0 f1 h6 HL HBX
   refine hK.out _ _ (⟨cb HBB C0, cb HBB C1, cb HBB C2, cb HBB C3, cb HBB C4⟩) (fun hHeld2 => ?_)
   clear hK K
   replace hHeld := hHeld2
   clear hHeld2
   try simp only [tda, tdb, tdc, Act.put, tdd, tde, tdf]
   refine Kept.only (i := 10) (by kernel_rfl) rfl (fun K hK => ?_)
   go_simp
   refine hK.out _ _ hHeld (fun hHeld2 => ?_)
   clear hK K
   clear hHeld2
   refine Kept.done (by kernel_rfl) ?_
   try simp only [tda, tdb, tdc, Act.put, tdd, tde, tdf]
   clear hHeld
   go_wp2_with fail
   go_meet
   exact ⟨g, UA, uc, rfl, rfl, hgi, HBY, HS6, HBB⟩
 case rest =>
  clear c0 c1 c2 c3 c4
  obtain ⟨g, UA, uc, rfl, rfl, hg, HBY, HS5, HBB⟩ := hcut
  have HQ3 := Lib.hid (HQ2.out.on HBB.out)
  have hs2 := HBB.out.size
  clear C0 C1 C2 C3 C4
  have x0 : wc.cell? ⟨g, 0, none⟩ = some (.int .i64 (n : Int)) := HBY.out.cell 0
  have x1 : wc.cell? ⟨g, 1, none⟩ = some (.slice UA k uc) := HBY.out.cell 1
  have c0 := HQ3.out.cb.c0; have c1 := HQ3.out.cb.c1; have c2 := HQ3.out.cb.c2
  go_wp2_with fail
  refine (HOF.out wc _ _ _ HQ3.out.cb.bel).mono ?_
  rintro e w5 ⟨u5, rfl, hu5, hb5⟩
  obtain ⟨UA5, uc5, rfl⟩ := hu5.form'
  have HQ5 := Lib.hid (HQ3.out.on hb5); have HX5 := Lib.hid (HS5.out.on hb5)
  have HU5 := Lib.hid (hu5.sep HML.out HMW.out)
  have hs1 := HQ2.out.cb.bel.size
  have hs3 := HQ3.out.cb.bel.size
  have hq2 := HQ2.out.q.lt
  have hq3 := HQ3.out.q.lt
  clear hu5 hb5 c0 c1 c2 x0 x1
  obtain ⟨y0, y1, y2, y3, y4, f0, f1, f2, f3, f4⟩ := HQ5.out.q.five
  go_wp2_with fail
  obtain ⟨wz, hz, HL⟩ := lay5 (x := .int .i64 P) (y := .int .i64 M) (z := .slice UA5 Mod.length uc5) (u := .int .i64 (n : Int)) (v := .slice UA k uc) HQ5.out.q
  rw [hz]
  have q0 := HL.c0; have q1 := HL.c1; have q2 := HL.c2; have q3 := HL.c3; have q4 := HL.c4
  refine bodyPost_ret (v := .tuple #[.agg #[.int .i64 P, .int .i64 M, .slice UA5 Mod.length uc5, .int .i64 (n : Int), .slice UA k uc], .int .i64 0]) (by simp [results, Try.results16, go_sem, q0, q1, q2, q3, q4]) rfl ?_
  exact ⟨_, _, rfl, ((HU5.out.grown HL.gr (by rintro b e; cases e; omega)).mono hs3).and ((HX5.out.grown HL.gr (by rintro b e; cases e; omega)).mono hs1), HL.below HQ5.out.cb.bel HQ5.out.cb.bel.size (by omega)⟩
theorem boxesT (w : World) (t : TypeId) (cs ds : List Value) : ∃ w', (w.alloc (.cells cs.toArray t)).alloc (.cells ds.toArray t) = w' ∧ Blk w' w.heap.size t cs ∧ Blk w' (w.heap.size + 1) t ds ∧ Below w.heap.size w w' := by
 obtain ⟨w', h1, h2, h3, h4, _⟩ := boxes2 w t cs ds
 exact ⟨w', h1, h2, h3, h4⟩
def sameF (P M : Int) (Mod : List Int) (P2 M2 : Int) (Mod2 : List Int) : Bool := decide (P = P2 ∧ M = M2 ∧ Mod = Mod2)
set_option maxHeartbeats 8000000 in
theorem fSame_any (w : World) (P M P2 M2 : Int) (v1 v2 : Value) (Mod Mod2 : List Int) (h1 : SI w v1 Mod) (h2 : SI w v2 Mod2) :
  Calls Try.prog 90 #[.agg #[.int .i64 P, .int .i64 M, v1], .agg #[.int .i64 P2, .int .i64 M2, v2]] w (RetB w (sameF P M Mod P2 M2 Mod2)) := by
 have H1 := Lib.hid h1; have H2 := Lib.hid h2
 have hl1 := h1.len'; have hl2 := h2.len'
 obtain ⟨A1, k1, rfl, _⟩ := h1
 obtain ⟨A2, k2, rfl, _⟩ := h2
 by_cases hP : P = P2
 case neg =>
  have HE : Hid (sameF P M Mod P2 M2 Mod2 = false) := hid' (decide_eq_false fun h => hP h.1)
  have hPP : (P != P2) = true := by rw [bne_iff_ne]; exact hP
  clear hP
  obtain ⟨w1, e1, hq1, hq2, hb⟩ := boxesT w 24 [.int .i64 P, .int .i64 M, .slice A1 Mod.length k1] [.int .i64 P2, .int .i64 M2, .slice A2 Mod2.length k2]
  have HE1 := Lib.hid e1; have T1 := Lib.hid hq1; have T2 := Lib.hid hq2; have HB := Lib.hid hb
  clear e1 hq1 hq2 hb
  generalize Mod.length = l at *
  generalize Mod2.length = l2 at *
  go_enter Try.func90, Try.ntmps90
  go_upto_region 1 with fail
  rw [HE1.out]
  clear HE1
  have a0 := T1.out.cell 0; have a1 := T1.out.cell 1; have a2 := T1.out.cell 2
  have b0 := T2.out.cell 0; have b1 := T2.out.cell 1; have b2 := T2.out.cell 2
  go_wp2_with fail
  go_ret
  exact ⟨by rw [HE.out]; rfl, HB.out⟩
 have hPP : (P != P2) = false := by rw [bne_eq_false_iff_eq]; exact hP
 by_cases hM : M = M2
 case neg =>
  have HE : Hid (sameF P M Mod P2 M2 Mod2 = false) := hid' (decide_eq_false fun h => hM h.2.1)
  have hMM : (M != M2) = true := by rw [bne_iff_ne]; exact hM
  clear hP hM
  obtain ⟨w1, e1, hq1, hq2, hb⟩ := boxesT w 24 [.int .i64 P, .int .i64 M, .slice A1 Mod.length k1] [.int .i64 P2, .int .i64 M2, .slice A2 Mod2.length k2]
  have HE1 := Lib.hid e1; have T1 := Lib.hid hq1; have T2 := Lib.hid hq2; have HB := Lib.hid hb
  clear e1 hq1 hq2 hb
  generalize Mod.length = l at *
  generalize Mod2.length = l2 at *
  go_enter Try.func90, Try.ntmps90
  go_upto_region 1 with fail
  rw [HE1.out]
  clear HE1
  have a0 := T1.out.cell 0; have a1 := T1.out.cell 1; have a2 := T1.out.cell 2
  have b0 := T2.out.cell 0; have b1 := T2.out.cell 1; have b2 := T2.out.cell 2
  go_wp2_with fail
  go_ret
  exact ⟨by rw [HE.out]; rfl, HB.out⟩
 have hMM : (M != M2) = false := by rw [bne_eq_false_iff_eq]; exact hM
 by_cases hl : Mod.length = Mod2.length
 case neg =>
  have HE : Hid (sameF P M Mod P2 M2 Mod2 = false) := hid' (decide_eq_false fun h => hl (by rw [h.2.2]))
  have hll : (((Mod.length : Nat) : Int) != (Mod2.length : Int)) = true := by rw [bne_iff_ne]; omega
  clear hP hM hl
  obtain ⟨w1, e1, hq1, hq2, hb⟩ := boxesT w 24 [.int .i64 P, .int .i64 M, .slice A1 Mod.length k1] [.int .i64 P2, .int .i64 M2, .slice A2 Mod2.length k2]
  have HE1 := Lib.hid e1; have T1 := Lib.hid hq1; have T2 := Lib.hid hq2; have HB := Lib.hid hb
  clear e1 hq1 hq2 hb
  generalize Mod.length = l at *
  generalize Mod2.length = l2 at *
  go_enter Try.func90, Try.ntmps90
  go_upto_region 1 with fail
  rw [HE1.out]
  clear HE1
  have a0 := T1.out.cell 0; have a1 := T1.out.cell 1; have a2 := T1.out.cell 2
  have b0 := T2.out.cell 0; have b1 := T2.out.cell 1; have b2 := T2.out.cell 2
  go_wp2_with fail
  go_ret
  exact ⟨by rw [HE.out]; rfl, HB.out⟩
 have HEQ : Hid (sameF P M Mod P2 M2 Mod2 = decide (Mod = Mod2)) := hid' (by unfold sameF; simp [hP, hM])
 rw [HEQ.out]
 obtain ⟨l, hln⟩ : ∃ l, l = Mod.length := ⟨_, rfl⟩
 have hln2 : l = Mod2.length := by omega
 rw [← hln] at H1 hl1 ⊢
 rw [← hln2] at H2 ⊢
 have HN := Lib.hid hln; have HN2 := Lib.hid hln2
 clear hln hln2 hl hl2 hP hM
 have hll : ((l : Int) != (l : Int)) = false := by simp
 obtain ⟨w1, e1, hq1, hq2, hb⟩ := boxesT w 24 [.int .i64 P, .int .i64 M, .slice A1 l k1] [.int .i64 P2, .int .i64 M2, .slice A2 l k2]
 have HE1 := Lib.hid e1; have T1 := Lib.hid hq1; have T2 := Lib.hid hq2; have HB := Lib.hid hb
 clear e1 hq1 hq2 hb
 go_enter Try.func90, Try.ntmps90
 go_upto_region 1 with fail
 rw [HE1.out]
 clear HE1
 have a0 := T1.out.cell 0; have a1 := T1.out.cell 1; have a2 := T1.out.cell 2
 have b0 := T2.out.cell 0; have b1 := T2.out.cell 1; have b2 := T2.out.cell 2
 go_wp2_with fail
 clear a0 a1 a2 b0 b1 b2
 go_loopw [5, 6, 31] (fun _ _ i wr => ∃ k : Nat, k ≤ l ∧ i = .int .i64 (k : Int) ∧ Hid (∀ j, j < k → Mod.getD j 0 = Mod2.getD j 0) ∧ Hid (Below w1.heap.size w1 wr)) (fun _ _ i _ => l - (intOf i).toNat)
 case atStart => exact ⟨0, Nat.zero_le _, rfl, hid' fun j hj => absurd hj (by omega), bl_refl _⟩
 case round =>
  obtain ⟨k, hk, rfl, HG, HBr⟩ := hrel
  have S1 := Lib.hid (T1.out.belowS HBr.out); have S2 := Lib.hid (T2.out.belowS HBr.out)
  have HBW := Lib.hid (bl_trans HB.out HBr.out)
  by_cases hlt : k < l
  ·obtain ⟨x1, y, rfl, hc, _, HY⟩ := (H1.out.below HBW.out (Nat.le_refl _)).elt (k := k) (by rw [← HN.out]; exact hlt)
   obtain ⟨x2, z, rfl, hd, _, HZ⟩ := (H2.out.below HBW.out (Nat.le_refl _)).elt (k := k) (by rw [← HN2.out]; exact hlt)
   have a2 := S1.out.cell 2; have b2 := S2.out.cell 2
   by_cases hyz : y = z
   ·have hyy : (y != z) = false := by simp [hyz]
    have hzz : (z != y) = false := by simp [hyz]
    have HXY := Lib.hid hyz; clear hyz
    go_wp2_with fail
    exact ⟨⟨k + 1, by omega, by push_cast; rfl, hid' fun j hj => by
     by_cases e : j = k
     ·subst e; rw [HY.out, HZ.out]; exact HXY.out
     ·exact HG.out j (by omega), HBr.out⟩, by simp only [intOf]; omega⟩
   ·have hyy : (y != z) = true := by simp [hyz]
    have hzz : (z != y) = true := by rw [bne_iff_ne]; exact fun h => hyz h.symm
    have HE : Hid (decide (Mod = Mod2) = false) := hid' (decide_eq_false fun h => hyz (by rw [← HY.out, ← HZ.out, h]))
    clear hyz
    go_wp2_with fail
    go_ret
    exact ⟨by rw [HE.out]; rfl, HBW.out⟩
  ·obtain rfl : l = k := by omega
   have HE : Hid (decide (Mod = Mod2) = true) := by
    show _ = _
    refine decide_eq_true (List.ext_getElem (by rw [← HN.out, ← HN2.out]) fun i h1 h2 => ?_)
    have := HG.out i (by rw [HN.out]; exact h1)
    simp [List.getD, h1, h2] at this
    exact this
   have a2 := S1.out.cell 2
   go_wp2_with fail
   go_ret
   exact ⟨by rw [HE.out]; rfl, HBW.out⟩
set_option maxHeartbeats 16000000 in
theorem sMeet_ok (w : World) (P M : Int) (n : Nat) (mv rv sv : Value) (Mod : List Int) (A B : List (List Int)) (hm : SI w mv Mod) (hv : SS w rv A) (hu : SS w sv B) (hA : spaceE P M Mod n A = 0) (hB : spaceE P M Mod n B = 0) (hn : n ≤ 128) :
  Calls Try.prog 71 #[.agg #[.int .i64 P, .int .i64 M, mv], .agg #[.int .i64 (n : Int), rv], .agg #[.int .i64 (n : Int), sv]] w (RetMx w n (meetS (refOps P M Mod) A B n)) := by
 have hSA := SpP.of hA; have hSB := SpP.of hB
 have hO := hSA.hO
 have hNA := Cn.null hO hSA.rref.rows; have hNB := Cn.null hO hSB.rref.rows
 have hNS := Cn.canon hO (hNA.rows.app hNB.rows)
 have HME : Hid (nullL (refOps P M Mod) (sumS (refOps P M Mod) (nullL (refOps P M Mod) A n) (nullL (refOps P M Mod) B n) n) n = meetS (refOps P M Mod) A B n) := hid' (null_canon hO (hNA.rows.app hNB.rows))
 have HPR := Lib.hid (fun (w' : World) (hb : Below w.heap.size w w') => pair_ok w' P M n mv rv sv Mod A B (hm.below hb (Nat.le_refl _)) (hv.below hb (Nat.le_refl _)) (hu.below hb (Nat.le_refl _)) hA hB)
 have HK1 := Lib.hid (fun (w' : World) (hb : Below w.heap.size w w') => mKernel_ok w' P M n mv _ Mod A (hm.below hb (Nat.le_refl _)) (hv.below hb (Nat.le_refl _)) (spaceE_zero hA).1)
 have HK2 := Lib.hid (fun (w' : World) (hb : Below w.heap.size w w') => mKernel_ok w' P M n mv _ Mod B (hm.below hb (Nat.le_refl _)) (hu.below hb (Nat.le_refl _)) (spaceE_zero hB).1)
 have HSU := Lib.hid (fun (w' : World) (u1 u2 : Value) (hb : Below w.heap.size w w') (h1 : SS w' u1 (nullL (refOps P M Mod) A n)) (h2 : SS w' u2 (nullL (refOps P M Mod) B n)) => sSum_ok w' P M n mv u1 u2 Mod _ _ (hm.below hb (Nat.le_refl _)) h1 h2 (Cn.spaceE hSA.fld (by omega) hNA) (Cn.spaceE hSA.fld (by omega) hNB) hn)
 have HK3 := Lib.hid (fun (w' : World) (u1 : Value) (hb : Below w.heap.size w w') (h1 : SS w' u1 (sumS (refOps P M Mod) (nullL (refOps P M Mod) A n) (nullL (refOps P M Mod) B n) n)) => mKernel_ok w' P M n mv u1 Mod _ (hm.below hb (Nat.le_refl _)) h1 (spaceE_zero (Cn.spaceE hSA.fld (by omega) hNS)).1)
 unfold RetPr at HPR
 unfold RetMx at HK1 HK2 HK3 HSU
 rw [HME.out] at HK3
 obtain ⟨RA, rc, rfl, _⟩ := hv
 obtain ⟨SA, sc, rfl, _⟩ := hu
 clear hm hA hB hSA hSB hO hNA hNB hNS
 generalize A.length = r at *
 generalize B.length = s at *
 obtain ⟨w1, e1, hq, hs1⟩ := FPP.mk' w P M mv n (.slice RA r rc) n (.slice SA s sc)
 have HQ := Lib.hid hq; have HE1 := Lib.hid e1
 clear hq e1
 go_enter Try.func71, Try.ntmps71
 go_upto_region 1 with fail
 rw [HE1.out]
 clear HE1
 have H3 := Lib.hid (Blk.new w1 27 [.int .i64 0, .slice none 0 0])
 have hb1 := bl_alloc w1 (.cells #[.int .i64 0, .slice none 0 0] 27)
 have hs2 := World.size_alloc w1 (.cells #[.int .i64 0, .slice none 0 0] 27)
 have HQ1 := Lib.hid (HQ.out.on hb1)
 generalize w1.alloc (.cells #[.int .i64 0, .slice none 0 0] 27) = w2 at *
 rw [hs1] at H3 hs2
 clear hb1 HQ
 have c0 := HQ1.out.fb.c0; have c1 := HQ1.out.fb.c1; have c2 := HQ1.out.fb.c2; have d0 := HQ1.out.m1.cell 0; have d1 := HQ1.out.m1.cell 1; have m0 := HQ1.out.m2.cell 0; have m1 := HQ1.out.m2.cell 1
 go_wp2_with fail
 refine (HPR.out w2 HQ1.out.fb.bel).mono ?_
 rintro e w3 ⟨a1, P1, k1, a2, P2, k2, rfl, _, _, hb3⟩
 have HQ3 := Lib.hid (HQ1.out.on hb3); have H33 := Lib.hid (H3.out.belowS hb3)
 have hs3 := hb3.size
 clear hb3 c0 c1 c2 d0 d1 m0 m1
 go_upto_region 2 with fail
 obtain ⟨w4, e4, _, _, hb4, hs4⟩ := boxes2 w3 88 [.pointer (some ⟨a1, 0, none⟩), .int .i64 (n : Int), .slice RA r rc, .slice P1 r k1] [.pointer (some ⟨a2, 0, none⟩), .int .i64 (n : Int), .slice SA s sc, .slice P2 s k2]
 rw [e4]
 have HQ4 := Lib.hid (HQ3.out.on hb4); have H34 := Lib.hid (H33.out.belowS hb4)
 clear e4 hb4 HQ3 H33
 have c0 := HQ4.out.fb.c0; have c1 := HQ4.out.fb.c1; have c2 := HQ4.out.fb.c2; have d0 := HQ4.out.m1.cell 0; have d1 := HQ4.out.m1.cell 1
 go_wp2_with fail
 refine (HK1.out w4 HQ4.out.fb.bel).mono ?_
 rintro e w5 ⟨u1, rfl, hx1, hb5⟩
 obtain ⟨U1, uc1, rfl, _⟩ := hx1.out
 have HX1 := Lib.hid hx1.out
 have HQ5 := Lib.hid (HQ4.out.on hb5); have H35 := Lib.hid (H34.out.belowS hb5)
 have hs5 := hb5.size
 clear hx1 hb5 c0 c1 c2 d0 d1 HQ4 H34
 generalize (nullL (refOps P M Mod) A n).length = l1 at *
 go_upto_region 5 with fail
 obtain ⟨w6, g6, e1, e2, h6, hb6⟩ := mk_box w5 27 [.int .i64 (n : Int), .slice U1 l1 uc1]
 rw [e1, e2]
 have HQ6 := Lib.hid (HQ5.out.on hb6); have H36 := Lib.hid (H35.out.belowS hb6); have HX16 := Lib.hid (HX1.out.below hb6 (Nat.le_refl _)); have HG6 := Lib.hid h6
 have hs6 := hb6.size
 clear e1 e2 h6 hb6 HQ5 H35 HX1
 have c0 := HQ6.out.fb.c0; have c1 := HQ6.out.fb.c1; have c2 := HQ6.out.fb.c2; have d0 := HQ6.out.m2.cell 0; have d1 := HQ6.out.m2.cell 1
 go_wp2_with fail
 refine (HK2.out w6 HQ6.out.fb.bel).mono ?_
 rintro e w7 ⟨u2, rfl, hx2, hb7⟩
 obtain ⟨U2, uc2, rfl, _⟩ := hx2.out
 have HX2 := Lib.hid hx2.out
 have HQ7 := Lib.hid (HQ6.out.on hb7); have H37 := Lib.hid (H36.out.belowS hb7); have HX17 := Lib.hid (HX16.out.below hb7 (Nat.le_refl _)); have HG67 := Lib.hid (HG6.out.belowS hb7)
 have hs7 := hb7.size
 clear hx2 hb7 c0 c1 c2 d0 d1 HQ6 H36 HX16 HG6
 generalize (nullL (refOps P M Mod) B n).length = l2 at *
 go_upto_region 6 with fail
 obtain ⟨w8, g8, e1, e2, h8, hb8⟩ := mk_box w7 27 [.int .i64 (n : Int), .slice U2 l2 uc2]
 rw [e1, e2]
 have HQ8 := Lib.hid (HQ7.out.on hb8); have H38 := Lib.hid (H37.out.belowS hb8); have HX18 := Lib.hid (HX17.out.below hb8 (Nat.le_refl _)); have HX28 := Lib.hid (HX2.out.below hb8 (Nat.le_refl _))
 have hg6 := HG67.out.belowS hb8
 have hs8 := hb8.size
 have x0 : w8.cell? ⟨g6, 0, none⟩ = some (.int .i64 (n : Int)) := hg6.cell 0
 have x1 : w8.cell? ⟨g6, 1, none⟩ = some (.slice U1 l1 uc1) := hg6.cell 1
 have x2 : w8.cell? ⟨g8, 0, none⟩ = some (.int .i64 (n : Int)) := h8.cell 0
 have x3 : w8.cell? ⟨g8, 1, none⟩ = some (.slice U2 l2 uc2) := h8.cell 1
 clear e1 e2 h8 hb8 HQ7 H37 HX17 HX2 hg6 HG67
 have c0 := HQ8.out.fb.c0; have c1 := HQ8.out.fb.c1; have c2 := HQ8.out.fb.c2
 go_wp2_with fail
 refine (HSU.out w8 _ _ HQ8.out.fb.bel HX18.out HX28.out).mono ?_
 rintro e w9 ⟨u3, rfl, hx3, hb9⟩
 obtain ⟨U3, uc3, rfl, _⟩ := hx3.out
 have HX3 := Lib.hid hx3.out
 have HQ9 := Lib.hid (HQ8.out.on hb9); have H39 := Lib.hid (H38.out.belowS hb9)
 have hs9 := hb9.size
 clear hx3 hb9 c0 c1 c2 x0 x1 x2 x3 HQ8 H38 HX18 HX28
 generalize (sumS (refOps P M Mod) (nullL (refOps P M Mod) A n) (nullL (refOps P M Mod) B n) n).length = l3 at *
 go_upto_region 7 with fail
 obtain ⟨w10, g10, e1, e2, h10, hb10⟩ := mk_box w9 27 [.int .i64 (n : Int), .slice U3 l3 uc3]
 rw [e1, e2]
 have HQ10 := Lib.hid (HQ9.out.on hb10); have H310 := Lib.hid (H39.out.belowS hb10); have HX310 := Lib.hid (HX3.out.below hb10 (Nat.le_refl _))
 have hs10 := hb10.size
 have x0 : w10.cell? ⟨g10, 0, none⟩ = some (.int .i64 (n : Int)) := h10.cell 0
 have x1 : w10.cell? ⟨g10, 1, none⟩ = some (.slice U3 l3 uc3) := h10.cell 1
 clear e1 e2 h10 hb10 HQ9 H39 HX3
 have c0 := HQ10.out.fb.c0; have c1 := HQ10.out.fb.c1; have c2 := HQ10.out.fb.c2
 go_wp2_with fail
 refine (HK3.out w10 _ HQ10.out.fb.bel HX310.out).mono ?_
 rintro e w11 ⟨u4, rfl, hx4, hb11⟩
 obtain ⟨U4, uc4, rfl, _⟩ := hx4.out
 have HX4 := Lib.hid hx4
 have HQ11 := Lib.hid (HQ10.out.on hb11); have H311 := Lib.hid (H310.out.belowS hb11)
 have hs11 := hb11.size
 clear hx4 hb11 c0 c1 c2 x0 x1
 generalize (meetS (refOps P M Mod) A B n).length = l4 at *
 obtain ⟨y0, y1, f0, f1⟩ := H311.out.two
 go_wp2_with fail
 obtain ⟨wz, hz, HL⟩ := lay2 (x := .int .i64 (n : Int)) (y := .slice U4 l4 uc4) H311.out
 rw [hz]
 have q0 := HL.c0; have q1 := HL.c1
 refine bodyPost_ret (v := .tuple #[.agg #[.int .i64 (n : Int), .slice U4 l4 uc4], .int .i64 0]) (by simp [results, Try.results71, go_sem, q0, q1]) rfl ?_
 exact ⟨_, rfl, (HX4.out.grown HL.gr (by rintro b e; cases e; omega)).mono HQ10.out.fb.bel.size, HL.below HQ11.out.fb.bel HQ11.out.fb.bel.size (by omega)⟩
theorem FieldP.ord {P M : Int} {Mod : List Int} (h : FieldP P M Mod) : orderF P M ≠ 0 := h.1
theorem FieldP.modp {P M : Int} {Mod : List Int} (h : FieldP P M Mod) : ModP P M Mod := h.2.2.1
def vecE (q : Int) (x : List Int) (n : Int) : Int := if (x.length : Int) = n then entriesF q x else 3
set_option maxHeartbeats 4000000 in
theorem word1_any (w : World) (g a : Nat) (P M x : Int) (Mod : List Int) (hG : GF w a P M Mod) (hc : w.cell? ⟨g, 0, none⟩ = some (.pointer (some ⟨a, 0, none⟩))) :
  Calls Try.prog 82 #[.int .i64 x, .pointer (some ⟨g, 0, none⟩)] w (fun e w' => e = .returned (.bool (!(isB P M x))) ∧ w = w') := by
 have HG := Lib.hid hG; clear hG
 go_enter Try.func82, Try.ntmps82
 go_wp2_with fail
 refine (gis_any _ a P M x Mod HG.out).mono ?_
 rintro e w1 ⟨rfl, rfl⟩
 go_wp2_with fail
 go_ret
 exact ⟨rfl, rfl⟩
set_option maxHeartbeats 4000000 in
theorem indexW_any (w : World) (g a : Nat) (P M : Int) (Mod : List Int) (v : Value) (xs : List Int) (hG : GF w a P M Mod) (hc : w.cell? ⟨g, 0, none⟩ = some (.pointer (some ⟨a, 0, none⟩))) (hv : SI w v xs) :
  Calls Try.prog 77 #[v, .func (.func 82) #[] #[.pointer (some ⟨g, 0, none⟩)]] w (fun e w' => ∃ z, e = .returned (.int .i64 z) ∧ decide (0 ≤ z) = decide (entriesF (orderF P M) xs ≠ 0) ∧ w = w') := by
 obtain ⟨A, c, rfl, hv⟩ := hv
 have hn := hv.len
 have HV := Lib.hid hv; have HG := Lib.hid hG; have HC := Lib.hid hc; clear hv hG hc
 go_enter Try.func77, Try.ntmps77
 go_wp2_with fail
 go_loop [8] (fun i => ∃ k : Nat, k ≤ xs.length ∧ i = .int .i64 (k : Int) ∧ Hid (∀ j, j < k → 0 ≤ xs.getD j 0 ∧ xs.getD j 0 < orderF P M)) (fun i => xs.length - (intOf i).toNat)
 case atStart => exact ⟨0, Nat.zero_le _, rfl, hid' fun j hj => absurd hj (Nat.not_lt_zero _)⟩
 case round =>
  obtain ⟨k, hk, rfl, HK⟩ := hrel
  by_cases hlt : k < xs.length
  ·obtain ⟨ad, x, rfl, hcc, _, HX⟩ := HV.out.elt hlt
   go_wp2_with fail
   refine (word1_any _ g a P M x Mod HG.out HC.out).mono ?_
   rintro e w1 ⟨rfl, rfl⟩
   by_cases hx : 0 ≤ x ∧ x < orderF P M
   ·rw [isB_true hx]
    have HXX := Lib.hid hx; clear hx
    go_wp2_with fail
    go_round
    case rel => exact ⟨k + 1, by omega, by go_num, hid' fun j hj => by
     by_cases e : j = k
     ·subst e; rw [HX.out]; exact HXX.out
     ·exact HK.out j (by omega)⟩
    case measure => simp [intOf]; omega
   ·rw [isB_false hx]
    have HE : Hid (entriesF (orderF P M) xs = 2) := entriesF_bad hlt (by rw [HX.out]; exact hx)
    clear hx
    go_wp2_with fail
    go_ret
    refine ⟨_, rfl, ?_, rfl⟩
    rw [HE.out]
    show decide ((0 : Int) ≤ (k : Int)) = true
    rw [decide_eq_true_eq]; omega
  ·obtain rfl : xs.length = k := by omega
   have HE : Hid (entriesF (orderF P M) xs = 0) := entriesF_ok HK.out
   go_wp2_with fail
   go_ret
   refine ⟨_, rfl, ?_, rfl⟩
   rw [HE.out]; rfl
set_option maxHeartbeats 8000000 in
theorem vword_any (w : World) (v rv xv : Value) (P M : Int) (Mod : List Int) (n : Nat) (rows : List (List Int)) (x : List Int) (hV : VW w v P M Mod n rv rows) (hv : SS w rv rows) (hx : SI w xv x) :
  Calls Try.prog 57 #[v, xv] w (RetI w (vecE (orderF P M) x n)) := by
 obtain ⟨a, PA, c, rfl, hG, _⟩ := hV
 obtain ⟨RA, rc, rfl, _⟩ := hv
 generalize rows.length = r at *
 have HQ := Blk.new w 88 [.pointer (some ⟨a, 0, none⟩), .int .i64 (n : Int), .slice RA r rc, .slice PA r c]
 have hb0 := bl_alloc w (.cells #[.pointer (some ⟨a, 0, none⟩), .int .i64 (n : Int), .slice RA r rc, .slice PA r c] 88)
 have HB0 := Lib.hid hb0
 have HG := Lib.hid (hG.on hb0)
 have HX := Lib.hid (hx.below hb0 (Nat.le_refl _))
 have HIX : Hid (∀ w1, w1 = w.alloc (.cells #[.pointer (some ⟨a, 0, none⟩), .int .i64 (n : Int), .slice RA r rc, .slice PA r c] 88) → Calls Try.prog 49 #[xv, .func (.func 82) #[] #[.pointer (some ⟨w.heap.size, 0, none⟩)]] w1 (fun e w' => e = .returned (.bool (decide (entriesF (orderF P M) x ≠ 0))) ∧ w1 = w')) := hid' fun w1 e1 => by
  subst e1
  have HI := Lib.hid (indexW_any _ w.heap.size a P M Mod xv x HG.out (HQ.cell 0) HX.out)
  clear HQ HG HX
  go_enter Try.func49, Try.ntmps49
  go_wp2_with fail
  refine HI.out.mono ?_
  rintro e w2 ⟨z, rfl, hz, rfl⟩
  have HZ := Lib.hid hz; clear hz
  go_wp2_with fail
  go_ret
  exact ⟨by rw [← HZ.out]; rfl, rfl⟩
 obtain ⟨XA, xc, rfl, _⟩ := hx
 clear hG hb0 HQ
 by_cases hl : (x.length : Int) = n
 ·have hb : ((x.length : Int) != (n : Int)) = false := by rw [bne_eq_false_iff_eq]; exact hl
  have HE : Hid (vecE (orderF P M) x n = entriesF (orderF P M) x) := by show _ = _; unfold vecE; rw [if_pos hl]
  clear hl
  rcases entriesF_cases (orderF P M) x with h0 | h0
  ·have H0 := Lib.hid h0
   rw [show decide (entriesF (orderF P M) x ≠ 0) = false by rw [h0]; rfl] at HIX
   clear h0
   go_enter Try.func57, Try.ntmps57
   go_wp2_with fail
   refine (HIX.out _ rfl).mono ?_
   rintro e w2 ⟨rfl, rfl⟩
   go_wp2_with fail
   go_ret
   exact ⟨by rw [HE.out, H0.out]; rfl, HB0.out⟩
  ·have H0 := Lib.hid h0
   rw [show decide (entriesF (orderF P M) x ≠ 0) = true by rw [h0]; rfl] at HIX
   clear h0
   go_enter Try.func57, Try.ntmps57
   go_wp2_with fail
   refine (HIX.out _ rfl).mono ?_
   rintro e w2 ⟨rfl, rfl⟩
   go_wp2_with fail
   go_ret
   exact ⟨by rw [HE.out, H0.out]; rfl, HB0.out⟩
 ·have hb : ((x.length : Int) != (n : Int)) = true := by rw [bne_iff_ne]; exact hl
  have HE : Hid (vecE (orderF P M) x n = 3) := by show _ = _; unfold vecE; rw [if_neg hl]
  clear hl
  go_enter Try.func57, Try.ntmps57
  go_wp2_with fail
  go_ret
  exact ⟨by rw [HE.out]; rfl, HB0.out⟩
theorem vecE_zero {q : Int} {x : List Int} {n : Nat} (h : vecE q x n = 0) (hq : 0 < q) : x.length = n ∧ Rng q x := by
 unfold vecE at h
 split at h
 ·rename_i h1
  refine ⟨by omega, fun k => ?_⟩
  by_cases hk : k < x.length
  ·exact entriesF_zero h k hk
  ·rw [getD_len (by omega)]; omega
 ·cases h
def crdL (O : FOps) (rows : List (List Int)) (n : Nat) (x : List Int) : List Int := (List.range rows.length).map fun k => x.getD (pvt (pivL O rows n) k) 0
def RetIs (w : World) (xs : List Int) (e : Ending) (w' : World) : Prop := ∃ u, e = .returned (.tuple #[u, .int .i64 0]) ∧ OI w.heap.size w' u xs ∧ Below w.heap.size w w'
set_option maxHeartbeats 8000000 in
theorem sCoord_ok (w : World) (P M : Int) (n : Nat) (mv rv xv : Value) (Mod : List Int) (A : List (List Int)) (x : List Int) (hm : SI w mv Mod) (hv : SS w rv A) (hx : SI w xv x) (hA : spaceE P M Mod n A = 0) (hxe : vecE (orderF P M) x n = 0) (hin : inL (refOps P M Mod) A x = true) :
  Calls Try.prog 32 #[.agg #[.int .i64 P, .int .i64 M, mv], .agg #[.int .i64 (n : Int), rv], xv] w (RetIs w (crdL (refOps P M Mod) A n x)) := by
 have HO := Lib.hid (fun (w' : World) (hb : Below w.heap.size w w') => sopen_ok w' P M n mv _ Mod A (hm.below hb (Nat.le_refl _)) (hv.below hb (Nat.le_refl _)) hA)
 have hS := SpP.of hA
 have hob := orderF_bounds P M
 have hq0 : 0 < orderF P M := by have := hS.fld.1; omega
 have hvx := vecE_zero hxe hq0
 have HW := Lib.hid (fun (w' : World) (v : Value) (hb : Below w.heap.size w w') (hV : VW w' v P M Mod n rv A) => vword_any w' v rv xv P M Mod n A x hV (hv.below hb (Nat.le_refl _)) (hx.below hb (Nat.le_refl _)))
 have HH := Lib.hid (fun (w' : World) (v : Value) (hb : Below w.heap.size w w') (hV : VW w' v P M Mod n rv A) => vreduce_any w' v rv xv P M Mod n A x hS hV (hv.below hb (Nat.le_refl _)) (hx.below hb (Nat.le_refl _)) hvx.2 hvx.1)
 have HRL : Hid ((restL (refOps P M Mod) A x).length ≤ 256 ∧ ∀ k, I64 ((restL (refOps P M Mod) A x).getD k 0)) := hid' (by
  have h := rest_lt hS.hO hS.rref hvx.2 hvx.1
  exact ⟨by rw [h.1]; exact hS.n256, fun k => by have := h.2 k; exact I64.of_small (by omega) (by omega)⟩)
 have HCD : Hid (crdL (refOps P M Mod) A n x = (List.range A.length).map fun k => x.getD (pvt (pivL (refOps P M Mod) A n) k) 0) := rfl
 have HIN : Hid ((restL (refOps P M Mod) A x).all (· == 0) = true) := hid' hin
 rw [hxe] at HW
 rw [← HCD.out] at HH
 unfold RetVW at HO
 obtain ⟨RA, rc, rfl, _⟩ := hv
 clear hm hA hS hxe hvx hob hq0 hx hin HCD
 generalize A.length = r at *
 have HF := Lib.hid (FMBox.mk' w P M mv n (.slice RA r rc))
 go_enter Try.func32, Try.ntmps32
 go_upto_region 1 with fail
 generalize (w.alloc (.cells #[.int .i64 P, .int .i64 M, mv] 24)).alloc (.cells #[.int .i64 (n : Int), .slice RA r rc] 27) = w1 at *
 have c0 := HF.out.fb.c0; have c1 := HF.out.fb.c1; have c2 := HF.out.fb.c2; have d0 := HF.out.d0; have d1 := HF.out.d1
 go_wp2_with fail
 refine (HO.out w1 HF.out.fb.bel).mono ?_
 rintro e w2 ⟨a, PA, c, rfl, hs2, hb2⟩
 have hb3 := bl_alloc w2 (.cells #[.pointer (some ⟨a, 0, none⟩), .int .i64 (n : Int), .slice RA r rc, .slice PA r c] 88)
 have HB3 := Lib.hid (bl_trans (bl_trans HF.out.fb.bel hb2) hb3)
 have HQ3 := Blk.new w2 88 [.pointer (some ⟨a, 0, none⟩), .int .i64 (n : Int), .slice RA r rc, .slice PA r c]
 have HQ := Lib.hid HQ3
 have HV3 := Lib.hid (hs2.out.on hb3)
 clear hb2 hb3 hs2 c0 c1 c2 d0 d1 HQ3
 go_upto_region 2 with fail
 generalize hw3 : w2.alloc (.cells #[.pointer (some ⟨a, 0, none⟩), .int .i64 (n : Int), .slice RA r rc, .slice PA r c] 88) = w3 at *
 clear hw3
 obtain ⟨q0, q1, q2, q3⟩ := HQ.out.four
 go_wp2_with fail
 refine (HW.out w3 _ HB3.out HV3.out).mono ?_
 rintro e w4 ⟨rfl, hb4⟩
 have HB4 := Lib.hid (bl_trans HB3.out hb4)
 have HV4 := Lib.hid (HV3.out.on hb4)
 have HQ4 := Lib.hid (HQ.out.belowS hb4)
 clear hb4 q0 q1 q2 q3 HV3 HQ
 obtain ⟨q0, q1, q2, q3⟩ := HQ4.out.four
 go_wp2_with fail
 refine (HH.out w4 _ HB4.out HV4.out).mono ?_
 rintro e w5 ⟨u1, u2, rfl, h1, h2, hb5⟩
 have HB5 := Lib.hid (bl_trans HB4.out hb5)
 have H1 := Lib.hid (h1.si (by have := HRL.out.1; omega) HRL.out.2)
 have H2 := Lib.hid (h2.mono HB4.out.size)
 clear hb5 q0 q1 q2 q3 h1 h2
 go_wp2_with fail
 refine (szero_any _ u1 _ H1.out).mono ?_
 rintro e w6 ⟨rfl, rfl⟩
 rw [HIN.out]
 go_wp2_with fail
 go_ret2
 exact ⟨_, rfl, H2.out, HB5.out⟩
def RetZE (w : World) (z : Value) (er : Int) (e : Ending) (w' : World) : Prop := e = .returned (.tuple #[z, .int .i64 er]) ∧ Below w.heap.size w w'
set_option maxHeartbeats 8000000 in
theorem sCoord_out (w : World) (P M : Int) (n : Nat) (mv rv xv : Value) (Mod : List Int) (A : List (List Int)) (x : List Int) (hm : SI w mv Mod) (hv : SS w rv A) (hx : SI w xv x) (hA : spaceE P M Mod n A = 0) (hxe : vecE (orderF P M) x n = 0) (hin : inL (refOps P M Mod) A x = false) :
  Calls Try.prog 32 #[.agg #[.int .i64 P, .int .i64 M, mv], .agg #[.int .i64 (n : Int), rv], xv] w (RetZE w (.slice none 0 0) 11) := by
 have HO := Lib.hid (fun (w' : World) (hb : Below w.heap.size w w') => sopen_ok w' P M n mv _ Mod A (hm.below hb (Nat.le_refl _)) (hv.below hb (Nat.le_refl _)) hA)
 have hS := SpP.of hA
 have hob := orderF_bounds P M
 have hq0 : 0 < orderF P M := by have := hS.fld.1; omega
 have hvx := vecE_zero hxe hq0
 have HW := Lib.hid (fun (w' : World) (v : Value) (hb : Below w.heap.size w w') (hV : VW w' v P M Mod n rv A) => vword_any w' v rv xv P M Mod n A x hV (hv.below hb (Nat.le_refl _)) (hx.below hb (Nat.le_refl _)))
 have HH := Lib.hid (fun (w' : World) (v : Value) (hb : Below w.heap.size w w') (hV : VW w' v P M Mod n rv A) => vreduce_any w' v rv xv P M Mod n A x hS hV (hv.below hb (Nat.le_refl _)) (hx.below hb (Nat.le_refl _)) hvx.2 hvx.1)
 have HRL : Hid ((restL (refOps P M Mod) A x).length ≤ 256 ∧ ∀ k, I64 ((restL (refOps P M Mod) A x).getD k 0)) := hid' (by
  have h := rest_lt hS.hO hS.rref hvx.2 hvx.1
  exact ⟨by rw [h.1]; exact hS.n256, fun k => by have := h.2 k; exact I64.of_small (by omega) (by omega)⟩)
 have HCD : Hid (crdL (refOps P M Mod) A n x = (List.range A.length).map fun k => x.getD (pvt (pivL (refOps P M Mod) A n) k) 0) := rfl
 have HIN : Hid ((restL (refOps P M Mod) A x).all (· == 0) = false) := hid' hin
 rw [hxe] at HW
 rw [← HCD.out] at HH
 unfold RetVW at HO
 obtain ⟨RA, rc, rfl, _⟩ := hv
 clear hm hA hS hxe hvx hob hq0 hx hin HCD
 generalize A.length = r at *
 have HF := Lib.hid (FMBox.mk' w P M mv n (.slice RA r rc))
 go_enter Try.func32, Try.ntmps32
 go_upto_region 1 with fail
 generalize (w.alloc (.cells #[.int .i64 P, .int .i64 M, mv] 24)).alloc (.cells #[.int .i64 (n : Int), .slice RA r rc] 27) = w1 at *
 have c0 := HF.out.fb.c0; have c1 := HF.out.fb.c1; have c2 := HF.out.fb.c2; have d0 := HF.out.d0; have d1 := HF.out.d1
 go_wp2_with fail
 refine (HO.out w1 HF.out.fb.bel).mono ?_
 rintro e w2 ⟨a, PA, c, rfl, hs2, hb2⟩
 have hb3 := bl_alloc w2 (.cells #[.pointer (some ⟨a, 0, none⟩), .int .i64 (n : Int), .slice RA r rc, .slice PA r c] 88)
 have HB3 := Lib.hid (bl_trans (bl_trans HF.out.fb.bel hb2) hb3)
 have HQ3 := Blk.new w2 88 [.pointer (some ⟨a, 0, none⟩), .int .i64 (n : Int), .slice RA r rc, .slice PA r c]
 have HQ := Lib.hid HQ3
 have HV3 := Lib.hid (hs2.out.on hb3)
 clear hb2 hb3 hs2 c0 c1 c2 d0 d1 HQ3
 go_upto_region 2 with fail
 generalize hw3 : w2.alloc (.cells #[.pointer (some ⟨a, 0, none⟩), .int .i64 (n : Int), .slice RA r rc, .slice PA r c] 88) = w3 at *
 clear hw3
 obtain ⟨q0, q1, q2, q3⟩ := HQ.out.four
 go_wp2_with fail
 refine (HW.out w3 _ HB3.out HV3.out).mono ?_
 rintro e w4 ⟨rfl, hb4⟩
 have HB4 := Lib.hid (bl_trans HB3.out hb4)
 have HV4 := Lib.hid (HV3.out.on hb4)
 have HQ4 := Lib.hid (HQ.out.belowS hb4)
 clear hb4 q0 q1 q2 q3 HV3 HQ
 obtain ⟨q0, q1, q2, q3⟩ := HQ4.out.four
 go_wp2_with fail
 refine (HH.out w4 _ HB4.out HV4.out).mono ?_
 rintro e w5 ⟨u1, u2, rfl, h1, h2, hb5⟩
 have HB5 := Lib.hid (bl_trans HB4.out hb5)
 have H1 := Lib.hid (h1.si (by have := HRL.out.1; omega) HRL.out.2)
 have H2 := Lib.hid (h2.mono HB4.out.size)
 clear hb5 q0 q1 q2 q3 h1 h2
 go_wp2_with fail
 refine (szero_any _ u1 _ H1.out).mono ?_
 rintro e w6 ⟨rfl, rfl⟩
 rw [HIN.out]
 go_wp2_with fail
 go_ret2
 exact ⟨rfl, HB5.out⟩
set_option maxHeartbeats 8000000 in
theorem mvec_any (w : World) (a : Nat) (P M : Int) (n : Nat) (Mod x : List Int) (xv rv : Value) (rows : List (List Int)) (hG : GF w a P M Mod) (hx : SI w xv x) (hv : SS w rv rows) (hR : Rows (orderF P M) n rows) (hxl : x.length = rows.length) (hn : n ≤ 100000) :
  Calls Try.prog 53 #[.pointer (some ⟨a, 0, none⟩), xv, rv, .int .i64 (n : Int)] w (RetO w (combL (refOps P M Mod) x rows n)) := by
 have HG := Lib.hid hG; have HX := Lib.hid hx; have HV := Lib.hid hv; have HR := Lib.hid hR; have HXL := Lib.hid hxl
 have hf := hG.fld
 have HLT := Lib.hid (refOps_lt hf.1 Mod)
 have hob := orderF_bounds P M
 have HCB : Hid (combL (refOps P M Mod) x rows n = combTo (refOps P M Mod) x rows n x.length) := by show _ = _; unfold combL; rw [hxl, Nat.min_self]
 have hrl := hv.len'
 obtain ⟨XA, xc, rfl, _⟩ := hx
 obtain ⟨RA, rc, rfl, _⟩ := hv
 clear hG hR hf
 rw [hxl] at HX HCB ⊢
 clear hxl
 obtain ⟨r, hrr⟩ : ∃ r, r = rows.length := ⟨_, rfl⟩
 rw [← hrr] at HX HV HCB hrl ⊢
 have HRR := Lib.hid hrr; clear hrr
 have hmk := fun (w : World) => run_mkI n (by omega) w
 go_enter Try.func53, Try.ntmps53
 go_upto_region 2 with fail
 obtain ⟨w1, g, e1, e2, hX, hb⟩ := mk_row w n
 rw [e1, e2]
 have HO0 : Hid (OI w.heap.size w1 (.slice (some ⟨g, 0, none⟩) n n) (combTo (refOps P M Mod) x rows n 0)) := hid' (by
  have h := hX.oi (B := w.heap.size) (by omega) (by simp; omega)
  rw [List.length_replicate] at h
  exact h)
 have HB0 := Lib.hid hb
 have hg : w.heap.size ≤ g := by omega
 clear e1 e2 hX hb hmk
 go_wp2_with fail
 go_loopw [16] (fun i wr => ∃ k : Nat, k ≤ r ∧ i = .int .i64 (k : Int) ∧ Hid (OI w.heap.size wr (.slice (some ⟨g, 0, none⟩) n n) (combTo (refOps P M Mod) x rows n k)) ∧ Hid (Below w.heap.size w wr)) (fun i _ => r - (intOf i).toNat)
 case atStart => exact ⟨0, Nat.zero_le _, rfl, HO0, HB0⟩
 case round =>
  clear HO0 HB0
  obtain ⟨k, hk, rfl, HO, HB⟩ := hrel
  by_cases hkr : k < r
  ·obtain ⟨ad, z, rfl, hc, _, HZ⟩ := (HX.out.below HB.out (Nat.le_refl _)).elt (k := k) (by rw [HXL.out, ← HRR.out]; exact hkr)
   by_cases hz : z = 0
   ·subst hz
    have HNX : Hid (combTo (refOps P M Mod) x rows n (k + 1) = combTo (refOps P M Mod) x rows n k) := by show _ = _; rw [combTo, if_neg (by rw [HZ.out]; simp)]
    go_wp2_with fail
    exact ⟨⟨k + 1, by omega, by push_cast; rfl, by rw [HNX.out]; exact HO, HB⟩, by simp only [intOf]; omega⟩
   ·have hzb : (z != 0) = true := by simpa using hz
    obtain ⟨rd, Ak, ck, row, rfl, hd, HRW, HRE⟩ := (HV.out.below HB.out (Nat.le_refl _)).eltA (k := k) (by rw [← HRR.out]; exact hkr)
    have hrow : row.length = n := by rw [← HRE.out]; exact (HR.out k (by rw [← HRR.out]; exact hkr)).1
    have HNX : Hid (combTo (refOps P M Mod) x rows n (k + 1) = addToL (refOps P M Mod) (combTo (refOps P M Mod) x rows n k) z row) := by show _ = _; rw [combTo, if_pos (by rw [HZ.out]; exact hz), HZ.out, HRE.out]
    have HRB : Hid (0 < n → ∀ b, (Value.slice Ak n ck).ownBlock = some b → b < w.heap.size) := hid' (fun h0 b hb => by
     obtain ⟨rd', Ak', ck', row', e5, hd', hr', hre'⟩ := HV.out.eltA (k := k) (by rw [← HRR.out]; exact hkr)
     injection e5 with e5
     subst e5
     have hd2 := cell_below HB.out hd'
     rw [hd] at hd2
     have h4 := Option.some.inj hd2
     rw [← hre'.out, HRE.out] at h4 hr'
     injection h4 with h5 h6 h7
     subst h5
     subst h7
     have h8 := hr'.out.si
     rw [hrow] at h8
     exact h8.lt (by rw [hrow]; exact h0) hb)
    have HRI := Lib.hid HRW.out.si
    rw [hrow] at HRI hd
    have HCL : Hid ((combTo (refOps P M Mod) x rows n k).length = n) := hid' (combTo_len _ _ _ _ _)
    have HCR : Hid (∀ j, I64 ((combTo (refOps P M Mod) x rows n k).getD j 0)) := hid' (fun j => by
     have h := combTo_rng HLT.out x rows n k j
     exact I64.of_small (by omega) (by omega))
    clear hz
    go_wp2_with fail
    refine (madd_any w wr w.heap.size a g n n 0 P M z Mod _ row Ak ck HG.out HB.out (Nat.le_refl _) HO.out HCL.out HRI.out hrow (fun h0 b hb e => by have := HRB.out h0 b hb; omega) hn HCR.out).mono ?_
    rintro e w5 ⟨rfl, ho5, hg5⟩
    rw [← HNX.out] at ho5
    have HO5 := Lib.hid ho5
    have HB5 := Lib.hid (HB.out.grown hg5 HB.out.size (fun b e => by cases e; exact hg))
    clear ho5 hg5
    go_wp2_with fail
    exact ⟨⟨k + 1, by omega, by push_cast; rfl, HO5, HB5⟩, by simp only [intOf]; omega⟩
  ·obtain rfl : k = r := by omega
   rw [← HCB.out] at HO
   go_wp2_with fail
   go_ret
   exact ⟨_, rfl, HO.out, HB.out⟩
end Go.Proofs.Ytodgdoglhecolaa
namespace Go.Proofs.Ytodgdoglhecolaa
set_option maxRecDepth 100000
def xA : List (List Int) := [[1, 0, 1], [0, 1, 1]]
def xB : List (List Int) := [[1, 0, 0]]
def xS : List (List Int) := [[1, 0, 0], [0, 1, 0], [0, 0, 1]]
theorem x1 : sumS (refOps 2 1 []) xA xB 3 = xS := by decide +kernel
theorem x2 : meetS (refOps 2 1 []) xA xB 3 = [] := by decide +kernel
theorem x3 : nullL (refOps 2 1 []) xA 3 = [[1, 1, 1]] := by decide +kernel
theorem x4 : crdL (refOps 2 1 []) xA 3 [1, 1, 0] = [1, 1] := by decide +kernel
theorem x5 : restL (refOps 2 1 []) xA [1, 0, 0] = [0, 0, 1] := by decide +kernel
theorem x7 : supL (refOps 2 1 []) xA 3 (othersL [1, 2] 3) = [[0, 1, 1]] := by decide +kernel
theorem x10 : inL (refOps 2 1 []) xA [1, 1, 0] = true := by decide +kernel
theorem x11 : canonL (refOps 2 1 []) xA 3 = xA := by decide +kernel
theorem x12 : canonL (refOps 2 1 []) xB 3 = xB := by decide +kernel
theorem x13 : canonL (refOps 2 1 []) xS 3 = xS := by decide +kernel
theorem rows_of {n : Nat} {l : List (List Int)} (h : (l.all fun r => decide (r.length = n) && r.all fun x => decide (0 ≤ x ∧ x < 2)) = true) : Rows (orderF 2 1) n l := fun k hk => by
 rw [List.all_eq_true] at h
 have hm : l.getD k [] ∈ l := by simp [List.getD, hk]
 have h1 := h _ hm
 rw [Bool.and_eq_true, decide_eq_true_eq, List.all_eq_true] at h1
 refine ⟨h1.1, fun i => ?_⟩
 rw [order21]
 by_cases hi : i < (l.getD k []).length
 ·have h2 := h1.2 _ (getD_mem hi)
  rwa [decide_eq_true_eq] at h2
 ·rw [getD_len (by omega)]; omega
theorem fld21 : FieldP 2 1 [] := ⟨by rw [order21]; decide, ⟨by decide, fun d h1 h2 => by omega⟩, ⟨fun _ => rfl, fun h => absurd rfl h⟩, fun h => absurd rfl h⟩
theorem sp_of {l : List (List Int)} (h : (l.all fun r => decide (r.length = 3) && r.all fun x => decide (0 ≤ x ∧ x < 2)) = true) (h2 : canonL (refOps 2 1 []) l 3 = l) (hl : l.length ≤ 256) : spaceE 2 1 [] 3 l = 0 :=
 spaceE_ok (matE_mk (n := 3) fld21 (by omega) hl (rows_of h)) h2
end Go.Proofs.Ytodgdoglhecolaa
namespace Go.Proofs.Ytodgdoglhecolaa
open Go.RowKit
set_option maxRecDepth 100000
theorem ss_lit {w : World} {g : Nat} {hs : List Value} {xss : List (List Int)} (h : Blk w g 22 hs) (hl : xss.length ≤ 17592186044416) (hr : ∀ k, k < xss.length → ∃ u, hs[k]? = some u ∧ SI w u (xss.getD k [])) : SS w (.slice (some ⟨g, 0, none⟩) xss.length xss.length) xss := by
 refine ⟨some ⟨g, 0, none⟩, xss.length, rfl, hl, Nat.le_refl _, fun k hk => ?_⟩
 obtain ⟨u, hu, hs⟩ := hr k hk
 refine ⟨_, u, rfl, ?_, hs⟩
 have e2 : (⟨g, 0, none⟩ : Addr).add k = ⟨g, k, none⟩ := by
  unfold Addr.add
  by_cases h0 : k = 0 <;> simp [h0]
 rw [e2, h.cell k]
 exact hu
theorem bits_wf {xs : List Int} (h : (xs.all fun x => x == 0 || x == 1 || x == 2) = true) (k : Nat) : I64 (xs.getD k 0) := by
 by_cases hk : k < xs.length
 ·rw [List.all_eq_true] at h
  have := h _ (getD_mem hk)
  rw [Bool.or_eq_true, Bool.or_eq_true, beq_iff_eq, beq_iff_eq, beq_iff_eq] at this
  rcases this with (h | h) | h <;> rw [h]
  ·exact I64.zero
  ·exact I64.one
  ·exact I64.of_small (by omega) (by omega)
 ·rw [getD_len (by omega)]; exact I64.zero
theorem si_lit {w : World} {g : Nat} {xs : List Int} (h : Blk w g 3 (xs.map (Value.int .i64))) (hl : xs.length ≤ 17592186044416) (hb : (xs.all fun x => x == 0 || x == 1 || x == 2) = true) : SI w (.slice (some ⟨g, 0, none⟩) xs.length xs.length) xs := RI.si (show RI w g xs from h) hl (bits_wf hb)
theorem ss_lit2 {w : World} {g : Nat} {u v : Value} {xs ys : List Int} (h : Blk w g 22 [u, v]) (hu : SI w u xs) (hv : SI w v ys) : SS w (.slice (some ⟨g, 0, none⟩) 2 2) [xs, ys] :=
 ss_lit (xss := [xs, ys]) h (by simp) (fun k hk => by
  match k, hk with
  | 0, _ => exact ⟨_, rfl, hu⟩
  | 1, _ => exact ⟨_, rfl, hv⟩
  | k + 2, hk => exact absurd hk (by simp))
theorem srT (w : World) (u v : Value) (a b : List (List Int)) (hu : SS w u a) (hv : SS w v b) (h : a = b) : Calls Try.prog 19 #[u, v] w (RetB w true) := by
 have k := rSameRows_any w u v a b hu hv
 rw [show decide (a = b) = true from decide_eq_true h] at k
 exact k
theorem siT (w : World) (u v : Value) (a b : List Int) (hu : SI w u a) (hv : SI w v b) (h : a = b) : Calls Try.prog 14 #[u, v] w (RetB w true) := by
 have k := rSameInts_any w u v a b hu hv
 rw [show decide (a = b) = true from decide_eq_true h] at k
 exact k
theorem eA : spaceE 2 1 [] 3 xA = 0 := sp_of (by decide) x11 (by decide)
theorem eB : spaceE 2 1 [] 3 xB = 0 := sp_of (by decide) x12 (by decide)
theorem eS : spaceE 2 1 [] 3 xS = 0 := sp_of (by decide) x13 (by decide)
theorem ve_of {x : List Int} (hl : (x.length : Int) = 3) (h : (x.all fun y => decide (0 ≤ y ∧ y < 2)) = true) : vecE (orderF 2 1) x 3 = 0 := by
 unfold vecE
 rw [if_pos hl]
 refine entriesF_ok fun k hk => ?_
 rw [order21]
 rw [List.all_eq_true] at h
 have := h _ (getD_mem hk)
 rwa [decide_eq_true_eq] at this
section
variable (w : World) (a b c : Value)
theorem k1 (hA : SS w a xA) (hB : SS w b xB) : Calls Try.prog 92 #[.agg #[.int .i64 2, .int .i64 1, .slice none 0 0], .agg #[.int .i64 3, a], .agg #[.int .i64 3, b]] w (RetMx w 3 [[1, 0, 0], [0, 1, 0], [0, 0, 1]]) := by
 have h := sSum_ok w 2 1 3 (.slice none 0 0) a b [] xA xB (SI.none_ w) hA hB eA eB (by omega)
 rw [x1] at h
 exact h
theorem k2 (hA : SS w a xA) (hB : SS w b xB) : Calls Try.prog 71 #[.agg #[.int .i64 2, .int .i64 1, .slice none 0 0], .agg #[.int .i64 3, a], .agg #[.int .i64 3, b]] w (RetMx w 3 []) := by
 have h := sMeet_ok w 2 1 3 (.slice none 0 0) a b [] xA xB (SI.none_ w) hA hB eA eB (by omega)
 rw [x2] at h
 exact h
theorem k4 (hA : SS w a xA) (hc : SI w c [1, 1, 0]) : Calls Try.prog 32 #[.agg #[.int .i64 2, .int .i64 1, .slice none 0 0], .agg #[.int .i64 3, a], c] w (RetIs w [1, 1]) := by
 have h := sCoord_ok w 2 1 3 (.slice none 0 0) a c [] xA [1, 1, 0] (SI.none_ w) hA hc eA (ve_of rfl (by decide)) x10
 rw [x4] at h
 exact h
end
def RetLA (w : World) (xs : List Int) (er : Int) (e : Ending) (w' : World) : Prop := ∃ u, e = .returned (.tuple #[u, .int .i64 er]) ∧ Sep w.heap.size w' (fun w2 => SI w2 u xs) ∧ Below w.heap.size w w'
theorem RetZE.la {w : World} {er : Int} {e : Ending} {w' : World} (h : RetZE w (.slice none 0 0) er e w') : RetLA w [] er e w' := ⟨_, h.1, SI.nilSep _ _, h.2⟩
theorem RetIs.la {w : World} {xs : List Int} (hl : xs.length ≤ 17592186044416) (hw : ∀ k, I64 (xs.getD k 0)) {e : Ending} {w' : World} (h : RetIs w xs e w') : RetLA w xs 0 e w' := by
 obtain ⟨u, h1, h2, h3⟩ := h
 exact ⟨u, h1, h2.sep hl hw, h3⟩
set_option maxHeartbeats 16000000 in
theorem cPivots_ok (w : World) (P M : Int) (n : Nat) (mv gv : Value) (Mod : List Int) (gen : List (List Int)) (hm : SI w mv Mod) (hg : SS w gv gen) (hE : codeE P M Mod n gen = 0) :
  Calls Try.prog 11 #[.agg #[.int .i64 P, .int .i64 M, mv, .int .i64 (n : Int), gv]] w (RetLA w (pivL (refOps P M Mod) gen n) 0) := by
 have HCK := Lib.hid (fun (w' : World) (hb : Below w.heap.size w w') => cCheck_any w' P M n mv gv Mod gen (hm.below hb (Nat.le_refl _)) (hg.below hb (Nat.le_refl _)))
 rw [hE] at HCK
 have hmat : matE P M Mod n gen = 0 := by
  obtain ⟨h1, h2, h3, h4, h5, h6⟩ := codeE_zero hE
  rw [Int.toNat_natCast] at h5
  exact matE_mk h1 (by omega) h4 h5
 have HCA := Lib.hid (fun (w' : World) (hb : Below w.heap.size w w') => mCanonical_ok w' P M n mv gv Mod gen (hm.below hb (Nat.le_refl _)) (hg.below hb (Nat.le_refl _)) hmat)
 unfold RetCM at HCA
 obtain ⟨GA, gc, rfl, _⟩ := hg
 generalize gen.length = gl at *
 clear hm hE hmat
 generalize canonL (refOps P M Mod) gen n = C at *
 generalize pivL (refOps P M Mod) gen n = D at *
 have HF := Lib.hid (CBox.mk' w P M mv n (.slice GA gl gc))
 go_enter Try.func11, Try.ntmps11
 go_upto_region 1 with fail
 generalize w.alloc (.cells #[.int .i64 P, .int .i64 M, mv, .int .i64 (n : Int), .slice GA gl gc] 32) = w0 at *
 have c0 := HF.out.c0; have c1 := HF.out.c1; have c2 := HF.out.c2; have c3 := HF.out.c3; have c4 := HF.out.c4
 go_wp2_with fail
 refine (HCK.out w0 HF.out.bel).mono ?_
 rintro e w2 ⟨rfl, hb2⟩
 have HF2 := Lib.hid (HF.out.on hb2)
 have HB2 := Lib.hid HF2.out.bel
 clear hb2 c0 c1 c2 c3 c4
 have c0 := HF2.out.c0; have c1 := HF2.out.c1; have c2 := HF2.out.c2; have c3 := HF2.out.c3; have c4 := HF2.out.c4
 have C0 := Lib.hid c0; have C1 := Lib.hid c1; have C2 := Lib.hid c2; have C3 := Lib.hid c3; have C4 := Lib.hid c4
 obtain ⟨k, hk⟩ : ∃ k, k = C.length := ⟨_, rfl⟩
 have HK := Lib.hid hk; clear hk
 obtain ⟨p, hp⟩ : ∃ p, p = D.length := ⟨_, rfl⟩
 have HP := Lib.hid hp; clear hp
 go_upto_region 4 with fail
 go_cut [5, 6, 7] from 14 to 21 (fun t5 t6 t7 wc => ∃ g UA PU pc, t7 = .int .i64 0 ∧ t6 = .slice PU p pc ∧ t5 = .pointer (some ⟨g, 0, none⟩) ∧ w2.heap.size ≤ g ∧ Hid (Blk wc g 27 [.int .i64 (n : Int), .slice UA k k]) ∧ Hid (Sep w2.heap.size wc fun w9 => SI w9 (.slice PU p pc) D) ∧ Hid (Below w2.heap.size w2 wc))
 case first =>
  refine Kept.start (S := fun w' => w'.cell? ⟨w.heap.size, 0, none⟩ = some (.int .i64 P) ∧ w'.cell? ⟨w.heap.size, 1, none⟩ = some (.int .i64 M) ∧ w'.cell? ⟨w.heap.size, 2, none⟩ = some mv ∧ w'.cell? ⟨w.heap.size, 3, none⟩ = some (.int .i64 (n : Int)) ∧ w'.cell? ⟨w.heap.size, 4, none⟩ = some (.slice GA gl gc)) (by kernel_rfl) (⟨c0, c1, c2, c3, c4⟩) (fun hHeld => ?_)
  change Kept _ _ _ _ 13 _ _ _
  have hdrew := bl_drew w2
  generalize w2.drew = wq1 at hdrew hHeld ⊢
  have HBB := Lib.hid hdrew
  clear c0 c1 c2 c3 c4
  clear hdrew
  refine Kept.tk 0 (v := ?_) rfl ?_ hHeld ?_
  rotate_left
  ·intro w' h; (try dsimp only at h); go_simp <;> with_reducible rfl
  try simp only [tda, tdb, tdc, Act.put, tdd, tde, tdf]
  refine Kept.tk 1 (v := ?_) rfl ?_ hHeld ?_
  rotate_left
  ·intro w' h; (try dsimp only at h); go_simp <;> with_reducible rfl
  try simp only [tda, tdb, tdc, Act.put, tdd, tde, tdf]
  refine Kept.tk 2 (v := ?_) rfl ?_ hHeld ?_
  rotate_left
  ·intro w' h; (try dsimp only at h); go_simp <;> with_reducible rfl
  try simp only [tda, tdb, tdc, Act.put, tdd, tde, tdf]
  refine Kept.two (i := 3) (j := 9) (oi := ?opa2) (oj := ?opb2) (by kernel_rfl) ?hoa2 ?hob2 (fun K hK => ?way12) (fun K hK => ?way22)
  case hoa2 => (conv => lhs; simp only [tdg, tdh, tdi])
  case hob2 => (conv => lhs; simp only [tdg, tdh, tdi])
  case way12 =>
   go_simp
   refine (cgen_any _ P M n mv GA gl gc).mono ?_
   rintro e wq3 ⟨rfl, hb⟩
   replace HBB := Lib.hid (bl_trans HBB.out hb)
   clear hb
   refine hK.out _ _ (⟨cb HBB C0, cb HBB C1, cb HBB C2, cb HBB C3, cb HBB C4⟩) (fun hHeld2 => ?_)
   clear hK K
   replace hHeld := hHeld2
   clear hHeld2
   try simp only [tda, tdb, tdc, Act.put, tdd, tde, tdf]
   refine Kept.two (i := 4) (j := 9) (oi := ?opa4) (oj := ?opb4) (by kernel_rfl) ?hoa4 ?hob4 (fun K hK => ?way14) (fun K hK => ?way24)
   case hoa4 => (conv => lhs; simp only [tdg, tdh, tdi])
   case hob4 => (conv => lhs; simp only [tdg, tdh, tdi])
   case way14 =>
    have hbs0 := HBB.out.size
    go_simp
    refine (HCA.out _ (bl_trans HB2.out HBB.out)).mono ?_
    rintro e wq5 ⟨UA, PU, pc, rfl, hx, _, hb⟩
    rw [← HK.out, ← HP.out] at hx
    rw [← HK.out, ← HP.out]
    replace hx := hx.imp (fun _ h => h.2)
    have HS4 := Lib.hid (hx.mono hbs0) 
    replace HBB := Lib.hid (bl_trans HBB.out hb)
    clear hb hx hbs0
    refine hK.out _ _ (⟨cb HBB C0, cb HBB C1, cb HBB C2, cb HBB C3, cb HBB C4⟩) (fun hHeld2 => ?_)
    clear hK K
    replace hHeld := hHeld2
    clear hHeld2
    try simp only [tda, tdb, tdc, Act.put, tdd, tde, tdf]
    refine Kept.tk 5 (v := ?_) rfl ?_ hHeld ?_
    rotate_left
    ·intro w' h; (try dsimp only at h); go_simp <;> with_reducible rfl
    try simp only [tda, tdb, tdc, Act.put, tdd, tde, tdf]
    refine Kept.tk 6 (v := ?_) rfl ?_ hHeld ?_
    rotate_left
    ·intro w' h; (try dsimp only at h); go_simp <;> with_reducible rfl
    try simp only [tda, tdb, tdc, Act.put, tdd, tde, tdf]
    refine Kept.tk 7 (v := ?_) rfl ?_ hHeld ?_
    rotate_left
    ·intro w' h; (try dsimp only at h); go_simp <;> with_reducible rfl
    try simp only [tda, tdb, tdc, Act.put, tdd, tde, tdf]
    refine Kept.tk 8 (v := ?_) rfl ?_ hHeld ?_
    rotate_left
    ·intro w' h; (try dsimp only at h); go_simp <;> with_reducible rfl
    try simp only [tda, tdb, tdc, Act.put, tdd, tde, tdf]
    refine Kept.only (i := 9) (o := ?op6) (by kernel_rfl) ?ho6 (fun K hK => ?_)
    case ho6 => (conv => lhs; simp only [tdg, tdh, tdi])
    go_simp
    obtain ⟨wq7, g, e1, e2, hX, hb⟩ := mk_box wq5 27 [.int .i64 0, .slice none 0 0]
    rw [e1, e2]
    have HBX := Lib.hid hX
    have hgi : w2.heap.size ≤ g := (by have := HBB.out.size; omega)
    have HSF : Hid (∀ w9, World.grownBy wq7 w9 (some g) → Sep w2.heap.size w9 fun w9 => SI w9 (.slice PU p pc) D) := hid' (fun w9 hg => sep_far HS4.out hb (by omega) hg) 
    replace HBB := Lib.hid (bl_trans HBB.out hb)
    clear e1 e2 hX hb
    refine hK.out _ _ (⟨cb HBB C0, cb HBB C1, cb HBB C2, cb HBB C3, cb HBB C4⟩) (fun hHeld2 => ?_)
    clear hK K
    replace hHeld := hHeld2
    clear hHeld2
    try simp only [tda, tdb, tdc, Act.put, tdd, tde, tdf]
    refine Kept.only (i := 10) (o := ?op8) (by kernel_rfl) ?ho8 (fun K hK => ?_)
    case ho8 => (conv => lhs; simp only [tdg, tdh, tdi])
    obtain ⟨b0, b1, f0, f1⟩ := HBX.out.two
    go_simp
    obtain ⟨wq9, h6, HL⟩ := lay2 (x := .int .i64 (n : Int)) (y := .slice UA k k) HBX.out
    rw [h6]
    have HS6 := Lib.hid (HSF.out _ HL.gr)
    have HBY := Lib.hid HL.blk
    replace HBB := Lib.hid (HL.below HBB.out HBB.out.size hgi)
    clear b0 b1 f0 f1 h6 HL HBX
    refine hK.out _ _ (⟨cb HBB C0, cb HBB C1, cb HBB C2, cb HBB C3, cb HBB C4⟩) (fun hHeld2 => ?_)
    clear hK K
    replace hHeld := hHeld2
    clear hHeld2
    try simp only [tda, tdb, tdc, Act.put, tdd, tde, tdf]
    refine Kept.tk 11 (v := ?_) rfl ?_ hHeld ?_
    rotate_left
    ·intro w' h; (try dsimp only at h); go_simp <;> with_reducible rfl
    try simp only [tda, tdb, tdc, Act.put, tdd, tde, tdf]
    refine Kept.only (i := 12) (by kernel_rfl) rfl (fun K hK => ?_)
    go_simp
    refine hK.out _ _ hHeld (fun hHeld2 => ?_)
    clear hK K
    clear hHeld2
    refine Kept.done (by kernel_rfl) ?_
    try simp only [tda, tdb, tdc, Act.put, tdd, tde, tdf]
    clear hHeld
    go_wp2_with fail
    go_meet
    exact ⟨g, UA, PU, pc, rfl, rfl, rfl, hgi, HBY, HS6, HBB⟩
   case way24 =>
    go_simp
    obtain ⟨wq10, g, e1, e2, hX, hb⟩ := mk_box wq3 27 [.int .i64 0, .slice none 0 0]
    rw [e1, e2]
    have HBX := Lib.hid hX
    have hgi : w2.heap.size ≤ g := (by have := HBB.out.size; omega)
    replace HBB := Lib.hid (bl_trans HBB.out hb)
    clear e1 e2 hX hb
    refine hK.out _ _ (⟨cb HBB C0, cb HBB C1, cb HBB C2, cb HBB C3, cb HBB C4⟩) (fun hHeld2 => ?_)
    clear hK K
    replace hHeld := hHeld2
    clear hHeld2
    try simp only [tda, tdb, tdc, Act.put, tdd, tde, tdf]
    refine Kept.only (i := 4) (o := ?op11) (by kernel_rfl) ?ho11 (fun K hK => ?_)
    case ho11 => (conv => lhs; simp only [tdg, tdh, tdi])
    have hbs0 := HBB.out.size
    go_simp
    refine (HCA.out _ (bl_trans HB2.out HBB.out)).mono ?_
    rintro e wq12 ⟨UA, PU, pc, rfl, hx, _, hb⟩
    rw [← HK.out, ← HP.out] at hx
    rw [← HK.out, ← HP.out]
    replace hx := hx.imp (fun _ h => h.2)
    have hglt := HBX.out.lt 
    have HSF : Hid (∀ w9, World.grownBy wq12 w9 (some g) → Sep w2.heap.size w9 fun w9 => SI w9 (.slice PU p pc) D) := hid' (fun w9 hg => (hx.grown hg (by rintro b e; cases e; exact hglt)).mono hbs0) 
    clear hglt 
    replace HBX := Lib.hid (HBX.out.belowS hb) 
    replace HBB := Lib.hid (bl_trans HBB.out hb)
    clear hb hx hbs0
    refine hK.out _ _ (⟨cb HBB C0, cb HBB C1, cb HBB C2, cb HBB C3, cb HBB C4⟩) (fun hHeld2 => ?_)
    clear hK K
    replace hHeld := hHeld2
    clear hHeld2
    try simp only [tda, tdb, tdc, Act.put, tdd, tde, tdf]
    refine Kept.tk 5 (v := ?_) rfl ?_ hHeld ?_
    rotate_left
    ·intro w' h; (try dsimp only at h); go_simp <;> with_reducible rfl
    try simp only [tda, tdb, tdc, Act.put, tdd, tde, tdf]
    refine Kept.tk 6 (v := ?_) rfl ?_ hHeld ?_
    rotate_left
    ·intro w' h; (try dsimp only at h); go_simp <;> with_reducible rfl
    try simp only [tda, tdb, tdc, Act.put, tdd, tde, tdf]
    refine Kept.tk 7 (v := ?_) rfl ?_ hHeld ?_
    rotate_left
    ·intro w' h; (try dsimp only at h); go_simp <;> with_reducible rfl
    try simp only [tda, tdb, tdc, Act.put, tdd, tde, tdf]
    refine Kept.tk 8 (v := ?_) rfl ?_ hHeld ?_
    rotate_left
    ·intro w' h; (try dsimp only at h); go_simp <;> with_reducible rfl
    try simp only [tda, tdb, tdc, Act.put, tdd, tde, tdf]
    refine Kept.only (i := 10) (o := ?op13) (by kernel_rfl) ?ho13 (fun K hK => ?_)
    case ho13 => (conv => lhs; simp only [tdg, tdh, tdi])
    obtain ⟨b0, b1, f0, f1⟩ := HBX.out.two
    go_simp
    obtain ⟨wq14, h6, HL⟩ := lay2 (x := .int .i64 (n : Int)) (y := .slice UA k k) HBX.out
    rw [h6]
    have HS6 := Lib.hid (HSF.out _ HL.gr)
    have HBY := Lib.hid HL.blk
    replace HBB := Lib.hid (HL.below HBB.out HBB.out.size hgi)
    clear b0 b1 f0 f1 h6 HL HBX
    refine hK.out _ _ (⟨cb HBB C0, cb HBB C1, cb HBB C2, cb HBB C3, cb HBB C4⟩) (fun hHeld2 => ?_)
    clear hK K
    replace hHeld := hHeld2
    clear hHeld2
    try simp only [tda, tdb, tdc, Act.put, tdd, tde, tdf]
    refine Kept.tk 11 (v := ?_) rfl ?_ hHeld ?_
    rotate_left
    ·intro w' h; (try dsimp only at h); go_simp <;> with_reducible rfl
    try simp only [tda, tdb, tdc, Act.put, tdd, tde, tdf]
    refine Kept.only (i := 12) (by kernel_rfl) rfl (fun K hK => ?_)
    go_simp
    refine hK.out _ _ hHeld (fun hHeld2 => ?_)
    clear hK K
    clear hHeld2
    refine Kept.done (by kernel_rfl) ?_
    try simp only [tda, tdb, tdc, Act.put, tdd, tde, tdf]
    clear hHeld
    go_wp2_with fail
    go_meet
    exact ⟨g, UA, PU, pc, rfl, rfl, rfl, hgi, HBY, HS6, HBB⟩
  case way22 =>
   go_simp
   obtain ⟨wq15, g, e1, e2, hX, hb⟩ := mk_box wq1 27 [.int .i64 0, .slice none 0 0]
   rw [e1, e2]
   have HBX := Lib.hid hX
   have hgi : w2.heap.size ≤ g := (by have := HBB.out.size; omega)
   replace HBB := Lib.hid (bl_trans HBB.out hb)
   clear e1 e2 hX hb
   refine hK.out _ _ (⟨cb HBB C0, cb HBB C1, cb HBB C2, cb HBB C3, cb HBB C4⟩) (fun hHeld2 => ?_)
   clear hK K
   replace hHeld := hHeld2
   clear hHeld2
   try simp only [tda, tdb, tdc, Act.put, tdd, tde, tdf]
   refine Kept.only (i := 3) (o := ?op16) (by kernel_rfl) ?ho16 (fun K hK => ?_)
   case ho16 => (conv => lhs; simp only [tdg, tdh, tdi])
   go_simp
   refine (cgen_any _ P M n mv GA gl gc).mono ?_
   rintro e wq17 ⟨rfl, hb⟩
   replace HBX := Lib.hid (HBX.out.belowS hb) 
   replace HBB := Lib.hid (bl_trans HBB.out hb)
   clear hb
   refine hK.out _ _ (⟨cb HBB C0, cb HBB C1, cb HBB C2, cb HBB C3, cb HBB C4⟩) (fun hHeld2 => ?_)
   clear hK K
   replace hHeld := hHeld2
   clear hHeld2
   try simp only [tda, tdb, tdc, Act.put, tdd, tde, tdf]
   refine Kept.only (i := 4) (o := ?op18) (by kernel_rfl) ?ho18 (fun K hK => ?_)
   case ho18 => (conv => lhs; simp only [tdg, tdh, tdi])
   have hbs0 := HBB.out.size
   go_simp
   refine (HCA.out _ (bl_trans HB2.out HBB.out)).mono ?_
   rintro e wq19 ⟨UA, PU, pc, rfl, hx, _, hb⟩
   rw [← HK.out, ← HP.out] at hx
   rw [← HK.out, ← HP.out]
   replace hx := hx.imp (fun _ h => h.2)
   have hglt := HBX.out.lt 
   have HSF : Hid (∀ w9, World.grownBy wq19 w9 (some g) → Sep w2.heap.size w9 fun w9 => SI w9 (.slice PU p pc) D) := hid' (fun w9 hg => (hx.grown hg (by rintro b e; cases e; exact hglt)).mono hbs0) 
   clear hglt 
   replace HBX := Lib.hid (HBX.out.belowS hb) 
   replace HBB := Lib.hid (bl_trans HBB.out hb)
   clear hb hx hbs0
   refine hK.out _ _ (⟨cb HBB C0, cb HBB C1, cb HBB C2, cb HBB C3, cb HBB C4⟩) (fun hHeld2 => ?_)
   clear hK K
   replace hHeld := hHeld2
   clear hHeld2
   try simp only [tda, tdb, tdc, Act.put, tdd, tde, tdf]
   refine Kept.tk 5 (v := ?_) rfl ?_ hHeld ?_
   rotate_left
   ·intro w' h; (try dsimp only at h); go_simp <;> with_reducible rfl
   try simp only [tda, tdb, tdc, Act.put, tdd, tde, tdf]
   refine Kept.tk 6 (v := ?_) rfl ?_ hHeld ?_
   rotate_left
   ·intro w' h; (try dsimp only at h); go_simp <;> with_reducible rfl
   try simp only [tda, tdb, tdc, Act.put, tdd, tde, tdf]
   refine Kept.tk 7 (v := ?_) rfl ?_ hHeld ?_
   rotate_left
   ·intro w' h; (try dsimp only at h); go_simp <;> with_reducible rfl
   try simp only [tda, tdb, tdc, Act.put, tdd, tde, tdf]
   refine Kept.tk 8 (v := ?_) rfl ?_ hHeld ?_
   rotate_left
   ·intro w' h; (try dsimp only at h); go_simp <;> with_reducible rfl
   try simp only [tda, tdb, tdc, Act.put, tdd, tde, tdf]
   refine Kept.only (i := 10) (o := ?op20) (by kernel_rfl) ?ho20 (fun K hK => ?_)
   case ho20 => (conv => lhs; simp only [tdg, tdh, tdi])
   obtain ⟨b0, b1, f0, f1⟩ := HBX.out.two
   go_simp
   obtain ⟨wq21, h6, HL⟩ := lay2 (x := .int .i64 (n : Int)) (y := .slice UA k k) HBX.out
   rw [h6]
   have HS6 := Lib.hid (HSF.out _ HL.gr)
   have HBY := Lib.hid HL.blk
   replace HBB := Lib.hid (HL.below HBB.out HBB.out.size hgi)
   clear b0 b1 f0 f1 h6 HL HBX
   refine hK.out _ _ (⟨cb HBB C0, cb HBB C1, cb HBB C2, cb HBB C3, cb HBB C4⟩) (fun hHeld2 => ?_)
   clear hK K
   replace hHeld := hHeld2
   clear hHeld2
   try simp only [tda, tdb, tdc, Act.put, tdd, tde, tdf]
   refine Kept.tk 11 (v := ?_) rfl ?_ hHeld ?_
   rotate_left
   ·intro w' h; (try dsimp only at h); go_simp <;> with_reducible rfl
   try simp only [tda, tdb, tdc, Act.put, tdd, tde, tdf]
   refine Kept.only (i := 12) (by kernel_rfl) rfl (fun K hK => ?_)
   go_simp
   refine hK.out _ _ hHeld (fun hHeld2 => ?_)
   clear hK K
   clear hHeld2
   refine Kept.done (by kernel_rfl) ?_
   try simp only [tda, tdb, tdc, Act.put, tdd, tde, tdf]
   clear hHeld
   go_wp2_with fail
   go_meet
   exact ⟨g, UA, PU, pc, rfl, rfl, rfl, hgi, HBY, HS6, HBB⟩
 case rest =>
  clear c0 c1 c2 c3 c4
  obtain ⟨g, UA, PU, pc, rfl, rfl, rfl, hg, HBY, HS5, HBB⟩ := hcut
  have hs2 := HF2.out.bel.size
  clear C0 C1 C2 C3 C4
  go_wp2_with fail
  go_ret2
  exact ⟨_, rfl, HS5.out.mono hs2, bl_trans HF2.out.bel HBB.out⟩
set_option maxHeartbeats 4000000 in
theorem clist1_any (w : World) (g a : Nat) (P M x : Int) (Mod : List Int) (hG : GF w a P M Mod) (hc : w.cell? ⟨g, 0, none⟩ = some (.pointer (some ⟨a, 0, none⟩))) :
  Calls Try.prog 50 #[.int .i64 x, .pointer (some ⟨g, 0, none⟩)] w (fun e w' => e = .returned (.bool (!(isB P M x))) ∧ w = w') := by
 have HG := Lib.hid hG; clear hG
 go_enter Try.func50, Try.ntmps50
 go_wp2_with fail
 refine (gis_any _ a P M x Mod HG.out).mono ?_
 rintro e w1 ⟨rfl, rfl⟩
 go_wp2_with fail
 go_ret
 exact ⟨rfl, rfl⟩
set_option maxHeartbeats 4000000 in
theorem indexC_any (w : World) (g a : Nat) (P M : Int) (Mod : List Int) (v : Value) (xs : List Int) (hG : GF w a P M Mod) (hc : w.cell? ⟨g, 0, none⟩ = some (.pointer (some ⟨a, 0, none⟩))) (hv : SI w v xs) :
  Calls Try.prog 77 #[v, .func (.func 50) #[] #[.pointer (some ⟨g, 0, none⟩)]] w (fun e w' => ∃ z, e = .returned (.int .i64 z) ∧ decide (0 ≤ z) = decide (entriesF (orderF P M) xs ≠ 0) ∧ w = w') := by
 obtain ⟨A, c, rfl, hv⟩ := hv
 have hn := hv.len
 have HV := Lib.hid hv; have HG := Lib.hid hG; have HC := Lib.hid hc; clear hv hG hc
 go_enter Try.func77, Try.ntmps77
 go_wp2_with fail
 go_loop [8] (fun i => ∃ k : Nat, k ≤ xs.length ∧ i = .int .i64 (k : Int) ∧ Hid (∀ j, j < k → 0 ≤ xs.getD j 0 ∧ xs.getD j 0 < orderF P M)) (fun i => xs.length - (intOf i).toNat)
 case atStart => exact ⟨0, Nat.zero_le _, rfl, hid' fun j hj => absurd hj (Nat.not_lt_zero _)⟩
 case round =>
  obtain ⟨k, hk, rfl, HK⟩ := hrel
  by_cases hlt : k < xs.length
  ·obtain ⟨ad, x, rfl, hcc, _, HX⟩ := HV.out.elt hlt
   go_wp2_with fail
   refine (clist1_any _ g a P M x Mod HG.out HC.out).mono ?_
   rintro e w1 ⟨rfl, rfl⟩
   by_cases hx : 0 ≤ x ∧ x < orderF P M
   ·rw [isB_true hx]
    have HXX := Lib.hid hx; clear hx
    go_wp2_with fail
    go_round
    case rel => exact ⟨k + 1, by omega, by go_num, hid' fun j hj => by
     by_cases e : j = k
     ·subst e; rw [HX.out]; exact HXX.out
     ·exact HK.out j (by omega)⟩
    case measure => simp [intOf]; omega
   ·rw [isB_false hx]
    have HE : Hid (entriesF (orderF P M) xs = 2) := entriesF_bad hlt (by rw [HX.out]; exact hx)
    clear hx
    go_wp2_with fail
    go_ret
    refine ⟨_, rfl, ?_, rfl⟩
    rw [HE.out]
    show decide ((0 : Int) ≤ (k : Int)) = true
    rw [decide_eq_true_eq]; omega
  ·obtain rfl : xs.length = k := by omega
   have HE : Hid (entriesF (orderF P M) xs = 0) := entriesF_ok HK.out
   go_wp2_with fail
   go_ret
   refine ⟨_, rfl, ?_, rfl⟩
   rw [HE.out]; rfl
set_option maxHeartbeats 8000000 in
theorem containsC_any (w : World) (g a : Nat) (P M : Int) (Mod : List Int) (v : Value) (xs : List Int) (hG : GF w a P M Mod) (hc : w.cell? ⟨g, 0, none⟩ = some (.pointer (some ⟨a, 0, none⟩))) (hv : SI w v xs) :
  Calls Try.prog 49 #[v, .func (.func 50) #[] #[.pointer (some ⟨g, 0, none⟩)]] w (fun e w' => e = .returned (.bool (decide (entriesF (orderF P M) xs ≠ 0))) ∧ w = w') := by
 have HI := Lib.hid (indexC_any w g a P M Mod v xs hG hc hv)
 clear hG hc hv
 go_enter Try.func49, Try.ntmps49
 go_wp2_with fail
 refine HI.out.mono ?_
 rintro e w2 ⟨z, rfl, hz, rfl⟩
 have HZ := Lib.hid hz; clear hz
 go_wp2_with fail
 go_ret
 exact ⟨by rw [← HZ.out]; rfl, rfl⟩
set_option maxHeartbeats 8000000 in
theorem cList_ok (w : World) (P M n : Int) (mv xv : Value) (Mod x : List Int) (hm : SI w mv Mod) (hx : SI w xv x) (hf : FieldP P M Mod) (hl : (x.length : Int) = n) (he : entriesF (orderF P M) x = 0) :
  Calls Try.prog 26 #[.agg #[.int .i64 P, .int .i64 M, mv], xv, .int .i64 n] w (RetI w 0) := by
 have HNW := Lib.hid (fun (w' : World) (hb : Below w.heap.size w w') => new_ok w' P M mv Mod (hm.below hb (Nat.le_refl _)) hf)
 unfold RetG at HNW
 have HX := Lib.hid hx
 have HE : Hid (decide (entriesF (orderF P M) x ≠ 0) = false) := hid' (by rw [he]; rfl)
 obtain ⟨XA, xc, rfl, _⟩ := hx
 obtain ⟨l, hll⟩ : ∃ l, l = x.length := ⟨_, rfl⟩
 rw [← hll] at HX hl ⊢
 clear hll hm hf he
 have hnb : ((l : Int) != n) = false := by rw [bne_eq_false_iff_eq]; exact hl
 clear hl
 have HF := Lib.hid (FBox.mk' w P M mv)
 go_enter Try.func26, Try.ntmps26
 go_upto_region 1 with fail
 generalize w.alloc (.cells #[.int .i64 P, .int .i64 M, mv] 24) = w0 at *
 have c0 := HF.out.c0; have c1 := HF.out.c1; have c2 := HF.out.c2
 go_wp2_with fail
 refine (HNW.out w0 HF.out.bel).mono ?_
 rintro e w1 ⟨a, rfl, hg, hb1⟩
 have HG := Lib.hid hg.out
 have HF1 := Lib.hid (HF.out.on hb1)
 clear hg hb1 c0 c1 c2
 go_upto_region 4 with fail
 obtain ⟨w2, g, e1, e2, hx2, hb2⟩ := mk_box w1 64 [.pointer (some ⟨a, 0, none⟩)]
 rw [e1, e2]
 have HF2 := Lib.hid (HF1.out.on hb2); have HG2 := Lib.hid (HG.out.on hb2); have HX2 := Lib.hid (HX.out.below HF2.out.bel (Nat.le_refl _))
 have HC := Lib.hid (containsC_any w2 g a P M Mod _ x HG2.out (hx2.cell 0) HX2.out)
 rw [HE.out] at HC
 clear e1 e2 hx2 hb2
 go_wp2_with fail
 refine HC.out.mono ?_
 rintro e w3 ⟨rfl, rfl⟩
 go_wp2_with fail
 go_ret
 exact ⟨rfl, HF2.out.bel⟩
end Go.Proofs.Ytodgdoglhecolaa
namespace Go.Proofs.Ytodgdoglhecolaa
set_option maxRecDepth 100000
theorem vecE_of {q : Int} {x : List Int} {n : Nat} (hl : x.length = n) (h : Rng q x) : vecE q x n = 0 := by
 unfold vecE
 rw [if_pos (by omega)]
 exact entriesF_ok fun k hk => h k
section
variable {O : FOps} {q : Int} (hO : O.Fld q) {n : Nat}
include hO
theorem comb_ok {A : List (List Int)} (hA : Cn O q n A) {x : List Int} (hx : Rng q x) (hxl : x.length = A.length) :
  (combL O x A n).length = n ∧ Rng q (combL O x A n) ∧ inL O A (combL O x A n) = true ∧ crdL O A n (combL O x A n) = x := by
 have hp := (canon_rref hO hA.rows).1
 rw [hA.self hO] at hp
 have h1 : (combL O x A n).length = n := combTo_len O x A n _
 have h2 : Rng q (combL O x A n) := combTo_rng hO.lt x A n _
 refine ⟨h1, h2, (inL_span hO hp h2 h1).2 (combL_span hO hA.rows hxl), ?_⟩
 refine ext_getD (by unfold crdL; rw [List.length_map, List.length_range, hxl]) fun k hk => ?_
 have hk' : k < A.length := by unfold crdL at hk; rw [List.length_map, List.length_range] at hk; exact hk
 have e : (crdL O A n (combL O x A n)).getD k 0 = (combL O x A n).getD (pvt (pivL O A n) k) 0 := by
  unfold crdL
  simp [List.getD, hk']
 rw [e, combL_getD hO hA.rows hxl]
 exact hp.coef hO (a := fun k => x.getD k 0) hk' (hx k)
end
def synL (O : FOps) (gen : List (List Int)) (n : Nat) (x : List Int) : List Int := (nullL O gen n).map fun r => dotL O r x n
theorem synL_len (O : FOps) (gen : List (List Int)) (n : Nat) (x : List Int) : (synL O gen n x).length = (nullL O gen n).length := by simp [synL]
theorem synL_at {O : FOps} {gen : List (List Int)} {n : Nat} {x : List Int} {k : Nat} (hk : k < (nullL O gen n).length) : (synL O gen n x).getD k 0 = dotL O ((nullL O gen n).getD k []) x n := by simp [synL, List.getD, hk]
def dotsL (O : FOps) (D : List (List Int)) (n : Nat) (x : List Int) (k : Nat) : List Int := (List.range k).map fun i => dotL O (D.getD i []) x n
theorem dotsL_len (O : FOps) (D : List (List Int)) (n : Nat) (x : List Int) (k : Nat) : (dotsL O D n x k).length = k := by simp [dotsL]
theorem dotsL_succ (O : FOps) (D : List (List Int)) (n : Nat) (x : List Int) (k : Nat) : dotsL O D n x (k + 1) = dotsL O D n x k ++ [dotL O (D.getD k []) x n] := by simp [dotsL, List.range_succ]
theorem dotsL_at {O : FOps} {D : List (List Int)} {n : Nat} {x : List Int} {k i : Nat} (h : i < k) : (dotsL O D n x k).getD i 0 = dotL O (D.getD i []) x n := by simp [dotsL, List.getD, h]
theorem dotsL_all (O : FOps) (gen : List (List Int)) (n : Nat) (x : List Int) : dotsL O (nullL O gen n) n x (nullL O gen n).length = synL O gen n x := by
 refine ext_getD (by rw [dotsL_len, synL_len]) fun i hi => ?_
 rw [dotsL_len] at hi
 rw [dotsL_at hi, synL_at hi]
section
variable {O : FOps} {q : Int} (hO : O.Fld q) {n : Nat} {gen : List (List Int)}
include hO
theorem dotL_comm (a b : List Int) (m : Nat) : dotL O a b m = dotL O b a m := sumTo_congr fun j _ => hO.mul_comm _ _
theorem dotL_rng (a b : List Int) (m : Nat) : 0 ≤ dotL O a b m ∧ dotL O a b m < q := sumTo_lt hO _ _
theorem inL_syn (hA : Cn O q n gen) {x : List Int} (hl : x.length = n) (hr : Rng q x) : inL O gen x = true ↔ ∀ k, k < (nullL O gen n).length → (synL O gen n x).getD k 0 = 0 := by
 obtain ⟨p, hp⟩ := hA
 have h := inL_dots hO (Cn.null hO hp.rows).rows hl hr
 rw [null_null_eq hO hp] at h
 rw [h]
 simp only [List.all_eq_true, List.mem_range, beq_iff_eq]
 exact ⟨fun h k hk => by rw [synL_at hk, dotL_comm hO]; exact h k hk, fun h k hk => by rw [dotL_comm hO, ← synL_at hk]; exact h k hk⟩
theorem addToL_rng {x y : List Int} {c : Int} (hx : Rng q x) (hl : y.length ≤ x.length) : Rng q (addToL O x c y) := fun j => by
 rw [addToL_getD hO c hx hl]; exact hO.lt.add _ _
theorem comb_add (hR : Rows q n gen) {x y : List Int} (hx : Rng q x) (hxl : x.length = gen.length) (hyl : y.length = gen.length) :
  combL O (addToL O x 1 y) gen n = addToL O (combL O x gen n) 1 (combL O y gen n) := by
 have cl : ∀ z, (combL O z gen n).length = n := fun z => combTo_len O z gen n _
 have cr : ∀ z : List Int, z.length = gen.length → Rng q (combL O z gen n) := fun z hz j => by rw [combL_getD hO hR hz]; exact sumTo_lt hO _ _
 refine ext_getD (by rw [cl, addToL_len, cl]) fun j hj => ?_
 rw [addToL_getD hO 1 (cr x hxl) (by rw [cl, cl]; omega), combL_getD hO hR (by rw [addToL_len]; exact hxl), combL_getD hO hR hxl, combL_getD hO hR hyl, hO.one_mul (sumTo_lt hO _ _).1 (sumTo_lt hO _ _).2, ← sumTo_add hO]
 refine sumTo_congr fun i hi => ?_
 rw [addToL_getD hO 1 hx (by omega), hO.add_mul]
 congr 1
 rw [hO.mul_assoc, hO.one_mul (hO.lt.mul _ _).1 (hO.lt.mul _ _).2]
theorem syn_word (hA : Cn O q n gen) {x : List Int} (hl : x.length = n) (hr : Rng q x) (hin : inL O gen x = true) : synL O gen n x = List.replicate (nullL O gen n).length 0 := by
 refine ext_getD (by rw [synL_len, List.length_replicate]) fun k hk => ?_
 rw [synL_len] at hk
 rw [(inL_syn hO hA hl hr).1 hin k hk]
 simp [List.getD, hk]
end
end Go.Proofs.Ytodgdoglhecolaa
namespace Go.Proofs.Ytodgdoglhecolaa
open Go.RowKit
set_option maxRecDepth 100000
set_option maxHeartbeats 8000000 in
theorem mVec_ok (w : World) (P M : Int) (n : Nat) (mv rv xv : Value) (Mod x : List Int) (rows : List (List Int)) (hm : SI w mv Mod) (hv : SS w rv rows) (hx : SI w xv x) (he : matE P M Mod n rows = 0) (hxl : x.length = rows.length) (hxe : entriesF (orderF P M) x = 0) :
  Calls Try.prog 27 #[.agg #[.int .i64 P, .int .i64 M, mv], xv, .agg #[.int .i64 (n : Int), rv]] w (RetLE w (combL (refOps P M Mod) x rows n) 0) := by
 have HM := Lib.hid hm; have HV := Lib.hid hv; have HX := Lib.hid hx; clear hm
 obtain ⟨hf, _, hn, hr, hR⟩ := matE_zero he
 rw [Int.toNat_natCast] at hR
 have HR := Lib.hid hR
 have HE := Lib.hid he
 have HXE := Lib.hid hxe
 have HXL := Lib.hid hxl
 have HOF := orderF_bounds P M
 have HCI : Hid (∀ k, I64 ((combL (refOps P M Mod) x rows n).getD k 0)) := hid' fun k => by
  have h := combTo_rng (refOps_lt hf.1 Mod) x rows n (min rows.length x.length) k
  exact I64.of_small (by unfold combL; omega) (by unfold combL; omega)
 have HCL : Hid ((combL (refOps P M Mod) x rows n).length = n) := hid' (combTo_len _ _ _ _ _)
 clear he hR hf hxe
 obtain ⟨RA, rc, rfl, _⟩ := hv
 obtain ⟨XA, xc, rfl, _⟩ := hx
 rw [hxl] at HX ⊢
 obtain ⟨r0, hrr⟩ : ∃ r0, r0 = rows.length := ⟨_, rfl⟩
 rw [← hrr] at HV HX hr ⊢
 have HRR := Lib.hid hrr; clear hrr hxl
 have HVC := Lib.hid (fun (w' : World) (a : Nat) (hg : GF w' a P M Mod) (hb : Below w.heap.size w w') => mvec_any w' a P M n Mod x _ _ rows hg (HX.out.below hb (Nat.le_refl _)) (HV.out.below hb (Nat.le_refl _)) HR.out HXL.out (by omega))
 obtain ⟨w1, hw1⟩ : ∃ w1, w1 = (w.alloc (.cells #[.int .i64 P, .int .i64 M, mv] 24)).alloc (.cells #[.int .i64 (n : Int), .slice RA r0 rc] 27) := ⟨_, rfl⟩
 have HQ : Hid (FMBox w w1 P M mv n (.slice RA r0 rc)) := hid' (by rw [hw1]; exact FMBox.mk' w P M mv n _)
 have hsz : w1.heap.size = w.heap.size + 1 + 1 := by rw [hw1, World.size_alloc, World.size_alloc]
 have HW1 := Lib.hid hw1.symm; clear hw1
 go_enter Try.func27, Try.ntmps27
 go_upto_region 1 with fail
 rw [HW1.out]
 clear HW1
 have c0 := HQ.out.fb.c0; have c1 := HQ.out.fb.c1; have c2 := HQ.out.fb.c2; have d0 := HQ.out.d0; have d1 := HQ.out.d1
 go_wp2_with fail
 refine (mopen_ok w w1 P M n _ mv _ Mod rows HQ.out.fb.bel hsz HM.out HV.out HE.out).mono ?_
 rintro e w2 ⟨a, rfl, hg, hb2⟩
 have HG := Lib.hid hg
 have HQ2 := Lib.hid (HQ.out.on hb2)
 clear hg hb2 c0 c1 c2 d0 d1 HQ
 have d0 := HQ2.out.d0; have d1 := HQ2.out.d1
 have hrb : ((r0 : Int) != (r0 : Int)) = false := by simp
 go_wp2_with fail
 clear hrb
 refine (mentries_any w2 a P M Mod x _ HG.out (HX.out.below HQ2.out.fb.bel (Nat.le_refl _))).mono ?_
 rintro e w3 ⟨rfl, rfl⟩
 rw [HXE.out]
 go_wp2_with fail
 refine (HVC.out w2 a HG.out HQ2.out.fb.bel).mono ?_
 rintro e w4 ⟨u, rfl, ho, hb4⟩
 have HO := Lib.hid ho
 have HB := Lib.hid (bl_trans HQ2.out.fb.bel hb4)
 have hs2 := HQ2.out.fb.bel.size
 clear ho hb4 d0 d1
 go_wp2_with fail
 go_ret2
 exact ⟨_, rfl, HO.out.si (by rw [HCL.out]; omega) HCI.out, HO.out.new hs2, HB.out⟩
end Go.Proofs.Ytodgdoglhecolaa
namespace Go.Proofs.Ytodgdoglhecolaa
def dgt (p m j : Nat) : Nat := m / p ^ j % p
def pwL (O : FOps) (q n : Nat) (gen : List (List Int)) (row s : Nat) : List Int := rowOf n fun j => sumTo O (fun i => O.mul (dgt q s (row - 1 - i) : Int) (ent gen i j)) row
theorem pwL_len (O : FOps) (q n : Nat) (gen : List (List Int)) (row s : Nat) : (pwL O q n gen row s).length = n := rowOf_len _ _
theorem pwL_at {O : FOps} {q n : Nat} {gen : List (List Int)} {row s j : Nat} (hj : j < n) : (pwL O q n gen row s).getD j 0 = sumTo O (fun i => O.mul (dgt q s (row - 1 - i) : Int) (ent gen i j)) row := rowOf_getD hj
theorem pwL_zero (O : FOps) (q n : Nat) (gen : List (List Int)) : pwL O q n gen 0 0 = List.replicate n 0 := by rw [← rowOf_zero]; rfl
theorem dgt_push {q s a k : Nat} (ha : a < q) : dgt q (s * q + a) (k + 1) = dgt q s k := by
 have hq : 0 < q := by omega
 unfold dgt
 rw [Nat.pow_succ', ← Nat.div_div_eq_div_mul, show (s * q + a) / q = s by rw [Nat.add_comm, Nat.add_mul_div_right _ _ hq, Nat.div_eq_of_lt ha, Nat.zero_add]]
theorem dgt_last {q s a : Nat} (ha : a < q) : dgt q (s * q + a) 0 = a := by
 unfold dgt
 rw [Nat.pow_zero, Nat.div_one, Nat.add_comm, Nat.add_mul_mod_self_right, Nat.mod_eq_of_lt ha]
theorem pwL_next {O : FOps} {q n : Nat} {gen : List (List Int)} {row s a : Nat} (ha : a < q) : pwL O q n gen (row + 1) (s * q + a) = rowOf n fun j => O.add ((pwL O q n gen row s).getD j 0) (O.mul (a : Int) (ent gen row j)) := by
 refine rowOf_congr fun j hj => ?_
 rw [pwL_at hj, sumTo]
 congr 1
 ·refine sumTo_congr fun i hi => ?_
  rw [show row + 1 - 1 - i = row - 1 - i + 1 by omega, dgt_push ha]
 ·rw [show row + 1 - 1 - row = 0 by omega, dgt_last ha]
theorem pwL_rng {O : FOps} {q : Nat} (hO : O.Fld (q : Int)) (n : Nat) (gen : List (List Int)) (row s j : Nat) : 0 ≤ (pwL O q n gen row s).getD j 0 ∧ (pwL O q n gen row s).getD j 0 < (q : Int) := by
 by_cases hj : j < n
 ·rw [pwL_at hj]; exact sumTo_lt hO _ _
 ·rw [getD_len (by rw [pwL_len]; omega)]; have := hO.lt.pos; omega
def wordsL (O : FOps) (q n : Nat) (gen : List (List Int)) : List (List Int) := (List.range (q ^ gen.length)).map (pwL O q n gen gen.length)
theorem wordsL_len (O : FOps) (q n : Nat) (gen : List (List Int)) : (wordsL O q n gen).length = q ^ gen.length := by simp [wordsL]
theorem wordsL_at {O : FOps} {q n : Nat} {gen : List (List Int)} {N : Nat} (h : N < q ^ gen.length) : (wordsL O q n gen).getD N [] = pwL O q n gen gen.length N := by simp [wordsL, List.getD, h]
end Go.Proofs.Ytodgdoglhecolaa
