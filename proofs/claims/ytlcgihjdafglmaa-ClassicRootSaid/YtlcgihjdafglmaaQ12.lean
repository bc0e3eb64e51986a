/- Texts of a claim, merged: words, plain facts and walks that the last of its texts uses. -/
import Derived.Test.YtlcgihjdafglmaaQ1
import Derived.Test.YtlcgihjdafglmaaQ7
import Derived.Test.YtlcgihjdafglmaaQ11
import Derived.Deep.CutRange
import Derived.Deep.RegionHeld3
import Derived.Deep.RegionLaw
import Derived.Deep.DeepMust
import Derived.Laws.EntriesVeiled
import Derived.StillTailTactics
import Derived.Deep.QuietTactic
import Derived.BigQuiet
set_option linter.unusedSimpArgs false
set_option linter.unusedVariables false

/- code.New, code.Dual, where all is well. -/
namespace Go.Proofs.Ytlcgihjdafglmaa
open Go.RowKit
set_option linter.unusedVariables false
set_option maxRecDepth 100000

theorem sep_far {B : Nat} {w v w9 : World} {Φ : World → Prop} (h : Sep B w Φ) (hb : Below w.heap.size w v) {g : Nat} (hg0 : w.heap.size ≤ g) (hg : v.grownBy w9 (some g)) : Sep B w9 Φ :=
  h.of (Nat.le_trans hb.size hg.size) fun p h1 h2 =>
    (World.cell?_of_block (hg.block p.block (Nat.lt_of_lt_of_le h2 hb.size) (by intro e; have := Option.some.inj e; omega))).trans (hb.cell h2)

set_option maxHeartbeats 8000000 in
theorem cNew_ok (w : World) (P M : Int) (n : Nat) (mv rv : Value) (Mod : List Int) (rows : List (List Int)) (hm : SI w mv Mod) (hv : SS w rv rows) (he : matE P M Mod n rows = 0) (hn1 : 1 ≤ n) (hn2 : n ≤ 64) :
    Calls Try.prog 50 #[.agg #[.int .i64 P, .int .i64 M, mv], .agg #[.int .i64 (n : Int), rv]] w (RetCE w P M Mod n (canonL (refOps P M Mod) rows n) 0) := by
  have HCA := Lib.hid (fun (w' : World) (hb : Below w.heap.size w w') => mCanonical_ok w' P M n mv rv Mod rows (hm.below hb (Nat.le_refl _)) (hv.below hb (Nat.le_refl _)) he)
  have HOF := Lib.hid (fun (w' : World) (A9 : Option Addr) (l9 c9 : Nat) (hb : Below w.heap.size w w') => cof_ok w' P M n mv A9 l9 c9 Mod (hm.below hb (Nat.le_refl _)))
  have HML := Lib.hid hm.len'; have HMW := Lib.hid hm.wfs
  have HLE : Hid (lenE n = 0) := by show _ = _; unfold lenE; rw [if_pos (by omega)]
  unfold RetCM at HCA
  unfold RetOf at HOF
  obtain ⟨RA, rc, rfl, _⟩ := hv
  clear hm he hn1 hn2
  generalize rows.length = r at *
  generalize canonL (refOps P M Mod) rows n = C at *
  obtain ⟨w1, e1, hq, hsz⟩ := FMC.mk' w P M mv n (.slice RA r rc)
  have HQ := Lib.hid hq; have HE1 := Lib.hid e1; clear hq e1
  go_enter Try.func50, Try.ntmps50
  go_upto_region 1 with fail
  rw [HE1.out]
  clear HE1
  have c0 := HQ.out.fm.fb.c0; have c1 := HQ.out.fm.fb.c1; have c2 := HQ.out.fm.fb.c2; have d0 := HQ.out.fm.d0; have d1 := HQ.out.fm.d1
  go_wp2_with fail
  refine (HCA.out w1 HQ.out.fm.fb.bel).mono ?_
  rintro e w2 ⟨U2, PU, pc, rfl, hx2, _, hb2⟩
  obtain ⟨k, hk⟩ : ∃ k, k = C.length := ⟨_, rfl⟩
  rw [← hk] at hx2 ⊢
  clear hk
  have HX2 := Lib.hid (hx2.imp fun _ h => h.1)
  have HQ2 := Lib.hid (HQ.out.on hb2)
  clear hx2 hb2 c0 c1 c2 d0 d1
  go_upto_region 2 with fail
  obtain ⟨w3, g3, e1, e2, h3, hb3⟩ := mk_box w2 69 [.int .i64 (n : Int), .slice U2 k k]
  rw [e1, e2]
  have HQ3 := Lib.hid (HQ2.out.on hb3); have HX3 := Lib.hid (HX2.out.on hb3); have HG3 := Lib.hid h3
  clear e1 e2 h3 hb3 HX2 HQ2
  have d0 := HQ3.out.fm.d0
  go_wp2_with fail
  refine (clen_any _ n).mono ?_
  rintro e w4 ⟨rfl, rfl⟩
  rw [HLE.out]
  clear d0
  have c0 := HQ3.out.fm.fb.c0; have c1 := HQ3.out.fm.fb.c1; have c2 := HQ3.out.fm.fb.c2
  have x0 : w3.cell? ⟨g3, 0, none⟩ = some (.int .i64 (n : Int)) := HG3.out.cell 0
  have x1 : w3.cell? ⟨g3, 1, none⟩ = some (.slice U2 k k) := HG3.out.cell 1
  go_wp2_with fail
  refine (HOF.out w3 _ _ _ HQ3.out.fm.fb.bel).mono ?_
  rintro e w5 ⟨u5, rfl, hu5, hb5⟩
  obtain ⟨UA5, uc5, rfl⟩ := hu5.form'
  have HQ5 := Lib.hid (HQ3.out.on hb5); have HX5 := Lib.hid (HX3.out.on hb5)
  have HU5 := Lib.hid (hu5.sep HML.out HMW.out)
  have hs1 := HQ.out.fm.fb.bel.size
  have hs3 := HQ3.out.fm.fb.bel.size
  have hq1 := HQ.out.q.lt
  have hq3 := HQ3.out.q.lt
  clear hu5 hb5 c0 c1 c2 x0 x1
  obtain ⟨y0, y1, y2, y3, y4, f0, f1, f2, f3, f4⟩ := HQ5.out.q.five
  go_wp2_with fail
  obtain ⟨wz, hz, HL⟩ := lay5 (x := .int .i64 P) (y := .int .i64 M) (z := .slice UA5 Mod.length uc5) (u := .int .i64 (n : Int)) (v := .slice U2 k k) HQ5.out.q
  rw [hz]
  have q0 := HL.c0; have q1 := HL.c1; have q2 := HL.c2; have q3 := HL.c3; have q4 := HL.c4
  refine bodyPost_ret (v := .tuple #[.agg #[.int .i64 P, .int .i64 M, .slice UA5 Mod.length uc5, .int .i64 (n : Int), .slice U2 k k], .int .i64 0]) (by simp [results, Try.results50, go_sem, q0, q1, q2, q3, q4]) rfl ?_
  exact ⟨_, _, rfl, ((HU5.out.grown HL.gr (by rintro b e; cases e; omega)).mono hs3).and ((HX5.out.grown HL.gr (by rintro b e; cases e; omega)).mono hs1), HL.below HQ5.out.fm.fb.bel HQ5.out.fm.fb.bel.size (by omega)⟩

/-- the box of a code, and behind it the place for another -/
structure CCQ (w w1 : World) (P M : Int) (mv : Value) (n : Int) (gv : Value) : Prop where
  cb : CBox w w1 P M mv n gv
  q : Blk w1 (w.heap.size + 1) 27 [.int .i64 0, .int .i64 0, .slice none 0 0, .int .i64 0, .slice none 0 0]
theorem CCQ.on {w w1 w2 : World} {P M : Int} {mv : Value} {n : Int} {gv : Value} (h : CCQ w w1 P M mv n gv) (hb : Below w1.heap.size w1 w2) : CCQ w w2 P M mv n gv := ⟨h.cb.on hb, h.q.belowS hb⟩
theorem CCQ.mk' (w : World) (P M : Int) (mv : Value) (n : Int) (gv : Value) : ∃ w1, (w.alloc (.cells #[.int .i64 P, .int .i64 M, mv, .int .i64 n, gv] 27)).alloc (.cells #[.int .i64 0, .int .i64 0, .slice none 0 0, .int .i64 0, .slice none 0 0] 27) = w1 ∧ CCQ w w1 P M mv n gv := by
  refine ⟨_, rfl, (CBox.mk' w P M mv n gv).on (bl_alloc _ _), ?_⟩
  have := Blk.new (w.alloc (.cells #[.int .i64 P, .int .i64 M, mv, .int .i64 n, gv] 27)) 27 [.int .i64 0, .int .i64 0, .slice none 0 0, .int .i64 0, .slice none 0 0]
  rw [World.size_alloc] at this
  exact this

set_option maxHeartbeats 16000000 in
theorem cDual_ok (w : World) (P M : Int) (n : Nat) (mv gv : Value) (Mod : List Int) (gen : List (List Int)) (hm : SI w mv Mod) (hg : SS w gv gen) (hE : codeE P M Mod n gen = 0) :
    Calls Try.prog 56 #[.agg #[.int .i64 P, .int .i64 M, mv, .int .i64 (n : Int), gv]] w (RetCE w P M Mod n (nullL (refOps P M Mod) gen n) 0) := by
  have HCK := Lib.hid (fun (w' : World) (hb : Below w.heap.size w w') => cCheck_any w' P M n mv gv Mod gen (hm.below hb (Nat.le_refl _)) (hg.below hb (Nat.le_refl _)))
  rw [hE] at HCK
  have hmat : matE P M Mod n gen = 0 := by
    obtain ⟨h1, h2, h3, h4, h5, h6⟩ := codeE_zero hE
    rw [Int.toNat_natCast] at h5
    exact matE_mk h1 (by omega) h4 h5
  have HKE := Lib.hid (fun (w' : World) (hb : Below w.heap.size w w') => mKernel_ok w' P M n mv gv Mod gen (hm.below hb (Nat.le_refl _)) (hg.below hb (Nat.le_refl _)) hmat)
  have HOF := Lib.hid (fun (w' : World) (A9 : Option Addr) (l9 c9 : Nat) (hb : Below w.heap.size w w') => cof_ok w' P M n mv A9 l9 c9 Mod (hm.below hb (Nat.le_refl _)))
  have HML := Lib.hid hm.len'; have HMW := Lib.hid hm.wfs
  unfold RetMx at HKE
  unfold RetOf at HOF
  obtain ⟨GA, gc, rfl, _⟩ := hg
  generalize gen.length = gl at *
  clear hm hE hmat
  generalize nullL (refOps P M Mod) gen n = C at *
  obtain ⟨w1, e1, hq⟩ := CCQ.mk' w P M mv n (.slice GA gl gc)
  have HQ := Lib.hid hq; have HE1 := Lib.hid e1; clear hq e1
  go_enter Try.func56, Try.ntmps56
  go_upto_region 1 with fail
  rw [HE1.out]
  clear HE1
  have c0 := HQ.out.cb.c0; have c1 := HQ.out.cb.c1; have c2 := HQ.out.cb.c2; have c3 := HQ.out.cb.c3; have c4 := HQ.out.cb.c4
  go_wp2_with fail
  refine (HCK.out w1 HQ.out.cb.bel).mono ?_
  rintro e w2 ⟨rfl, hb2⟩
  have HQ2 := Lib.hid (HQ.out.on hb2)
  clear hb2 c0 c1 c2 c3 c4
  have c0 := HQ2.out.cb.c0; have c1 := HQ2.out.cb.c1; have c2 := HQ2.out.cb.c2; have c3 := HQ2.out.cb.c3; have c4 := HQ2.out.cb.c4
  have C0 := Lib.hid c0; have C1 := Lib.hid c1; have C2 := Lib.hid c2; have C3 := Lib.hid c3; have C4 := Lib.hid c4
  obtain ⟨k, hk⟩ : ∃ k, k = C.length := ⟨_, rfl⟩
  have HK := Lib.hid hk; clear hk
  go_upto_region 4 with fail
  go_cut [5, 6] from 14 to 20 (fun t5 t6 wc => ∃ g UA uc, t6 = .int .i64 0 ∧ t5 = .pointer (some ⟨g, 0, none⟩) ∧ w2.heap.size ≤ g ∧ Hid (Blk wc g 69 [.int .i64 (n : Int), .slice UA k uc]) ∧ Hid (Sep w2.heap.size wc fun w9 => SS w9 (.slice UA k uc) C) ∧ Hid (Below w2.heap.size w2 wc))
  case first =>
    refine Kept.start (S := fun w' => w'.cell? ⟨w.heap.size, 0, none⟩ = some (.int .i64 P) ∧ w'.cell? ⟨w.heap.size, 1, none⟩ = some (.int .i64 M) ∧ w'.cell? ⟨w.heap.size, 2, none⟩ = some mv ∧ w'.cell? ⟨w.heap.size, 3, none⟩ = some (.int .i64 (n : Int)) ∧ w'.cell? ⟨w.heap.size, 4, none⟩ = some (.slice GA gl gc)) (by kernel_rfl) (⟨c0, c1, c2, c3, c4⟩) (fun hHeld => ?_)
    change Kept _ _ _ _ 11 _ _ _
    have hdrew := bl_drew w2
    generalize w2.drew = wq1 at hdrew hHeld ⊢
    have HBB := Lib.hid hdrew
    clear c0 c1 c2 c3 c4
    clear hdrew
    refine Kept.take (i := 0) (v := ?_) rfl (by kernel_rfl) (by kernel_rfl) (by kernel_rfl) (fun _ _ _ h => h) (Or.inl ⟨by kernel_rfl, ?_⟩) hHeld ?_
    rotate_left
    · intro w' hSw; (try dsimp only at hSw); first | (go_simp; done) | (go_simp; with_reducible rfl)
    try simp only [List.getElem_toArray, List.getElem_cons_zero, List.getElem_cons_succ, Act.put, List.setIfInBounds_toArray, List.set_cons_zero, List.set_cons_succ]
    refine Kept.take (i := 1) (v := ?_) rfl (by kernel_rfl) (by kernel_rfl) (by kernel_rfl) (fun _ _ _ h => h) (Or.inl ⟨by kernel_rfl, ?_⟩) hHeld ?_
    rotate_left
    · intro w' hSw; (try dsimp only at hSw); first | (go_simp; done) | (go_simp; with_reducible rfl)
    try simp only [List.getElem_toArray, List.getElem_cons_zero, List.getElem_cons_succ, Act.put, List.setIfInBounds_toArray, List.set_cons_zero, List.set_cons_succ]
    refine Kept.take (i := 2) (v := ?_) rfl (by kernel_rfl) (by kernel_rfl) (by kernel_rfl) (fun _ _ _ h => h) (Or.inl ⟨by kernel_rfl, ?_⟩) hHeld ?_
    rotate_left
    · intro w' hSw; (try dsimp only at hSw); first | (go_simp; done) | (go_simp; with_reducible rfl)
    try simp only [List.getElem_toArray, List.getElem_cons_zero, List.getElem_cons_succ, Act.put, List.setIfInBounds_toArray, List.set_cons_zero, List.set_cons_succ]
    refine Kept.two (i := 3) (j := 8) (oi := ?opa2) (oj := ?opb2) (by kernel_rfl) ?hoa2 ?hob2 (fun K hK => ?way12) (fun K hK => ?way22)
    case hoa2 => (conv => lhs; simp only [List.getElem?_toArray, List.getElem?_cons_succ, List.getElem?_cons_zero])
    case hob2 => (conv => lhs; simp only [List.getElem?_toArray, List.getElem?_cons_succ, List.getElem?_cons_zero])
    case way12 =>
      go_simp
      refine (cgen_any _ P M n mv GA gl gc).mono ?_
      rintro e wq3 ⟨rfl, hb⟩
      
      replace HBB := Lib.hid (bl_trans HBB.out hb)
      clear hb
      refine hK.out _ _ (⟨cell_below HBB.out C0.out, cell_below HBB.out C1.out, cell_below HBB.out C2.out, cell_below HBB.out C3.out, cell_below HBB.out C4.out⟩) (fun hHeld2 => ?_)
      clear hK K
      replace hHeld := hHeld2
      clear hHeld2
      try simp only [List.getElem_toArray, List.getElem_cons_zero, List.getElem_cons_succ, Act.put, List.setIfInBounds_toArray, List.set_cons_zero, List.set_cons_succ]
      refine Kept.two (i := 4) (j := 8) (oi := ?opa4) (oj := ?opb4) (by kernel_rfl) ?hoa4 ?hob4 (fun K hK => ?way14) (fun K hK => ?way24)
      case hoa4 => (conv => lhs; simp only [List.getElem?_toArray, List.getElem?_cons_succ, List.getElem?_cons_zero])
      case hob4 => (conv => lhs; simp only [List.getElem?_toArray, List.getElem?_cons_succ, List.getElem?_cons_zero])
      case way14 =>
        have hbs0 := HBB.out.size
        go_simp
        refine (HKE.out _ (bl_trans HQ2.out.cb.bel HBB.out)).mono ?_
        rintro e wq5 ⟨u, rfl, hx, hb⟩
        obtain ⟨UA, uc, rfl, _⟩ := hx.out
        rw [← HK.out] at hx ⊢
        have HS4 := Lib.hid (hx.mono hbs0) 
        
        
        
        
        replace HBB := Lib.hid (bl_trans HBB.out hb)
        clear hb hx hbs0
        refine hK.out _ _ (⟨cell_below HBB.out C0.out, cell_below HBB.out C1.out, cell_below HBB.out C2.out, cell_below HBB.out C3.out, cell_below HBB.out C4.out⟩) (fun hHeld2 => ?_)
        clear hK K
        replace hHeld := hHeld2
        clear hHeld2
        try simp only [List.getElem_toArray, List.getElem_cons_zero, List.getElem_cons_succ, Act.put, List.setIfInBounds_toArray, List.set_cons_zero, List.set_cons_succ]
        refine Kept.take (i := 5) (v := ?_) rfl (by kernel_rfl) (by kernel_rfl) (by kernel_rfl) (fun _ _ _ h => h) (Or.inl ⟨by kernel_rfl, ?_⟩) hHeld ?_
        rotate_left
        · intro w' hSw; (try dsimp only at hSw); first | (go_simp; done) | (go_simp; with_reducible rfl)
        try simp only [List.getElem_toArray, List.getElem_cons_zero, List.getElem_cons_succ, Act.put, List.setIfInBounds_toArray, List.set_cons_zero, List.set_cons_succ]
        refine Kept.take (i := 6) (v := ?_) rfl (by kernel_rfl) (by kernel_rfl) (by kernel_rfl) (fun _ _ _ h => h) (Or.inl ⟨by kernel_rfl, ?_⟩) hHeld ?_
        rotate_left
        · intro w' hSw; (try dsimp only at hSw); first | (go_simp; done) | (go_simp; with_reducible rfl)
        try simp only [List.getElem_toArray, List.getElem_cons_zero, List.getElem_cons_succ, Act.put, List.setIfInBounds_toArray, List.set_cons_zero, List.set_cons_succ]
        refine Kept.take (i := 7) (v := ?_) rfl (by kernel_rfl) (by kernel_rfl) (by kernel_rfl) (fun _ _ _ h => h) (Or.inl ⟨by kernel_rfl, ?_⟩) hHeld ?_
        rotate_left
        · intro w' hSw; (try dsimp only at hSw); first | (go_simp; done) | (go_simp; with_reducible rfl)
        try simp only [List.getElem_toArray, List.getElem_cons_zero, List.getElem_cons_succ, Act.put, List.setIfInBounds_toArray, List.set_cons_zero, List.set_cons_succ]
        refine Kept.only (i := 8) (o := ?op6) (by kernel_rfl) ?ho6 (fun K hK => ?_)
        case ho6 => (conv => lhs; simp only [List.getElem?_toArray, List.getElem?_cons_succ, List.getElem?_cons_zero])
        go_simp
        obtain ⟨wq7, g, e1, e2, hX, hb⟩ := mk_box wq5 69 [.int .i64 0, .slice none 0 0]
        rw [e1, e2]
        have HBX := Lib.hid hX
        have hgi : w2.heap.size ≤ g := (by have := HBB.out.size; omega)
        have HSF : Hid (∀ w9, World.grownBy wq7 w9 (some g) → Sep w2.heap.size w9 fun w9 => SS w9 (.slice UA k uc) C) := hid' (fun w9 hg => sep_far HS4.out hb (by omega) hg) 
        replace HBB := Lib.hid (bl_trans HBB.out hb)
        clear e1 e2 hX hb
        refine hK.out _ _ (⟨cell_below HBB.out C0.out, cell_below HBB.out C1.out, cell_below HBB.out C2.out, cell_below HBB.out C3.out, cell_below HBB.out C4.out⟩) (fun hHeld2 => ?_)
        clear hK K
        replace hHeld := hHeld2
        clear hHeld2
        try simp only [List.getElem_toArray, List.getElem_cons_zero, List.getElem_cons_succ, Act.put, List.setIfInBounds_toArray, List.set_cons_zero, List.set_cons_succ]
        refine Kept.only (i := 9) (o := ?op8) (by kernel_rfl) ?ho8 (fun K hK => ?_)
        case ho8 => (conv => lhs; simp only [List.getElem?_toArray, List.getElem?_cons_succ, List.getElem?_cons_zero])
        obtain ⟨b0, b1, f0, f1⟩ := HBX.out.two
        go_simp
        obtain ⟨wq9, h6, HL⟩ := lay2 (x := .int .i64 (n : Int)) (y := .slice UA k uc) HBX.out
        rw [h6]
        have HS6 := Lib.hid (HSF.out _ HL.gr)
        have HBY := Lib.hid HL.blk
        replace HBB := Lib.hid (HL.below HBB.out HBB.out.size hgi)
        clear b0 b1 f0 f1 h6 HL HBX
        refine hK.out _ _ (⟨cell_below HBB.out C0.out, cell_below HBB.out C1.out, cell_below HBB.out C2.out, cell_below HBB.out C3.out, cell_below HBB.out C4.out⟩) (fun hHeld2 => ?_)
        clear hK K
        replace hHeld := hHeld2
        clear hHeld2
        try simp only [List.getElem_toArray, List.getElem_cons_zero, List.getElem_cons_succ, Act.put, List.setIfInBounds_toArray, List.set_cons_zero, List.set_cons_succ]
        refine Kept.only (i := 10) (by kernel_rfl) rfl (fun K hK => ?_)
        go_simp
        refine hK.out _ _ hHeld (fun hHeld2 => ?_)
        clear hK K
        clear hHeld2
        refine Kept.done (by kernel_rfl) ?_
        try simp only [List.getElem_toArray, List.getElem_cons_zero, List.getElem_cons_succ, Act.put, List.setIfInBounds_toArray, List.set_cons_zero, List.set_cons_succ]
        clear hHeld
        go_wp2_with fail
        go_meet
        exact ⟨g, UA, uc, rfl, rfl, hgi, HBY, HS6, HBB⟩
      case way24 =>
        go_simp
        obtain ⟨wq10, g, e1, e2, hX, hb⟩ := mk_box wq3 69 [.int .i64 0, .slice none 0 0]
        rw [e1, e2]
        have HBX := Lib.hid hX
        have hgi : w2.heap.size ≤ g := (by have := HBB.out.size; omega)
        
        replace HBB := Lib.hid (bl_trans HBB.out hb)
        clear e1 e2 hX hb
        refine hK.out _ _ (⟨cell_below HBB.out C0.out, cell_below HBB.out C1.out, cell_below HBB.out C2.out, cell_below HBB.out C3.out, cell_below HBB.out C4.out⟩) (fun hHeld2 => ?_)
        clear hK K
        replace hHeld := hHeld2
        clear hHeld2
        try simp only [List.getElem_toArray, List.getElem_cons_zero, List.getElem_cons_succ, Act.put, List.setIfInBounds_toArray, List.set_cons_zero, List.set_cons_succ]
        refine Kept.only (i := 4) (o := ?op11) (by kernel_rfl) ?ho11 (fun K hK => ?_)
        case ho11 => (conv => lhs; simp only [List.getElem?_toArray, List.getElem?_cons_succ, List.getElem?_cons_zero])
        have hbs0 := HBB.out.size
        go_simp
        refine (HKE.out _ (bl_trans HQ2.out.cb.bel HBB.out)).mono ?_
        rintro e wq12 ⟨u, rfl, hx, hb⟩
        obtain ⟨UA, uc, rfl, _⟩ := hx.out
        rw [← HK.out] at hx ⊢
        
        have hgl := HBX.out.lt 
        have HSF : Hid (∀ w9, World.grownBy wq12 w9 (some g) → Sep w2.heap.size w9 fun w9 => SS w9 (.slice UA k uc) C) := hid' (fun w9 hg => (hx.grown hg (by rintro b e; cases e; exact hgl)).mono hbs0) 
        clear hgl 
        replace HBX := Lib.hid (HBX.out.belowS hb) 
        replace HBB := Lib.hid (bl_trans HBB.out hb)
        clear hb hx hbs0
        refine hK.out _ _ (⟨cell_below HBB.out C0.out, cell_below HBB.out C1.out, cell_below HBB.out C2.out, cell_below HBB.out C3.out, cell_below HBB.out C4.out⟩) (fun hHeld2 => ?_)
        clear hK K
        replace hHeld := hHeld2
        clear hHeld2
        try simp only [List.getElem_toArray, List.getElem_cons_zero, List.getElem_cons_succ, Act.put, List.setIfInBounds_toArray, List.set_cons_zero, List.set_cons_succ]
        refine Kept.take (i := 5) (v := ?_) rfl (by kernel_rfl) (by kernel_rfl) (by kernel_rfl) (fun _ _ _ h => h) (Or.inl ⟨by kernel_rfl, ?_⟩) hHeld ?_
        rotate_left
        · intro w' hSw; (try dsimp only at hSw); first | (go_simp; done) | (go_simp; with_reducible rfl)
        try simp only [List.getElem_toArray, List.getElem_cons_zero, List.getElem_cons_succ, Act.put, List.setIfInBounds_toArray, List.set_cons_zero, List.set_cons_succ]
        refine Kept.take (i := 6) (v := ?_) rfl (by kernel_rfl) (by kernel_rfl) (by kernel_rfl) (fun _ _ _ h => h) (Or.inl ⟨by kernel_rfl, ?_⟩) hHeld ?_
        rotate_left
        · intro w' hSw; (try dsimp only at hSw); first | (go_simp; done) | (go_simp; with_reducible rfl)
        try simp only [List.getElem_toArray, List.getElem_cons_zero, List.getElem_cons_succ, Act.put, List.setIfInBounds_toArray, List.set_cons_zero, List.set_cons_succ]
        refine Kept.take (i := 7) (v := ?_) rfl (by kernel_rfl) (by kernel_rfl) (by kernel_rfl) (fun _ _ _ h => h) (Or.inl ⟨by kernel_rfl, ?_⟩) hHeld ?_
        rotate_left
        · intro w' hSw; (try dsimp only at hSw); first | (go_simp; done) | (go_simp; with_reducible rfl)
        try simp only [List.getElem_toArray, List.getElem_cons_zero, List.getElem_cons_succ, Act.put, List.setIfInBounds_toArray, List.set_cons_zero, List.set_cons_succ]
        refine Kept.only (i := 9) (o := ?op13) (by kernel_rfl) ?ho13 (fun K hK => ?_)
        case ho13 => (conv => lhs; simp only [List.getElem?_toArray, List.getElem?_cons_succ, List.getElem?_cons_zero])
        obtain ⟨b0, b1, f0, f1⟩ := HBX.out.two
        go_simp
        obtain ⟨wq14, h6, HL⟩ := lay2 (x := .int .i64 (n : Int)) (y := .slice UA k uc) HBX.out
        rw [h6]
        have HS6 := Lib.hid (HSF.out _ HL.gr)
        have HBY := Lib.hid HL.blk
        replace HBB := Lib.hid (HL.below HBB.out HBB.out.size hgi)
        clear b0 b1 f0 f1 h6 HL HBX
        refine hK.out _ _ (⟨cell_below HBB.out C0.out, cell_below HBB.out C1.out, cell_below HBB.out C2.out, cell_below HBB.out C3.out, cell_below HBB.out C4.out⟩) (fun hHeld2 => ?_)
        clear hK K
        replace hHeld := hHeld2
        clear hHeld2
        try simp only [List.getElem_toArray, List.getElem_cons_zero, List.getElem_cons_succ, Act.put, List.setIfInBounds_toArray, List.set_cons_zero, List.set_cons_succ]
        refine Kept.only (i := 10) (by kernel_rfl) rfl (fun K hK => ?_)
        go_simp
        refine hK.out _ _ hHeld (fun hHeld2 => ?_)
        clear hK K
        clear hHeld2
        refine Kept.done (by kernel_rfl) ?_
        try simp only [List.getElem_toArray, List.getElem_cons_zero, List.getElem_cons_succ, Act.put, List.setIfInBounds_toArray, List.set_cons_zero, List.set_cons_succ]
        clear hHeld
        go_wp2_with fail
        go_meet
        exact ⟨g, UA, uc, rfl, rfl, hgi, HBY, HS6, HBB⟩
    case way22 =>
      go_simp
      obtain ⟨wq15, g, e1, e2, hX, hb⟩ := mk_box wq1 69 [.int .i64 0, .slice none 0 0]
      rw [e1, e2]
      have HBX := Lib.hid hX
      have hgi : w2.heap.size ≤ g := (by have := HBB.out.size; omega)
      
      replace HBB := Lib.hid (bl_trans HBB.out hb)
      clear e1 e2 hX hb
      refine hK.out _ _ (⟨cell_below HBB.out C0.out, cell_below HBB.out C1.out, cell_below HBB.out C2.out, cell_below HBB.out C3.out, cell_below HBB.out C4.out⟩) (fun hHeld2 => ?_)
      clear hK K
      replace hHeld := hHeld2
      clear hHeld2
      try simp only [List.getElem_toArray, List.getElem_cons_zero, List.getElem_cons_succ, Act.put, List.setIfInBounds_toArray, List.set_cons_zero, List.set_cons_succ]
      refine Kept.only (i := 3) (o := ?op16) (by kernel_rfl) ?ho16 (fun K hK => ?_)
      case ho16 => (conv => lhs; simp only [List.getElem?_toArray, List.getElem?_cons_succ, List.getElem?_cons_zero])
      go_simp
      refine (cgen_any _ P M n mv GA gl gc).mono ?_
      rintro e wq17 ⟨rfl, hb⟩
      replace HBX := Lib.hid (HBX.out.belowS hb) 
      replace HBB := Lib.hid (bl_trans HBB.out hb)
      clear hb
      refine hK.out _ _ (⟨cell_below HBB.out C0.out, cell_below HBB.out C1.out, cell_below HBB.out C2.out, cell_below HBB.out C3.out, cell_below HBB.out C4.out⟩) (fun hHeld2 => ?_)
      clear hK K
      replace hHeld := hHeld2
      clear hHeld2
      try simp only [List.getElem_toArray, List.getElem_cons_zero, List.getElem_cons_succ, Act.put, List.setIfInBounds_toArray, List.set_cons_zero, List.set_cons_succ]
      refine Kept.only (i := 4) (o := ?op18) (by kernel_rfl) ?ho18 (fun K hK => ?_)
      case ho18 => (conv => lhs; simp only [List.getElem?_toArray, List.getElem?_cons_succ, List.getElem?_cons_zero])
      have hbs0 := HBB.out.size
      go_simp
      refine (HKE.out _ (bl_trans HQ2.out.cb.bel HBB.out)).mono ?_
      rintro e wq19 ⟨u, rfl, hx, hb⟩
      obtain ⟨UA, uc, rfl, _⟩ := hx.out
      rw [← HK.out] at hx ⊢
      
      have hgl := HBX.out.lt 
      have HSF : Hid (∀ w9, World.grownBy wq19 w9 (some g) → Sep w2.heap.size w9 fun w9 => SS w9 (.slice UA k uc) C) := hid' (fun w9 hg => (hx.grown hg (by rintro b e; cases e; exact hgl)).mono hbs0) 
      clear hgl 
      replace HBX := Lib.hid (HBX.out.belowS hb) 
      replace HBB := Lib.hid (bl_trans HBB.out hb)
      clear hb hx hbs0
      refine hK.out _ _ (⟨cell_below HBB.out C0.out, cell_below HBB.out C1.out, cell_below HBB.out C2.out, cell_below HBB.out C3.out, cell_below HBB.out C4.out⟩) (fun hHeld2 => ?_)
      clear hK K
      replace hHeld := hHeld2
      clear hHeld2
      try simp only [List.getElem_toArray, List.getElem_cons_zero, List.getElem_cons_succ, Act.put, List.setIfInBounds_toArray, List.set_cons_zero, List.set_cons_succ]
      refine Kept.take (i := 5) (v := ?_) rfl (by kernel_rfl) (by kernel_rfl) (by kernel_rfl) (fun _ _ _ h => h) (Or.inl ⟨by kernel_rfl, ?_⟩) hHeld ?_
      rotate_left
      · intro w' hSw; (try dsimp only at hSw); first | (go_simp; done) | (go_simp; with_reducible rfl)
      try simp only [List.getElem_toArray, List.getElem_cons_zero, List.getElem_cons_succ, Act.put, List.setIfInBounds_toArray, List.set_cons_zero, List.set_cons_succ]
      refine Kept.take (i := 6) (v := ?_) rfl (by kernel_rfl) (by kernel_rfl) (by kernel_rfl) (fun _ _ _ h => h) (Or.inl ⟨by kernel_rfl, ?_⟩) hHeld ?_
      rotate_left
      · intro w' hSw; (try dsimp only at hSw); first | (go_simp; done) | (go_simp; with_reducible rfl)
      try simp only [List.getElem_toArray, List.getElem_cons_zero, List.getElem_cons_succ, Act.put, List.setIfInBounds_toArray, List.set_cons_zero, List.set_cons_succ]
      refine Kept.take (i := 7) (v := ?_) rfl (by kernel_rfl) (by kernel_rfl) (by kernel_rfl) (fun _ _ _ h => h) (Or.inl ⟨by kernel_rfl, ?_⟩) hHeld ?_
      rotate_left
      · intro w' hSw; (try dsimp only at hSw); first | (go_simp; done) | (go_simp; with_reducible rfl)
      try simp only [List.getElem_toArray, List.getElem_cons_zero, List.getElem_cons_succ, Act.put, List.setIfInBounds_toArray, List.set_cons_zero, List.set_cons_succ]
      refine Kept.only (i := 9) (o := ?op20) (by kernel_rfl) ?ho20 (fun K hK => ?_)
      case ho20 => (conv => lhs; simp only [List.getElem?_toArray, List.getElem?_cons_succ, List.getElem?_cons_zero])
      obtain ⟨b0, b1, f0, f1⟩ := HBX.out.two
      go_simp
      obtain ⟨wq21, h6, HL⟩ := lay2 (x := .int .i64 (n : Int)) (y := .slice UA k uc) HBX.out
      rw [h6]
      have HS6 := Lib.hid (HSF.out _ HL.gr)
      have HBY := Lib.hid HL.blk
      replace HBB := Lib.hid (HL.below HBB.out HBB.out.size hgi)
      clear b0 b1 f0 f1 h6 HL HBX
      refine hK.out _ _ (⟨cell_below HBB.out C0.out, cell_below HBB.out C1.out, cell_below HBB.out C2.out, cell_below HBB.out C3.out, cell_below HBB.out C4.out⟩) (fun hHeld2 => ?_)
      clear hK K
      replace hHeld := hHeld2
      clear hHeld2
      try simp only [List.getElem_toArray, List.getElem_cons_zero, List.getElem_cons_succ, Act.put, List.setIfInBounds_toArray, List.set_cons_zero, List.set_cons_succ]
      refine Kept.only (i := 10) (by kernel_rfl) rfl (fun K hK => ?_)
      go_simp
      refine hK.out _ _ hHeld (fun hHeld2 => ?_)
      clear hK K
      clear hHeld2
      refine Kept.done (by kernel_rfl) ?_
      try simp only [List.getElem_toArray, List.getElem_cons_zero, List.getElem_cons_succ, Act.put, List.setIfInBounds_toArray, List.set_cons_zero, List.set_cons_succ]
      clear hHeld
      go_wp2_with fail
      go_meet
      exact ⟨g, UA, uc, rfl, rfl, hgi, HBY, HS6, HBB⟩
  case rest =>
    clear c0 c1 c2 c3 c4
    obtain ⟨g, UA, uc, rfl, rfl, hg, HBY, HS5, HBB⟩ := hcut
    have HQ3 := Lib.hid (HQ2.out.on HBB.out)
    have hs2 := HBB.out.size
    clear C0 C1 C2 C3 C4
    have x0 : wc.cell? ⟨g, 0, none⟩ = some (.int .i64 (n : Int)) := HBY.out.cell 0
    have x1 : wc.cell? ⟨g, 1, none⟩ = some (.slice UA k uc) := HBY.out.cell 1
    have c0 := HQ3.out.cb.c0; have c1 := HQ3.out.cb.c1; have c2 := HQ3.out.cb.c2
    go_wp2_with fail
    refine (HOF.out wc _ _ _ HQ3.out.cb.bel).mono ?_
    rintro e w5 ⟨u5, rfl, hu5, hb5⟩
    obtain ⟨UA5, uc5, rfl⟩ := hu5.form'
    have HQ5 := Lib.hid (HQ3.out.on hb5); have HX5 := Lib.hid (HS5.out.on hb5)
    have HU5 := Lib.hid (hu5.sep HML.out HMW.out)
    have hs1 := HQ2.out.cb.bel.size
    have hs3 := HQ3.out.cb.bel.size
    have hq2 := HQ2.out.q.lt
    have hq3 := HQ3.out.q.lt
    clear hu5 hb5 c0 c1 c2 x0 x1
    obtain ⟨y0, y1, y2, y3, y4, f0, f1, f2, f3, f4⟩ := HQ5.out.q.five
    go_wp2_with fail
    obtain ⟨wz, hz, HL⟩ := lay5 (x := .int .i64 P) (y := .int .i64 M) (z := .slice UA5 Mod.length uc5) (u := .int .i64 (n : Int)) (v := .slice UA k uc) HQ5.out.q
    rw [hz]
    have q0 := HL.c0; have q1 := HL.c1; have q2 := HL.c2; have q3 := HL.c3; have q4 := HL.c4
    refine bodyPost_ret (v := .tuple #[.agg #[.int .i64 P, .int .i64 M, .slice UA5 Mod.length uc5, .int .i64 (n : Int), .slice UA k uc], .int .i64 0]) (by simp [results, Try.results56, go_sem, q0, q1, q2, q3, q4]) rfl ?_
    exact ⟨_, _, rfl, ((HU5.out.grown HL.gr (by rintro b e; cases e; omega)).mono hs3).and ((HX5.out.grown HL.gr (by rintro b e; cases e; omega)).mono hs1), HL.below HQ5.out.cb.bel HQ5.out.cb.bel.size (by omega)⟩
end Go.Proofs.Ytlcgihjdafglmaa

/- ref04.Same, ref12.Same, law15.same: of equal codes. -/
namespace Go.Proofs.Ytlcgihjdafglmaa
open Go.RowKit
set_option linter.unusedVariables false
set_option maxRecDepth 100000

/-- two boxes of one type -/
theorem boxesT (w : World) (t : TypeId) (cs ds : List Value) : ∃ w', (w.alloc (.cells cs.toArray t)).alloc (.cells ds.toArray t) = w' ∧ Blk w' w.heap.size t cs ∧ Blk w' (w.heap.size + 1) t ds ∧ Below w.heap.size w w' := by
  obtain ⟨w', h1, h2, h3, h4, _⟩ := boxes2 w t cs ds
  exact ⟨w', h1, h2, h3, h4⟩
set_option maxHeartbeats 8000000 in
theorem rFSame_true (w : World) (P M : Int) (v1 v2 : Value) (Mod : List Int) (h1 : SI w v1 Mod) (h2 : SI w v2 Mod) :
    Calls Try.prog 68 #[.agg #[.int .i64 P, .int .i64 M, v1], .agg #[.int .i64 P, .int .i64 M, v2]] w (RetB w true) := by
  have H1 := Lib.hid h1; have H2 := Lib.hid h2
  obtain ⟨A1, k1, rfl, _⟩ := h1
  obtain ⟨A2, k2, rfl, _⟩ := h2
  obtain ⟨l, hl⟩ : ∃ l, l = Mod.length := ⟨_, rfl⟩
  rw [← hl] at H1 H2 ⊢
  have HLL := Lib.hid hl; clear hl
  have hlm : l ≤ 17592186044416 := by rw [HLL.out]; exact H1.out.len'
  obtain ⟨w1, e1, hq1, hq2, hb⟩ := boxesT w 24 [.int .i64 P, .int .i64 M, .slice A1 l k1] [.int .i64 P, .int .i64 M, .slice A2 l k2]
  have HE1 := Lib.hid e1; have T1 := Lib.hid hq1; have T2 := Lib.hid hq2; have HB := Lib.hid hb
  clear e1 hq1 hq2 hb
  have hPP : (P != P) = false := by simp
  have hMM : (M != M) = false := by simp
  have hll : ((l : Int) != (l : Int)) = false := by simp
  go_enter Try.func68, Try.ntmps68
  go_upto_region 1 with fail
  rw [HE1.out]
  clear HE1
  have a0 := T1.out.cell 0; have a1 := T1.out.cell 1; have a2 := T1.out.cell 2
  have b0 := T2.out.cell 0; have b1 := T2.out.cell 1; have b2 := T2.out.cell 2
  go_wp2_with fail
  clear a0 a1 a2 b0 b1 b2
  go_loopw [5] (fun i wr => ∃ k : Nat, k ≤ l ∧ i = .int .i64 (k : Int) ∧ Hid (Below w1.heap.size w1 wr)) (fun i _ => l - (intOf i).toNat)
  case atStart => exact ⟨0, Nat.zero_le _, rfl, bl_refl _⟩
  case round =>
    obtain ⟨k, hk, rfl, HBr⟩ := hrel
    have S1 := Lib.hid (T1.out.belowS HBr.out); have S2 := Lib.hid (T2.out.belowS HBr.out)
    have HBW := Lib.hid (bl_trans HB.out HBr.out)
    by_cases hlt : k < l
    · obtain ⟨x1, y, rfl, hc, _, HY⟩ := (H1.out.below HBW.out (Nat.le_refl _)).elt (k := k) (by rw [← HLL.out]; exact hlt)
      obtain ⟨x2, z, rfl, hd, _, HZ⟩ := (H2.out.below HBW.out (Nat.le_refl _)).elt (k := k) (by rw [← HLL.out]; exact hlt)
      obtain rfl : y = z := by rw [← HY.out, ← HZ.out]
      have hyy : (y != y) = false := by simp
      have a2 := S1.out.cell 2; have b2 := S2.out.cell 2
      go_wp2_with fail
      go_quiet (fail)
      go_wp2_with fail
      exact ⟨⟨k + 1, by omega, by push_cast; rfl, bl_trans HBr.out (bl_drewN _ _)⟩, by simp only [intOf]; omega⟩
    · obtain rfl : l = k := by omega
      have a2 := S1.out.cell 2
      go_wp2_with fail
      go_ret
      exact ⟨rfl, HBW.out⟩
set_option maxHeartbeats 8000000 in
theorem rCSame_true (w : World) (P M n : Int) (v1 v2 g1 g2 : Value) (Mod : List Int) (gen : List (List Int)) (h1 : SI w v1 Mod) (h2 : SI w v2 Mod) (h3 : SS w g1 gen) (h4 : SS w g2 gen) :
    Calls Try.prog 43 #[.agg #[.int .i64 P, .int .i64 M, v1, .int .i64 n, g1], .agg #[.int .i64 P, .int .i64 M, v2, .int .i64 n, g2]] w (RetB w true) := by
  have HFS := Lib.hid (fun (w' : World) (hb : Below w.heap.size w w') => rFSame_true w' P M v1 v2 Mod (h1.below hb (Nat.le_refl _)) (h2.below hb (Nat.le_refl _)))
  have HGS : Hid (∀ (w' : World), Below w.heap.size w w' → Calls Try.prog 69 #[g1, g2] w' (RetB w' true)) := hid' fun w' hb => by
    have h := rSameRows_any w' g1 g2 gen gen (h3.below hb (Nat.le_refl _)) (h4.below hb (Nat.le_refl _))
    rw [show decide (gen = gen) = true from decide_eq_true rfl] at h
    exact h
  clear h1 h2 h3 h4
  obtain ⟨w1, e1, hq1, hq2, hb⟩ := boxesT w 27 [.int .i64 P, .int .i64 M, v1, .int .i64 n, g1] [.int .i64 P, .int .i64 M, v2, .int .i64 n, g2]
  have HE1 := Lib.hid e1; have T1 := Lib.hid hq1; have T2 := Lib.hid hq2; have HB := Lib.hid hb
  clear e1 hq1 hq2 hb
  have hnn : (n == n) = true := by simp
  go_enter Try.func43, Try.ntmps43
  go_upto_region 1 with fail
  rw [HE1.out]
  clear HE1
  have a0 := T1.out.cell 0; have a1 := T1.out.cell 1; have a2 := T1.out.cell 2
  have b0 := T2.out.cell 0; have b1 := T2.out.cell 1; have b2 := T2.out.cell 2
  go_wp2_with fail
  refine (HFS.out w1 HB.out).mono ?_
  rintro e w2 ⟨rfl, hb2⟩
  have S1 := Lib.hid (T1.out.belowS hb2); have S2 := Lib.hid (T2.out.belowS hb2)
  have HB2 := Lib.hid (bl_trans HB.out hb2)
  clear hb2 a0 a1 a2 b0 b1 b2
  have a3 := S1.out.cell 3; have a4 := S1.out.cell 4
  have b3 := S2.out.cell 3; have b4 := S2.out.cell 4
  go_wp2_with fail
  refine (HGS.out w2 HB2.out).mono ?_
  rintro e w3 ⟨rfl, hb3⟩
  have HB3 := Lib.hid (bl_trans HB2.out hb3)
  clear hb3 a3 a4 b3 b4
  go_wp2_with fail
  go_ret
  exact ⟨rfl, HB3.out⟩
set_option maxHeartbeats 8000000 in
theorem same15_true (w : World) (P M n er : Int) (v1 v2 g1 g2 : Value) (Mod : List Int) (gen : List (List Int)) (h1 : SI w v1 Mod) (h2 : SI w v2 Mod) (h3 : SS w g1 gen) (h4 : SS w g2 gen) :
    Calls Try.prog 13 #[.agg #[.int .i64 P, .int .i64 M, v1, .int .i64 n, g1], .int .i64 er, .agg #[.int .i64 P, .int .i64 M, v2, .int .i64 n, g2], .int .i64 er] w (RetB w true) := by
  have HS := Lib.hid (fun (w' : World) (hb : Below w.heap.size w w') => rCSame_true w' P M n v1 v2 g1 g2 Mod gen (h1.below hb (Nat.le_refl _)) (h2.below hb (Nat.le_refl _)) (h3.below hb (Nat.le_refl _)) (h4.below hb (Nat.le_refl _)))
  clear h1 h2 h3 h4
  obtain ⟨w1, e1, hq1, hq2, hb⟩ := boxesT w 27 [.int .i64 P, .int .i64 M, v1, .int .i64 n, g1] [.int .i64 P, .int .i64 M, v2, .int .i64 n, g2]
  have HE1 := Lib.hid e1; have T1 := Lib.hid hq1; have T2 := Lib.hid hq2; have HB := Lib.hid hb
  clear e1 hq1 hq2 hb
  have hee : (er == er) = true := by simp
  go_enter Try.func13, Try.ntmps13
  go_upto_region 1 with fail
  rw [HE1.out]
  clear HE1
  have a0 := T1.out.cell 0; have a1 := T1.out.cell 1; have a2 := T1.out.cell 2; have a3 := T1.out.cell 3; have a4 := T1.out.cell 4
  have b0 := T2.out.cell 0; have b1 := T2.out.cell 1; have b2 := T2.out.cell 2; have b3 := T2.out.cell 3; have b4 := T2.out.cell 4
  go_wp2_with fail
  refine (HS.out w1 HB.out).mono ?_
  rintro e w2 ⟨rfl, hb2⟩
  have HB2 := Lib.hid (bl_trans HB.out hb2)
  clear hb2 a0 a1 a2 a3 a4 b0 b1 b2 b3 b4
  go_wp2_with fail
  go_ret
  exact ⟨rfl, HB2.out⟩
end Go.Proofs.Ytlcgihjdafglmaa

/- Plain facts: the monomials of bounded degree, as classic.Monomials lists them. No program in sight. -/
namespace Go.Proofs.Ytlcgihjdafglmaa

/-- all extensions of vars to 'size' variables by numbers from 'lo' on below m, in order; f: at least m - lo -/
def addG (size m : Nat) : Nat → Nat → List Int → List (List Int)
  | 0, _, vars => if vars.length = size then [vars] else []
  | f + 1, lo, vars => if vars.length = size then [vars] else (List.range (m - lo)).flatMap fun i => addG size m f (lo + i + 1) (vars ++ [((lo + i : Nat) : Int)])
/-- the extensions of the first k choices -/
def addTo' (size m f lo : Nat) (vars : List Int) (k : Nat) : List (List Int) := (List.range k).flatMap fun i => addG size m f (lo + i + 1) (vars ++ [((lo + i : Nat) : Int)])
theorem addTo'_succ (size m f lo : Nat) (vars : List Int) (k : Nat) : addTo' size m f lo vars (k + 1) = addTo' size m f lo vars k ++ addG size m f (lo + k + 1) (vars ++ [((lo + k : Nat) : Int)]) := by
  simp [addTo', List.range_succ, List.flatMap_append]
theorem addG_leaf {size m f lo : Nat} {vars : List Int} (h : vars.length = size) : addG size m f lo vars = [vars] := by
  cases f <;> simp [addG, h]
theorem addG_node {size m f lo : Nat} {vars : List Int} (h : ¬ vars.length = size) : addG size m (f + 1) lo vars = addTo' size m f lo vars (m - lo) := by
  simp [addG, h, addTo']
theorem addG_none {size m lo : Nat} {vars : List Int} (h : ¬ vars.length = size) : addG size m 0 lo vars = [] := by simp [addG, h]
/-- so many lists at the most -/
theorem addG_len (size m : Nat) : ∀ (f lo : Nat) (vars : List Int), (addG size m f lo vars).length ≤ (m + 1) ^ f
  | 0, lo, vars => by
    unfold addG; split <;> simp
  | f + 1, lo, vars => by
    have hpos : 1 ≤ (m + 1) ^ f := Nat.pow_pos (by omega)
    by_cases hl : vars.length = size
    · rw [addG_leaf hl, Nat.pow_succ]
      have : (m + 1) ^ f * 1 ≤ (m + 1) ^ f * (m + 1) := Nat.mul_le_mul_left _ (by omega)
      simp only [List.length_singleton]; omega
    · rw [addG_node hl]
      have key : ∀ k, (addTo' size m f lo vars k).length ≤ k * (m + 1) ^ f := by
        intro k
        induction k with
        | zero => simp [addTo']
        | succ k ih =>
          rw [addTo'_succ, List.length_append, Nat.succ_mul]
          have h1 := addG_len size m f (lo + k + 1) (vars ++ [((lo + k : Nat) : Int)])
          omega
      have h1 := key (m - lo)
      have h2 : (m - lo) * (m + 1) ^ f ≤ (m + 1) * (m + 1) ^ f := Nat.mul_le_mul_right _ (by omega)
      rw [Nat.pow_succ, Nat.mul_comm]
      omega
/-- the monomials of the degrees below k -/
def monoTo (m k : Nat) : List (List Int) := (List.range k).flatMap fun size => addG size m m 0 []
theorem monoTo_succ (m k : Nat) : monoTo m (k + 1) = monoTo m k ++ addG k m m 0 [] := by simp [monoTo, List.range_succ, List.flatMap_append]
def monoSpec (r m : Int) : List (List Int) × Int := if m < 0 ∨ 6 < m ∨ r < -1 ∨ m < r then ([], 6) else (monoTo m.toNat (r + 1).toNat, 0)
end Go.Proofs.Ytlcgihjdafglmaa

/- Plain models of ref11.Binomial and ref11.Subsets, and that for at most 6 elements they list what the monomials need. No program in sight. -/
namespace Go.Proofs.Ytlcgihjdafglmaa

/-- one step of the inner loop of Binomial -/
def binStep (row : List Int) (j : Nat) : List Int := row.set j (IntKind.i64.wrap (row.getD j 0 + row.getD (j - 1) 0))
/-- the inner loop from j down to 1 -/
def binDown : Nat → List Int → List Int
  | 0, row => row
  | j + 1, row => binDown j (binStep row (j + 1))
/-- the outer loop, i rounds -/
def binRows (row : List Int) : Nat → List Int
  | 0 => row
  | i + 1 => binDown (i + 1) (binRows row i)
def binRow (n : Nat) : List Int := binRows ((List.replicate (n + 1) 0).set 0 1) n
theorem binDown_len : ∀ (j : Nat) (row : List Int), (binDown j row).length = row.length
  | 0, row => rfl
  | j + 1, row => by rw [binDown, binDown_len]; simp [binStep]
theorem binRows_len (row : List Int) : ∀ i, (binRows row i).length = row.length
  | 0 => rfl
  | i + 1 => by rw [binRows, binDown_len, binRows_len row i]
theorem binRow_len (n : Nat) : (binRow n).length = n + 1 := by simp [binRow, binRows_len]

/-- where the search for an entry that can grow ends, from position t - 1 down: 0 if there is none, else its position + 1 -/
def subFind (d : Int) (s : List Int) : Nat → Nat
  | 0 => 0
  | t + 1 => if s.getD t 0 = d + t then subFind d s t else t + 1
/-- the entries from j on count up -/
def subFill (s : List Int) (j : Nat) : Nat → List Int
  | 0 => s
  | c + 1 => (subFill s j c).set (j + c) (IntKind.i64.wrap ((subFill s j c).getD (j + c - 1) 0 + 1))
def subNext (d : Int) (k : Nat) (s : List Int) : List Int :=
  match subFind d s k with
  | 0 => s
  | i + 1 => subFill (s.set i (IntKind.i64.wrap (s.getD i 0 + 1))) (i + 1) (k - (i + 1))
def subIter (d : Int) (k : Nat) (s : List Int) : Nat → List Int
  | 0 => s
  | t + 1 => subNext d k (subIter d k s t)
def subStart (k : Nat) : List Int := (List.range k).map fun (i : Nat) => (i : Int)
def subList (d : Int) (k c : Nat) : List (List Int) := (List.range c).map fun t => subIter d k (subStart k) t
theorem subFill_len (s : List Int) (j : Nat) : ∀ c, (subFill s j c).length = s.length
  | 0 => rfl
  | c + 1 => by rw [subFill]; simp [subFill_len s j c]
theorem subNext_len (d : Int) (k : Nat) (s : List Int) : (subNext d k s).length = s.length := by
  unfold subNext; split <;> simp [subFill_len]
theorem subIter_len (d : Int) (k : Nat) (s : List Int) : ∀ t, (subIter d k s t).length = s.length
  | 0 => rfl
  | t + 1 => by rw [subIter, subNext_len, subIter_len d k s t]
theorem subFind_le (d : Int) (s : List Int) : ∀ t, subFind d s t ≤ t
  | 0 => Nat.le_refl _
  | t + 1 => by rw [subFind]; split; exact Nat.le_succ_of_le (subFind_le d s t); exact Nat.le_refl _
theorem subs_all : ∀ n : Fin 7, ∀ k : Fin 7, k.val ≤ n.val → subList ((n.val : Int) - (k.val : Int)) k.val ((binRow n.val).getD k.val 0).toNat = addG k.val n.val n.val 0 [] ∧ 0 ≤ (binRow n.val).getD k.val 0 ∧ (binRow n.val).getD k.val 0 ≤ 20 := by
  decide +kernel
theorem subs_eq {n k : Nat} (hn : n ≤ 6) (hk : k ≤ n) : subList ((n : Int) - (k : Int)) k ((binRow n).getD k 0).toNat = addG k n n 0 [] ∧ 0 ≤ (binRow n).getD k 0 ∧ (binRow n).getD k 0 ≤ 20 :=
  subs_all ⟨n, by omega⟩ ⟨k, by omega⟩ hk
end Go.Proofs.Ytlcgihjdafglmaa

/- classic.Monomials: the closure that adds variables calls itself; contract by induction. -/
namespace Go.Proofs.Ytlcgihjdafglmaa
open Go.RowKit
set_option linter.unusedVariables false
set_option maxRecDepth 100000

/-- two blocks alone may have turned -/
structure Two (w w' : World) (b : Nat) (row : Option Nat) : Prop where
  os : w'.os = w.os
  tape : w'.tape = w.tape
  output : w'.output = w.output
  size : w.heap.size ≤ w'.heap.size
  block : ∀ k, k < w.heap.size → k ≠ b → some k ≠ row → w'.heap[k]? = w.heap[k]?
theorem Two.refl (w : World) (b : Nat) (row : Option Nat) : Two w w b row := ⟨rfl, rfl, rfl, Nat.le_refl _, fun _ _ _ _ => rfl⟩
theorem Two.grown {w0 w w' : World} {b : Nat} {row r2 : Option Nat} (h : Two w0 w b row) (hg : w.grownBy w' r2) (hr : ∀ g, r2 = some g → g < w0.heap.size → g = b ∨ row = some g) : Two w0 w' b row :=
  ⟨hg.os.trans h.os, hg.tape.trans h.tape, hg.output.trans h.output, Nat.le_trans h.size hg.size, fun k hk hb hne => (hg.block k (Nat.lt_of_lt_of_le hk h.size) (fun e => by
    rcases hr k e.symm hk with e2 | e2
    · exact hb e2
    · exact hne e2.symm)).trans (h.block k hk hb hne)⟩
theorem Two.trans {w0 w w' : World} {b : Nat} {row r2 : Option Nat} (h : Two w0 w b row) (hg : Two w w' b r2) (hr : ∀ g, r2 = some g → g < w0.heap.size → row = some g) : Two w0 w' b row :=
  ⟨hg.os.trans h.os, hg.tape.trans h.tape, hg.output.trans h.output, Nat.le_trans h.size hg.size, fun k hk hb hne => (hg.block k (Nat.lt_of_lt_of_le hk h.size) hb (fun e => hne (hr k e.symm hk).symm)).trans (h.block k hk hb hne)⟩
theorem Two.below {w0 w : World} {b B : Nat} {row : Option Nat} {a : World} (h : Two w0 w b row) (ha : Below B a w0) (hb : B ≤ b) (hB : B ≤ w0.heap.size) (hr : ∀ g, row = some g → B ≤ g) : Below B a w :=
  ha.trans ⟨h.os, h.tape, h.output, h.size, fun k hk => h.block k (by omega) (by omega) (fun e => by have := hr k e.symm; omega)⟩

theorem OS.ne_blk {B : Nat} {X : Nat → Prop} {w : World} {v : Value} {xss : List (List Int)} (h : OS B X w v xss) {g : Nat} {t : TypeId} {cs : List Value} (hb : Blk w g t cs) (ht : t ≠ 22) : v.ownBlock ≠ some g := by
  obtain ⟨us, ho, _⟩ := h
  intro e
  rcases ho.2 with ⟨rfl, _⟩ | ⟨g', cap, cur, rfl, _, hh, _⟩
  · simp [Value.ownBlock] at e
  · simp [Value.ownBlock] at e
    subst e
    unfold Blk at hb
    rw [hh] at hb
    injection hb with hb
    injection hb with _ hb2
    exact ht hb2.symm
theorem Blk.ne_blk {w : World} {g g' : Nat} {t t' : TypeId} {cs cs' : List Value} (h : Blk w g t cs) (h' : Blk w g' t' cs') (ht : t ≠ t') : g ≠ g' := by
  rintro rfl
  unfold Blk at h h'
  rw [h] at h'
  injection h' with h'
  injection h' with _ h2
  exact ht h2

theorem si_wf {w : World} {v : Value} {xs : List Int} (h : SI w v xs) : ∀ k, I64 (xs.getD k 0) := by
  obtain ⟨_, _, _, h⟩ := h
  exact h.wf
theorem push_cell {w w' : World} {o : Obj} {b : Nat} {t : TypeId} {v : Value} {row : Option Nat} (h : Blk w b t [v]) (hg : (w.alloc o).grownBy w' row) (hne : row ≠ some b) : w'.cell? ⟨b, 0, none⟩ = some v :=
  ((h.alloc o).grown hg (fun e => hne e.symm)).cell 0
theorem push_frozen {w w' : World} {o : Obj} {b : Nat} {t : TypeId} {v : Value} {row : Option Nat} (h : Blk w b t [v]) (hg : (w.alloc o).grownBy w' row) (hne : row ≠ some b) : w'.frozen? ⟨b, 0, none⟩ = false :=
  ((h.alloc o).grown hg (fun e => hne e.symm)).frozen 0
theorem clone_apart {w w1 : World} {B Bo : Nat} {v u : Value} {vars : List Int} {outs : List (List Int)} (hu : OI w.heap.size w1 u vars) (ho : OS B (fun g => g = Bo) w v outs) (hb : Bo < w.heap.size) :
    ∀ g, u.ownBlock = some g → v.ownBlock ≠ some g ∧ ¬ (g = Bo) := fun g hg => by
  have h1 := (hu.lt hg).1
  exact ⟨fun e => by have := (ho.lt e).2; omega, by omega⟩

theorem SI.two {w w' : World} {b : Nat} {row : Option Nat} {v : Value} {xs : List Int} (h : SI w v xs) (ht : Two w w' b row) (hne : 0 < xs.length → ∀ g, v.ownBlock = some g → row ≠ some g ∧ g ≠ b) : SI w' v xs := by
  obtain ⟨A, c, rfl, h⟩ := h
  refine ⟨A, c, rfl, h.len, h.cap, fun k hk' => ?_, h.wf⟩
  obtain ⟨ad, e, hc⟩ := h.cell k hk'
  refine ⟨ad, e, ?_⟩
  have hlt := World.block_lt_of_cell? _ _ hc
  have hn := hne (by omega) (ad.add k).block (by rw [block_of_add, e]; rfl)
  rw [World.cell?_of_block (w := w) (ht.block _ hlt hn.2 (fun e2 => hn.1 e2.symm))]
  exact hc

theorem bl_gr {a w : World} (h : a.grownBy w none) : Below a.heap.size a w := ⟨h.os, h.tape, h.output, h.size, fun k hk => h.block k hk (by simp)⟩
theorem si_at {w : World} {A : Option Addr} {n c : Nat} {xs : List Int} (h : SI w (.slice A n c) xs) : SIat w A c xs := by
  obtain ⟨A', c', e, h⟩ := h
  injection e with e1 e2 e3
  subst e1; subst e3
  exact h
theorem app_wf {xs : List Int} {c : Nat} (h : ∀ k, I64 (xs.getD k 0)) (hc : c ≤ 1000) : ∀ k, I64 ((xs ++ [(c : Int)]).getD k 0) := by
  intro k
  rcases Nat.lt_trichotomy k xs.length with h1 | h1 | h1
  · have := h k
    simpa [List.getD, List.getElem?_append_left h1] using this
  · subst h1
    simp [List.getD]
    exact I64.of_small (by omega) (by omega)
  · simp [List.getD, List.getElem?_append_right (Nat.le_of_lt h1)]
    rw [List.getElem?_eq_none (by simp; omega)]
    exact I64.zero
theorem own_next {w w2 : World} {v v' v3 : Value} (h3 : v3.ownBlock = v'.ownBlock ∨ ∃ g, v3.ownBlock = some g ∧ w2.heap.size ≤ g) (h : v'.ownBlock = v.ownBlock ∨ ∃ g, v'.ownBlock = some g ∧ w.heap.size ≤ g) (hs : w.heap.size ≤ w2.heap.size) :
    v3.ownBlock = v.ownBlock ∨ ∃ g, v3.ownBlock = some g ∧ w.heap.size ≤ g := by
  rcases h3 with h3 | ⟨g, h3, hg⟩
  · rw [h3]; exact h
  · exact .inr ⟨g, h3, by omega⟩
end Go.Proofs.Ytlcgihjdafglmaa

/- classic.Monomials: its contract. -/
namespace Go.Proofs.Ytlcgihjdafglmaa
open Go.RowKit
set_option linter.unusedVariables false
set_option maxRecDepth 100000

/-- a new list of lists and an error code are returned -/
def RetSE (w : World) (xss : List (List Int)) (er : Int) (e : Ending) (w' : World) : Prop := ∃ u, e = .returned (.tuple #[u, .int .i64 er]) ∧ SS w' u xss ∧ New w u ∧ Below w.heap.size w w'

theorem blk2 (w : World) (o1 : Obj) (u : Value) (t : TypeId) : Blk ((w.alloc o1).alloc (.cells #[u] t)) (w.heap.size + 1) t [u] := by
  have := Blk.new (w.alloc o1) t [u]
  simpa using this
theorem box2 {w : World} {o1 : Obj} {u : Value} {t : TypeId} : ((w.alloc o1).alloc (.cells #[u] t)).cell? ⟨w.heap.size + 1, 0, none⟩ = some u := (blk2 w o1 u t).cell 0
theorem box2f {w : World} {o1 : Obj} {u : Value} {t : TypeId} : ((w.alloc o1).alloc (.cells #[u] t)).frozen? ⟨w.heap.size + 1, 0, none⟩ = false := (blk2 w o1 u t).frozen 0

theorem RetSE.nil (w : World) (er : Int) {w' : World} (h : Below w.heap.size w w') : RetSE w [] er (.returned (.tuple #[.slice none 0 0, .int .i64 er])) w' := ⟨_, rfl, SS.none_ w', New.nil w 0 0, h⟩
theorem monoTo_len (m k : Nat) : (monoTo m k).length ≤ k * (m + 1) ^ m := by
  induction k with
  | zero => simp [monoTo]
  | succ k ih =>
    rw [monoTo_succ, List.length_append, Nat.succ_mul]
    have h1 := addG_len k m m 0 []
    omega
theorem mono_room {mn k : Nat} (h : mn ≤ 6) (hk : k ≤ 7) : (monoTo mn k).length + (mn + 1) ^ mn ≤ 100000000 := by
  have h1 := monoTo_len mn k
  have h2 : (mn + 1) ^ mn ≤ 7 ^ 6 := Nat.le_trans (Nat.pow_le_pow_left (by omega) _) (Nat.pow_le_pow_right (by omega) h)
  have h3 : k * (mn + 1) ^ mn ≤ 7 * 7 ^ 6 := Nat.mul_le_mul hk h2
  have h4 : (7 : Nat) ^ 6 = 117649 := rfl
  rw [h4] at h2 h3
  omega
theorem mono_nil (w : World) (A : Option Addr) : SI w (.slice A 0 0) [] :=
  ⟨_, _, rfl, by simp, by simp, fun k hk => absurd hk (by simp), fun k => by simp [I64]⟩
theorem mono_out {w wr w3 : World} {o1 o2 o3 : Obj} {v : Value} {outs : List (List Int)} (hb : Below w.heap.size w wr) (hos : OS w.heap.size (fun g => g = w.heap.size + 1) wr v outs) (h : Two (((wr.alloc o1).alloc o2).alloc o3) w3 (w.heap.size + 1) v.ownBlock) : Below w.heap.size w w3 := by
  have h1 : Below w.heap.size w (((wr.alloc o1).alloc o2).alloc o3) := ((hb.alloc (by have := hb.size; omega) _).alloc (by have := hb.size; simp; omega) _).alloc (by have := hb.size; simp; omega) _
  exact h.below h1 (by omega) (by have := h1.size; omega) (fun g hg => (hos.lt hg).1)

end Go.Proofs.Ytlcgihjdafglmaa

/- ref11.Binomial and ref11.Subsets for at most 6 elements. -/
namespace Go.Proofs.Ytlcgihjdafglmaa
open Go.RowKit
set_option linter.unusedVariables false
set_option maxRecDepth 100000

theorem made_at {n k : Nat} (h : k < n) : (madeCells #[Value.int .i64 0] n)[k]? = some (.int .i64 0) := by
  rw [← Array.getElem?_toList, toList_madeCells_one]
  simp [h]
theorem made_set (w : World) (n i : Nat) (x : Int) : RI (w.alloc (.cells ((madeCells #[Value.int .i64 0] n).setIfInBounds i (.int .i64 x)) 3)) w.heap.size ((List.replicate n 0).set i x) := by
  have := Blk.new w 3 ((madeCells #[Value.int .i64 0] n).setIfInBounds i (.int .i64 x)).toList
  unfold RI
  rw [Array.toList_setIfInBounds, toList_madeCells_one] at this
  rw [List.map_set, List.map_replicate]
  have e : (((madeCells #[Value.int .i64 0] n).setIfInBounds i (.int .i64 x))) = ((List.replicate n (Value.int .i64 0)).set i (.int .i64 x)).toArray := by
    rw [← toList_madeCells_one, ← Array.toList_setIfInBounds]
  rw [e]
  exact this
end Go.Proofs.Ytlcgihjdafglmaa

/- ref11.Subsets for at most 6 elements. -/
namespace Go.Proofs.Ytlcgihjdafglmaa
open Go.RowKit
set_option linter.unusedVariables false
set_option maxRecDepth 100000

/-- the row 0, 1, .. as its loop lays it -/
def fillI (k : Nat) : Nat → List Int
  | 0 => List.replicate k 0
  | i + 1 => (fillI k i).set i (i : Int)
theorem fillI_len (k : Nat) : ∀ i, (fillI k i).length = k
  | 0 => by simp [fillI]
  | i + 1 => by simp [fillI, fillI_len k i]
theorem fillI_end : ∀ k : Fin 7, fillI k.val k.val = subStart k.val := by decide +kernel

theorem subNext_zero {d : Int} {k : Nat} {s : List Int} (h : subFind d s 0 = subFind d s k) : subNext d k s = s := by
  have h0 : subFind d s k = 0 := by rw [← h]; rfl
  unfold subNext; rw [h0]
theorem subNext_some {d : Int} {k q : Nat} {s : List Int} (h : subFind d s (q + 1) = subFind d s k) (hx : ¬ s.getD q 0 = d + (q : Int)) : subNext d k s = subFill (s.set q (IntKind.i64.wrap (s.getD q 0 + 1))) (q + 1) (k - (q + 1)) := by
  have h0 : subFind d s k = q + 1 := by rw [← h, subFind, if_neg hx]
  unfold subNext; rw [h0]
theorem subList_succ (d : Int) (k t : Nat) : subList d k (t + 1) = subList d k t ++ [subIter d k (subStart k) t] := by
  simp [subList, List.range_succ]
theorem row_si {w : World} {R k : Nat} {xs : List Int} (h : RI w R xs) (hl : xs.length = k) (hk : k ≤ 1000) (hw : ∀ i, I64 (xs.getD i 0)) : SI w (.slice (some ⟨R, 0, none⟩) k k) xs := by
  subst hl
  exact h.si (by omega) hw
theorem row_apart {w w2 : World} {B R : Nat} {u v : Value} {ys : List Int} {xss : List (List Int)} (h : OI w.heap.size w2 u ys) (ho : OS B (fun g => g = R) w v xss) (hR : R < w.heap.size) :
    0 < ys.length → ∀ g, u.ownBlock = some g → v.ownBlock ≠ some g ∧ ¬ g = R := fun _ g hg => by
  have h1 := (h.lt hg).1
  exact ⟨fun e => by have := (ho.lt e).2; omega, by omega⟩
theorem row_apart' {w w2 : World} {B R : Nat} {u v : Value} {ys : List Int} {xss : List (List Int)} (h : OI w.heap.size w2 u ys) (ho : OS B (fun g => g = R) w v xss) (hR : R < w.heap.size) :
    0 < ys.length → ∀ g, u.ownBlock = some g → v.ownBlock ≠ some g ∧ ¬ (fun g => g = R) g := fun _ g hg => by
  have h1 := (h.lt hg).1
  exact ⟨fun e => by have := (ho.lt e).2; omega, by show ¬ g = R; omega⟩
/-- a new list of new lists and an error code are returned -/
def RetSN (w : World) (xss : List (List Int)) (er : Int) (e : Ending) (w' : World) : Prop := ∃ u, e = .returned (.tuple #[u, .int .i64 er]) ∧ OS w.heap.size (fun g => g < w.heap.size) w' u xss ∧ Below w.heap.size w w'
theorem row_apart2 {w w2 : World} {B R B0 : Nat} {X : Nat → Prop} {u v : Value} {ys : List Int} {xss : List (List Int)} (h : OI w.heap.size w2 u ys) (ho : OS B X w v xss) (hR : R < w.heap.size) (hB : B0 ≤ w.heap.size) :
    0 < ys.length → ∀ g, u.ownBlock = some g → v.ownBlock ≠ some g ∧ ¬ (fun g => g = R ∨ g < B0) g := fun _ g hg => by
  have h1 := (h.lt hg).1
  exact ⟨fun e => by have := (ho.lt e).2; omega, by show ¬ (g = R ∨ g < B0); omega⟩
theorem set_wf {xs : List Int} {k : Nat} {x : Int} (h : ∀ i, I64 (xs.getD i 0)) (hx : I64 x) : ∀ i, I64 ((xs.set k x).getD i 0) := by
  intro i
  by_cases e : k = i ∧ i < xs.length
  · obtain ⟨rfl, hi⟩ := e
    simpa [List.getD, hi] using hx
  · have h1 := h i
    have : (xs.set k x).getD i 0 = xs.getD i 0 := by
      by_cases e2 : k = i
      · subst e2
        have : ¬ k < xs.length := fun h => e ⟨rfl, h⟩
        simp [List.getD, this]
      · simp [List.getD, List.getElem?_set_ne e2]
    rwa [this]
theorem wrap_I64 (x : Int) : I64 (IntKind.i64.wrap x) := by
  rw [IntWalk.i64_left]
  exact I64.of_wf (wrap64_wf x)
theorem subFill_wf {s : List Int} (h : ∀ i, I64 (s.getD i 0)) (j : Nat) : ∀ c, ∀ i, I64 ((subFill s j c).getD i 0)
  | 0 => h
  | c + 1 => set_wf (subFill_wf h j c) (wrap_I64 _)
theorem subIter_wf (d : Int) (k t : Nat) (hk : k ≤ 1000) : ∀ i, I64 ((subIter d k (subStart k) t).getD i 0) := by
  induction t with
  | zero =>
    intro i
    show I64 ((subStart k).getD i 0)
    by_cases h : i < k
    · simp [subStart, List.getD, h]
      exact I64.of_small (by omega) (by omega)
    · simp [subStart, List.getD, h]
      exact I64.zero
  | succ t ih =>
    show ∀ i, I64 ((subNext d k (subIter d k (subStart k) t)).getD i 0)
    unfold subNext
    split
    · exact ih
    · exact subFill_wf (set_wf ih (wrap_I64 _)) _ _

end Go.Proofs.Ytlcgihjdafglmaa

/- 'append(out, s...)' for slices of slices of ints that the call itself made. -/
namespace Go.Proofs.Ytlcgihjdafglmaa
open Go.RowKit
set_option linter.unusedVariables false
set_option maxRecDepth 100000

section
variable {ops : Array Oper} {rest : List Oper} {o : Oper} {a : Act} {w : World} {K : Act → World → Prop} {Q : Exit → Act → World → Prop} {E : Prop}
theorem wp_catS (s x : Operand)
    (ho : o.op = .call { callee := .builtin .append, args := #[s, x], argTypes := #[25, 25] })
    (B B' : Nat) (X : Nat → Prop) (v u : Value) (xss yss : List (List Int)) (hs : a.eval s = v) (hown : OS B X w v xss) (hx : a.eval x = u)
    (hu : OS B' (fun g => X g ∨ v.ownBlock = some g) w u yss)
    (hl : xss.length + yss.length ≤ 4398046511104) (hB : B ≤ w.heap.size)
    (h : ∀ v' w', OS B X w' v' (xss ++ yss) → w.grownBy w' v.ownBlock → (v'.ownBlock = v.ownBlock ∨ v'.ownBlock = some w.heap.size) → K (a.put o.dst v') w') : o.wp Try.prog a w K Q := by
  obtain ⟨i0, hi, hz0, hz1, hz2⟩ := info_parts Try.infoInts
  obtain ⟨us, ho', hin⟩ := hown
  obtain ⟨ws, hw', hwn⟩ := hu
  have hws : ws.length = yss.length := by have := hw'.1; omega
  have hus : us.length = xss.length := by have := ho'.1; omega
  rcases hw'.2 with ⟨rfl, h0⟩ | ⟨g, cap, cur, rfl, hg, hcur, hnc, hmx, hfz, htk⟩
  · obtain rfl : yss = [] := List.eq_nil_of_length_eq_zero h0
    have hrun : (Builtin.append_ #[25, 25] o.type #[v, .slice none 0 0]).run Try.prog w = .ok v w := by
      rcases ho'.2 with ⟨rfl, h0⟩ | ⟨g, cap, cur, rfl, _, _, hnc, _⟩
      · simp [Builtin.append_, run_underlying Try.underlying25, sizeOf, typeInfo, hi, Builtin.lenOf, Builtin.firstCells]
      · simp [Builtin.append_, run_underlying Try.underlying25, sizeOf, typeInfo, hi, Builtin.lenOf, Builtin.firstCells, hnc, storeCells]
    unfold Oper.wp execOp
    simp only [ho, resolve, invoke, builtin, Sem.run_bind, Sem.run_pure, Result.andThen_ok, List.map_toArray, List.map_cons, List.map_nil, hs, hx, hrun]
    exact h v w (by simpa using ⟨us, ho', hin⟩) (World.grownBy.refl _ _) (.inl rfl)
  · have hone : ∀ y ∈ ws, y.oneCell' = true := by
      intro y hy
      obtain ⟨i, hi', rfl⟩ := List.mem_iff_getElem.1 hy
      obtain ⟨u', hu', hs', _⟩ := hwn i (by omega)
      rw [List.getElem?_eq_getElem hi'] at hu'
      injection hu' with hu'
      obtain ⟨A, c, e, _⟩ := hs'
      rw [hu', e]; rfl
    obtain ⟨v', w', hrun, h1, h2, _, h4⟩ := run_append_own_at (P := Try.prog) w B 25 o.type 22 i0 (.slice none 0 0) 1 24 Try.underlying25 hi hz0 hz1 hz2 rfl (by decide) v xss.length us ho'
      ⟨g, 0, none⟩ yss.length cap ws (by omega) (fun j y hj => by
        have := World.ownsRow.cells hw' (g := g) rfl j y hj
        simpa [Addr.add] using this) hone (by unfold maxLen; omega) (by omega) hB
    unfold Oper.wp execOp
    simp only [ho, resolve, invoke, builtin, Sem.run_bind, Sem.run_pure, Result.andThen_ok, List.map_toArray, List.map_cons, List.map_nil, hs, hx, hrun]
    refine h v' w' ?_ h2 h4
    refine ⟨us ++ ws, by simpa [hws] using h1, fun i hil => ?_⟩
    rw [List.length_append] at hil
    by_cases e : i < xss.length
    · obtain ⟨y, hy, hsy, hxy⟩ := hin i e
      have hget : (xss ++ yss).getD i [] = xss.getD i [] := by simp [List.getD, List.getElem?_append_left e]
      rw [hget]
      refine ⟨y, by rw [List.getElem?_append_left (by omega)]; exact hy, hsy.grown h2 (fun h0 g' hg' => (hxy h0 g' hg').1), fun h0 g' hg' => ⟨?_, (hxy h0 g' hg').2⟩⟩
      rcases h4 with h4 | h4
      · rw [h4]; exact (hxy h0 g' hg').1
      · rw [h4]; intro e2; have := hsy.lt h0 hg'; injection e2 with e2; omega
    · obtain ⟨y, hy, hsy, hxy⟩ := hwn (i - xss.length) (by omega)
      have hget : (xss ++ yss).getD i [] = yss.getD (i - xss.length) [] := by simp [List.getD, List.getElem?_append_right (show xss.length ≤ i by omega)]
      rw [hget]
      refine ⟨y, by rw [List.getElem?_append_right (by omega), hus]; exact hy, hsy.grown h2 (fun h0 g' hg' e2 => (hxy h0 g' hg').2 (.inr e2)), fun h0 g' hg' => ⟨?_, fun hX => (hxy h0 g' hg').2 (.inl hX)⟩⟩
      rcases h4 with h4 | h4
      · rw [h4]; exact fun e2 => (hxy h0 g' hg').2 (.inr e2)
      · rw [h4]; intro e2; have := hsy.lt h0 hg'; injection e2 with e2; omega
theorem wpList_catS (hg : o.guard = none) (s x : Operand)
    (ho : o.op = .call { callee := .builtin .append, args := #[s, x], argTypes := #[25, 25] })
    (B B' : Nat) (X : Nat → Prop) (v u : Value) (xss yss : List (List Int)) (hs : a.eval s = v) (hown : OS B X w v xss) (hx : a.eval x = u)
    (hu : OS B' (fun g => X g ∨ v.ownBlock = some g) w u yss)
    (hl : xss.length + yss.length ≤ 4398046511104) (hB : B ≤ w.heap.size)
    (h : ∀ v' w', OS B X w' v' (xss ++ yss) → w.grownBy w' v.ownBlock → (v'.ownBlock = v.ownBlock ∨ v'.ownBlock = some w.heap.size) → wpList Try.prog ops Q rest (a.put o.dst v') w') : wpList Try.prog ops Q (o :: rest) a w :=
  wpList_plain hg fun K hK => wp_catS s x ho B B' X v u xss yss hs hown hx hu hl hB fun v' w' h1 h2 h3 => hK _ _ (h v' w' h1 h2 h3)
end

theorem catS_src {w w1 : World} {X : Nat → Prop} {v u : Value} {B : Nat} {xss yss : List (List Int)} (h : OS w.heap.size (fun g => g < w.heap.size) w1 u yss) (hv : OS B X w v xss) (hX : ∀ g, X g → g < w.heap.size) :
    OS w.heap.size (fun g => X g ∨ v.ownBlock = some g) w1 u yss :=
  h.names fun g _ hg => hg.elim (hX g) fun e => (hv.lt e).2
end Go.Proofs.Ytlcgihjdafglmaa

/- 'append(out, s...)' for slices of slices of ints that the call itself made; ref15.Monomials. -/
namespace Go.Proofs.Ytlcgihjdafglmaa
open Go.RowKit
set_option linter.unusedVariables false
set_option maxRecDepth 100000

end Go.Proofs.Ytlcgihjdafglmaa

/- ref11.Compare, ref11.Same; ref11.IsSubset. -/
namespace Go.Proofs.Ytlcgihjdafglmaa
open Go.RowKit
set_option linter.unusedVariables false
set_option maxRecDepth 100000

/-- the comparison of two lists -/
def compareF : List Int → List Int → Int
  | [], [] => 0
  | [], _ :: _ => -1
  | _ :: _, [] => 1
  | x :: a, y :: b => if x < y then -1 else if y < x then 1 else compareF a b
theorem compareF_zero : ∀ a b : List Int, compareF a b = 0 ↔ a = b
  | [], [] => by simp [compareF]
  | [], _ :: _ => by simp [compareF]
  | _ :: _, [] => by simp [compareF]
  | x :: a, y :: b => by
    unfold compareF
    have ih := compareF_zero a b
    by_cases h1 : x < y
    · rw [if_pos h1]; simp; omega
    · rw [if_neg h1]
      by_cases h2 : y < x
      · rw [if_pos h2]; simp; omega
      · rw [if_neg h2, ih]
        have : x = y := by omega
        simp [this]
theorem compareF_same_at : ∀ (k : Nat) (a b : List Int), (∀ j, j < k → a.getD j 0 = b.getD j 0) → k ≤ a.length → k ≤ b.length → compareF a b = compareF (a.drop k) (b.drop k)
  | 0, a, b, _, _, _ => by simp
  | k + 1, [], _, _, h, _ => absurd h (by simp)
  | k + 1, _ :: _, [], _, _, h => absurd h (by simp)
  | k + 1, x :: a, y :: b, h, ha, hb => by
    have h0 : x = y := by have := h 0 (by omega); simpa using this
    subst h0
    rw [compareF, if_neg (by omega), if_neg (by omega), compareF_same_at k a b (fun j hj => by have := h (j + 1) (by omega); simpa using this) (by simpa using ha) (by simpa using hb)]
    rfl
theorem drop_getD {a : List Int} {k : Nat} (h : k < a.length) : a.drop k = a.getD k 0 :: a.drop (k + 1) := by
  rw [List.drop_eq_getElem_cons h]; simp [List.getD, h]

/-- IsSubset's answer -/
def subsetB (n : Int) (s : List Int) : Bool := decide (SubsetP n s)

end Go.Proofs.Ytlcgihjdafglmaa

/- majority.mask: the variables as bits. -/
namespace Go.Proofs.Ytlcgihjdafglmaa
open Go.RowKit

theorem or_step (m : Nat) (x : Int) (hm : m < 64) (_ : 0 ≤ x) (h1 : x < 6) : bits .or .i64 (m : Int) (wrap64 (2 ^ x.toNat)) = ((m ||| 2 ^ x.toNat : Nat) : Int) := by
  have hp := pow_lt_64 h1
  rw [show ((2 : Int) ^ x.toNat) = ((2 ^ x.toNat : Nat) : Int) by simp]
  generalize 2 ^ x.toNat = q at *
  rw [IntWalk.wrap64_in _ ⟨by omega, by omega⟩, i64_or_nat m _ (by omega) (by omega)]

set_option maxHeartbeats 400000 in
theorem mask_any (w : World) (v : Value) (xs : List Int) (h : SI w v xs) (hx : ∀ k, k < xs.length → 0 ≤ xs.getD k 0 ∧ xs.getD k 0 < 6) :
    Calls Try.prog 95 #[v] w fun e w' => e = .returned (.int .i64 (maskN xs)) ∧ w = w' := by
  obtain ⟨A, c, rfl, h⟩ := h
  have hn := h.len
  go_enter Try.func95, Try.ntmps95
  go_wp2
  go_loop [3, 8] (fun m i => ∃ (k : Nat), k ≤ xs.length ∧ i = .int .i64 k ∧ m = .int .i64 (maskN (xs.take k))) (fun _ i => xs.length - (intOf i).toNat)
  case atStart => exact ⟨0, Nat.zero_le _, rfl, rfl⟩
  case round =>
    obtain ⟨k, hk, rfl, rfl⟩ := hrel
    have H := Lib.hid h; clear h
    have HX := Lib.hid hx; clear hx
    by_cases hlt : k < xs.length
    · obtain ⟨ad, rfl, hc⟩ := H.out.cell k hlt
      have hxk := HX.out k hlt
      obtain ⟨hx0, hx1⟩ := hxk
      have hstep := or_step (maskN (xs.take k)) (xs.getD k 0) (maskN_lt _ (all_take fun i hi hi' => (HX.out i hi').2)) hx0 hx1
      have hS := Lib.hid hstep; clear hstep
      have hts := take_snoc xs k hlt
      have hT := Lib.hid hts; clear hts
      generalize hgx : xs.getD k 0 = x at *
      have HG := Lib.hid hgx; clear hgx
      go_wp2
      go_round
      case rel => exact ⟨k + 1, by omega, by go_num, by rw [hS.out, hT.out, maskN_snoc]⟩
      case measure => simp [intOf]; omega
    · go_wp2
      go_ret
      exact ⟨by first | rfl | (rw [List.take_of_length_le (by omega)]; rfl), rfl⟩
end Go.Proofs.Ytlcgihjdafglmaa

/- classic.Evaluate: the values of a monomial. -/
namespace Go.Proofs.Ytlcgihjdafglmaa
open Go.RowKit
set_option linter.unusedVariables false
set_option maxRecDepth 100000

theorem sub_bad {m : Int} {vars : List Int} {k : Nat} (hk : k < vars.length) (h : ¬ (0 ≤ vars.getD k 0 ∧ vars.getD k 0 < m) ∨ (0 < k ∧ vars.getD k 0 ≤ vars.getD (k - 1) 0)) : ¬ SubsetP m vars := by
  intro hs
  have := hs k hk
  omega

/-- the list that holds the values of the points below k, and 0 behind -/
def evalTo (m : Int) (vars : List Int) (k : Nat) : List Int := (List.range (2 ^ m.toNat)).map fun p => if p < k then (if p &&& maskN vars = maskN vars then 1 else 0) else 0
theorem evalTo_zero (m : Int) (vars : List Int) : evalTo m vars 0 = List.replicate (2 ^ m.toNat) 0 := by
  unfold evalTo
  simp [List.map_const']
theorem evalTo_full (m : Int) (vars : List Int) : evalTo m vars (2 ^ m.toNat) = evalF m vars := by
  unfold evalTo evalF
  exact List.map_congr_left fun p hp => by rw [if_pos (by simpa using hp)]
theorem length_evalTo (m : Int) (vars : List Int) (k : Nat) : (evalTo m vars k).length = 2 ^ m.toNat := by simp [evalTo]
theorem evalTo_getD (m : Int) (vars : List Int) (k : Nat) : (evalTo m vars k).getD k 0 = 0 := by
  unfold evalTo
  by_cases h : k < 2 ^ m.toNat <;> simp [List.getD, h]
theorem evalTo_yes (m : Int) (vars : List Int) (k : Nat) (hy : k &&& maskN vars = maskN vars) : evalTo m vars (k + 1) = (evalTo m vars k).set k 1 := by
  apply List.ext_getElem?
  intro i
  by_cases hi : i < 2 ^ m.toNat
  · by_cases e : k = i
    · subst e; simp [evalTo, hi, hy]
    · have h2 : (i < k + 1) = (i < k) := by simp; omega
      simp [evalTo, List.getElem?_set, e, hi, h2]
  · simp [evalTo, List.getElem?_set, hi]
theorem evalTo_no (m : Int) (vars : List Int) (k : Nat) (hn : ¬ k &&& maskN vars = maskN vars) : evalTo m vars (k + 1) = evalTo m vars k := by
  unfold evalTo
  refine List.map_congr_left fun p hp => ?_
  by_cases e : p = k
  · subst e; simp [hn]
  · have h2 : (p < k + 1) = (p < k) := by simp; omega
    simp [h2]
theorem and_beq (k m : Nat) (hk : k < 64) (hm : m < 64) : (bits .and .i64 (k : Int) (m : Int) == (m : Int)) = decide (k &&& m = m) := by
  rw [i64_and_nat k m (by omega) (by omega)]
  by_cases h : k &&& m = m
  · rw [h]; simp
  · have : ((k &&& m : Nat) : Int) ≠ (m : Int) := by omega
    simp [h, this]
theorem i64_evalTo (m : Int) (vars : List Int) (k i : Nat) : I64 ((evalTo m vars k).getD i 0) := by
  unfold evalTo
  by_cases hi : i < 2 ^ m.toNat
  · simp only [List.getD, List.getElem?_map, List.getElem?_range hi, Option.map_some, Option.getD_some]
    split
    · split <;> exact I64.of_small (by omega) (by omega)
    · exact I64.of_small (by omega) (by omega)
  · simp [List.getD, hi]; exact I64.of_small (by omega) (by omega)

set_option maxHeartbeats 1000000 in
theorem eval_range (w : World) (m : Int) (v : Value) (vars : List Int) (h : SI w v vars) (hm : m < 0 ∨ 6 < m) :
    Calls Try.prog 44 #[.int .i64 m, v] w (RetLE w [] 6) := by
  obtain ⟨A, c, rfl, h⟩ := h
  clear h
  rcases hm with hm | hm
  · go_enter Try.func44, Try.ntmps44
    go_wp2
    go_ret2
    exact RetLE.nil w 6 (Below.refl _ _)
  · have hm0 : ¬ m < 0 := by omega
    go_enter Try.func44, Try.ntmps44
    go_wp2
    go_ret2
    exact RetLE.nil w 6 (Below.refl _ _)

set_option maxHeartbeats 2000000 in
theorem eval_in (w : World) (m : Int) (v : Value) (vars : List Int) (h : SI w v vars) (hm0 : 0 ≤ m) (hm6 : m ≤ 6) :
    Calls Try.prog 44 #[.int .i64 m, v] w (RetLE w (evalSpec m vars).1 (evalSpec m vars).2) := by
  obtain ⟨A, c, rfl, h⟩ := h
  have hn := h.len
  have hmk := two_pow_le hm6
  generalize hN : 2 ^ m.toNat = N at *
  have HN := Lib.hid hN; clear hN
  obtain ⟨i0, hi, hz0, hz1, hz2⟩ := info_parts Try.infoInt
  go_enter Try.func44, Try.ntmps44
  go_wp2
  go_loop [6, 19] (fun mk i => ∃ (k : Nat), k ≤ vars.length ∧ i = .int .i64 k ∧ mk = .int .i64 (maskN (vars.take k)) ∧ Hid (∀ i, i < k → (0 ≤ vars.getD i 0 ∧ vars.getD i 0 < m) ∧ (0 < i → vars.getD (i - 1) 0 < vars.getD i 0))) (fun _ i => vars.length - (intOf i).toNat)
  case atStart => exact ⟨0, Nat.zero_le _, rfl, rfl, Lib.hid fun i hi => absurd hi (by omega)⟩
  case round =>
    obtain ⟨k, hk, rfl, rfl, HG⟩ := hrel
    have H := Lib.hid h; clear h
    by_cases hlt : k < vars.length
    · obtain ⟨ad, rfl, hc⟩ := H.out.cell k hlt
      have HX : Hid (vars.getD k 0 = vars.getD k 0) := rfl
      have hbad := @sub_bad m vars k hlt
      have HB := Lib.hid hbad; clear hbad
      have HS : Hid (0 ≤ vars.getD k 0 → vars.getD k 0 < 6 → bits .or .i64 (maskN (vars.take k) : Int) (wrap64 (2 ^ (vars.getD k 0).toNat)) = (maskN (vars.take (k + 1)) : Int)) := fun h0 h1 => by
        rw [or_step _ _ (maskN_lt _ (all_take fun i hi hi' => by have := HG.out i hi; omega)) h0 h1, take_snoc vars k hlt, maskN_snoc]
      by_cases hpos : 0 < k
      · obtain ⟨ad', e', hc'⟩ := H.out.cell (k - 1) (by omega)
        obtain rfl := Option.some.inj e'
        generalize hx : vars.getD k 0 = x at *
        generalize hy : vars.getD (k - 1) 0 = y at *
        have HXX := Lib.hid hx; clear hx
        have HYY := Lib.hid hy; clear hy
        have hpz : (0 : Int) < (k : Int) := by omega
        have hkm : ((k : Int) - 1).toNat = k - 1 := by omega
        clear HX
        go_wp2
        all_goals first
          | (go_round
             case rel => exact ⟨k + 1, by omega, by go_num, by rw [HS.out (by omega) (by omega)], hid' fun i hi => by
               by_cases e : i = k
               · subst e; rw [HXX.out, HYY.out]; omega
               · exact HG.out i (by omega)⟩
             case measure => simp [intOf]; omega)
          | (go_ret2
             rw [evalSpec_bad hm0 hm6 (HB.out (by omega))]
             exact RetLE.nil w 5 (Below.refl _ _))
      · have hk0 : Hid (k = 0) := by have h0 : k = 0 := by omega
                                     exact h0
        have hpz : ¬ (0 : Int) < (k : Int) := by omega
        generalize hx : vars.getD k 0 = x at *
        have HXX := Lib.hid hx; clear hx
        clear HX
        go_wp2
        all_goals first
          | (go_round
             case rel => exact ⟨k + 1, by omega, by go_num, by rw [HS.out (by omega) (by omega)], hid' fun i hi => by
               have e0 := hk0.out
               have e : i = k := by omega
               subst e; rw [HXX.out]; omega⟩
             case measure => simp [intOf]; omega)
          | (go_ret2
             rw [evalSpec_bad hm0 hm6 (HB.out (by omega))]
             exact RetLE.nil w 5 (Below.refl _ _))
    · obtain rfl : k = vars.length := by omega
      have hs : SubsetP m vars := HG.out
      have HE : Hid (evalSpec m vars = (evalF m vars, 0)) := evalSpec_ok hm0 hm6 hs
      have hlt64 := maskN_lt vars (fun x hx => by
        obtain ⟨i, hi, he⟩ := List.mem_iff_getElem.1 hx
        have := (hs i hi).1.2
        simp [List.getD, hi] at this
        omega)
      rw [List.take_length]
      clear HG hs
      generalize hM : maskN vars = M at *
      have HM := Lib.hid hM; clear hM
      have hp2 : (2 : Int) ^ m.toNat = (N : Int) := by rw [← HN.out]; simp
      have hmki := run_mkI N (by omega)
      go_wp2
      clear hmki
      have HO : Hid (OI w.heap.size (w.alloc (.cells (madeCells #[.int .i64 0] N) 3)) (.slice (some ⟨w.heap.size, 0, none⟩) N N) (evalTo m vars 0)) := by
        rw [evalTo_zero, HN.out]; exact OI.made w N (Nat.le_refl _) (by omega)
      have HL : Hid (∀ k, (evalTo m vars k).length = N) := fun k => by rw [length_evalTo, HN.out]
      go_loopw [54] (fun i wr => ∃ (k : Nat), k ≤ N ∧ i = .int .i64 k ∧ Hid (OI w.heap.size wr (.slice (some ⟨w.heap.size, 0, none⟩) N N) (evalTo m vars k)) ∧ Below w.heap.size w wr) (fun i _ => N - (intOf i).toNat)
      case atStart => exact ⟨0, Nat.zero_le _, rfl, HO, (Below.refl _ _).alloc (Nat.le_refl _) _⟩
      case round =>
        obtain ⟨k, hkN, rfl, HOk, hb⟩ := hrel
        by_cases hltN : k < N
        · have hcell := HOk.out.cell k (by rw [HL.out]; exact hltN)
          have hfr := HOk.out.frozen k
          rw [evalTo_getD] at hcell
          have htest := and_beq k M (by omega) hlt64
          by_cases hy : k &&& M = M
          · rw [decide_eq_true hy] at htest
            have HY := Lib.hid hy; clear hy
            go_wp2
            go_roundw
            case rel => exact ⟨k + 1, by omega, by go_num, by rw [evalTo_yes m vars k (by rw [HM.out]; exact HY.out)]; exact HOk.out.set k 1, hb.setCell (Nat.le_refl _) _⟩
            case measure => simp [intOf]; omega
          · rw [decide_eq_false hy] at htest
            have HY := Lib.hid hy; clear hy
            go_wp2
            go_roundw
            case rel => exact ⟨k + 1, by omega, by go_num, by rw [evalTo_no m vars k (by rw [HM.out]; exact HY.out)]; exact HOk, hb⟩
            case measure => simp [intOf]; omega
        · obtain rfl : k = N := by omega
          go_wp2
          go_ret2
          rw [HE.out]
          have e2 : evalF m vars = evalTo m vars k := by rw [← HN.out]; exact (evalTo_full m vars).symm
          refine ⟨_, rfl, ?_, HOk.out.new (Nat.le_refl _), hb⟩
          rw [e2]
          exact HOk.out.si (by rw [HL.out]; omega) (fun i => i64_evalTo m vars _ i)

/-- classic.Evaluate, whole -/
theorem eval_any (w : World) (m : Int) (v : Value) (vars : List Int) (h : SI w v vars) :
    Calls Try.prog 44 #[.int .i64 m, v] w (RetLE w (evalSpec m vars).1 (evalSpec m vars).2) := by
  by_cases h0 : m < 0
  · rw [evalSpec_lo vars h0]; exact eval_range w m v vars h (.inl h0)
  · by_cases h6 : 6 < m
    · rw [evalSpec_hi vars h6]; exact eval_range w m v vars h (.inr h6)
    · exact eval_in w m v vars h (by omega) (by omega)
end Go.Proofs.Ytlcgihjdafglmaa

/- ref15.Evaluate: the reference's values of a monomial. -/
namespace Go.Proofs.Ytlcgihjdafglmaa
open Go.RowKit
set_option linter.unusedVariables false
set_option maxRecDepth 100000

/-- the value at the point p, of the first j variables -/
def bitAll (p : Nat) (l : List Int) : Int := if ∀ v ∈ l, p.testBit v.toNat = true then 1 else 0
/-- the list whose first k entries are done, and the entry k for the first j variables; 0 behind -/
def revTo (N : Nat) (vars : List Int) (k : Nat) : List Int := (List.range N).map fun p => if p < k then bitAll p vars else 0
def revAt (N : Nat) (vars : List Int) (k j : Nat) : List Int := (revTo N vars k).set k (bitAll k (vars.take j))
theorem revTo_zero (N : Nat) (vars : List Int) : revTo N vars 0 = List.replicate N 0 := by simp [revTo, List.map_const']
theorem revTo_len (N : Nat) (vars : List Int) (k : Nat) : (revTo N vars k).length = N := by simp [revTo]
theorem revAt_len (N : Nat) (vars : List Int) (k j : Nat) : (revAt N vars k j).length = N := by simp [revAt, revTo]
theorem revAt_zero (N : Nat) (vars : List Int) (k : Nat) : (revTo N vars k).set k 1 = revAt N vars k 0 := by simp [revAt, bitAll]
theorem bitAll_snoc_no {p : Nat} {l : List Int} {x : Int} (h : p.testBit x.toNat = false) : bitAll p (l ++ [x]) = 0 := by
  unfold bitAll; rw [if_neg]; intro hh; have := hh x (by simp); rw [h] at this; simp at this
theorem bitAll_snoc_yes {p : Nat} {l : List Int} {x : Int} (h : p.testBit x.toNat = true) : bitAll p (l ++ [x]) = bitAll p l := by
  unfold bitAll
  by_cases hl : ∀ v ∈ l, p.testBit v.toNat = true
  · rw [if_pos hl, if_pos]; intro v hv; rcases List.mem_append.1 hv with hv | hv
    · exact hl v hv
    · simp at hv; subst hv; exact h
  · rw [if_neg hl, if_neg]; intro hh; exact hl fun v hv => hh v (by simp [hv])
theorem revAt_no (N : Nat) {vars : List Int} {k j : Nat} (hj : j < vars.length) (h : k.testBit (vars.getD j 0).toNat = false) : (revAt N vars k j).set k 0 = revAt N vars k (j + 1) := by
  unfold revAt; rw [take_snoc vars j hj, bitAll_snoc_no h]; simp
theorem revAt_yes (N : Nat) {vars : List Int} {k j : Nat} (hj : j < vars.length) (h : k.testBit (vars.getD j 0).toNat = true) : revAt N vars k j = revAt N vars k (j + 1) := by
  unfold revAt; rw [take_snoc vars j hj, bitAll_snoc_yes h]
theorem revAt_end (N : Nat) (vars : List Int) (k : Nat) : revAt N vars k vars.length = revTo N vars (k + 1) := by
  unfold revAt
  rw [List.take_length]
  apply List.ext_getElem?
  intro i
  by_cases hi : i < N
  · by_cases e : k = i
    · subst e; simp [revTo, hi]
    · have h2 : (i < k + 1) = (i < k) := by simp; omega
      simp [revTo, List.getElem?_set, e, hi, h2]
  · simp [revTo, List.getElem?_set, hi]
theorem revTo_full (m : Int) (vars : List Int) : revTo (2 ^ m.toNat) vars (2 ^ m.toNat) = evalF m vars := by
  unfold revTo evalF
  refine List.map_congr_left fun p hp => ?_
  rw [if_pos (by simpa using hp)]
  unfold bitAll
  by_cases h : p &&& maskN vars = maskN vars
  · rw [if_pos h, if_pos ((and_maskN vars p).1 h)]
  · rw [if_neg h, if_neg (fun hh => h ((and_maskN vars p).2 hh))]
theorem i64_revTo (N : Nat) (vars : List Int) (k i : Nat) : I64 ((revTo N vars k).getD i 0) := by
  unfold revTo
  by_cases hi : i < N
  · simp only [List.getD, List.getElem?_map, List.getElem?_range hi, Option.map_some, Option.getD_some, bitAll]
    split
    · split <;> exact I64.of_small (by omega) (by omega)
    · exact I64.of_small (by omega) (by omega)
  · simp [List.getD, hi]; exact I64.of_small (by omega) (by omega)

theorem subsetB_true {n : Int} {s : List Int} (h : SubsetP n s) : subsetB n s = true := decide_eq_true h
theorem subsetB_false {n : Int} {s : List Int} (h : ¬ SubsetP n s) : subsetB n s = false := decide_eq_false h

/-- the test of one bit, as the walk has it -/
theorem bit_test {k : Nat} {x : Int} (hk : k < 64) (h0 : 0 ≤ x) (h6 : x < 6) : (bits .and .i64 ((k : Int) / 2 ^ x.toNat) 1 == 0) = !(k.testBit x.toNat) := by
  rw [show ((k : Int) / 2 ^ x.toNat) = ((k / 2 ^ x.toNat : Nat) : Int) by simp, show (1 : Int) = ((1 : Nat) : Int) from rfl]
  have hle : k / 2 ^ x.toNat ≤ k := Nat.div_le_self _ _
  rw [i64_and_nat _ _ (by omega) (by omega), Nat.testBit_eq_decide_div_mod_eq]
  have h2 : k / 2 ^ x.toNat &&& 1 = k / 2 ^ x.toNat % 2 := Nat.and_one_is_mod _
  rw [h2]
  have h3 : k / 2 ^ x.toNat % 2 = 0 ∨ k / 2 ^ x.toNat % 2 = 1 := by omega
  rcases h3 with h3 | h3 <;> simp [h3]

end Go.Proofs.Ytlcgihjdafglmaa

/- Plain facts on votes: sums over the points that differ in the variables of a mask. No program in sight. -/
namespace Go.Proofs.Ytlcgihjdafglmaa

/-- the sum of the entries of y at the points below n that f takes -/
def sumIf : Nat → (Nat → Bool) → List Int → Int
  | 0, _, _ => 0
  | n + 1, f, y => sumIf n f y + (if f n then y.getD n 0 else 0)

theorem sumIf_congr {f g : Nat → Bool} (y : List Int) : ∀ n, (∀ s, s < n → f s = g s) → sumIf n f y = sumIf n g y
  | 0, _ => rfl
  | n + 1, h => by
    unfold sumIf
    rw [sumIf_congr y n (fun s hs => h s (by omega)), h n (by omega)]
theorem sumIf_none {f : Nat → Bool} (y : List Int) : ∀ n, (∀ s, s < n → f s = false) → sumIf n f y = 0
  | 0, _ => rfl
  | n + 1, h => by
    unfold sumIf
    rw [sumIf_none y n (fun s hs => h s (by omega)), h n (by omega)]
    simp
/-- one point more -/
theorem sumIf_more {f g : Nat → Bool} (y : List Int) {s0 : Nat} (h0 : f s0 = false) (h1 : g s0 = true) : ∀ n, (∀ s, s < n → s ≠ s0 → g s = f s) → s0 < n → sumIf n g y = sumIf n f y + y.getD s0 0
  | 0, _, h => absurd h (by omega)
  | n + 1, h, hs => by
    unfold sumIf
    by_cases e : s0 = n
    · subst e
      rw [sumIf_congr y s0 (fun s hs => h s (by omega) (by omega)), h0, h1]
      simp
    · rw [sumIf_more y h0 h1 n (fun s hs => h s (by omega)) (by omega), h n (by omega) (by omega)]
      omega

/-- the votes -/
def votesF (y : List Int) (mask : Nat) : List Int := ((List.range y.length).filter fun p => p &&& mask == 0).map fun p => sumIf y.length (fun s => s ^^^ (s &&& mask) == p) y % 2
/-- the votes of the points below k -/
def votesTo (y : List Int) (mask k : Nat) : List Int := ((List.range k).filter fun p => p &&& mask == 0).map fun p => sumIf y.length (fun s => s ^^^ (s &&& mask) == p) y % 2
theorem votesTo_zero (y : List Int) (mask : Nat) : votesTo y mask 0 = [] := rfl
theorem votesTo_full (y : List Int) (mask : Nat) : votesTo y mask y.length = votesF y mask := rfl
theorem votesTo_yes (y : List Int) (mask k : Nat) (h : k &&& mask = 0) : votesTo y mask (k + 1) = votesTo y mask k ++ [sumIf y.length (fun s => s ^^^ (s &&& mask) == k) y % 2] := by
  simp [votesTo, List.range_succ, List.filter_append, h]
theorem votesTo_no (y : List Int) (mask k : Nat) (h : ¬ k &&& mask = 0) : votesTo y mask (k + 1) = votesTo y mask k := by
  simp [votesTo, List.range_succ, List.filter_append, h]
theorem votesTo_len (y : List Int) (mask k : Nat) : (votesTo y mask k).length ≤ k := by
  unfold votesTo
  rw [List.length_map]
  have := List.length_filter_le (fun p => p &&& mask == 0) (List.range k)
  simpa using this
theorem votesTo_bits (y : List Int) (mask k i : Nat) : (votesTo y mask k).getD i 0 = 0 ∨ (votesTo y mask k).getD i 0 = 1 := by
  by_cases h : i < (votesTo y mask k).length
  · rw [List.getD_eq_getElem?_getD, List.getElem?_eq_getElem h, Option.getD_some]
    have hm : (votesTo y mask k)[i] ∈ votesTo y mask k := List.getElem_mem h
    unfold votesTo at hm
    obtain ⟨p, _, hp⟩ := List.mem_map.1 hm
    change (votesTo y mask k)[i] = 0 ∨ (votesTo y mask k)[i] = 1
    unfold votesTo
    rw [← hp]
    omega
  · rw [List.getD_eq_getElem?_getD, List.getElem?_eq_none (by omega)]; simp

/-- the points that were summed when the submask sub comes next -/
def doneB (mask p sub s : Nat) : Bool := s ^^^ (s &&& mask) == p && decide (sub < s &&& mask)

theorem submasks : ((List.range 64).all fun mask => (List.range 64).all fun sub => (sub &&& mask != sub) || (List.range sub).all fun t => (t &&& mask != t) || decide (t ≤ ((sub - 1) &&& mask))) = true := by decide +kernel
theorem submask_next {mask sub t : Nat} (hm : mask < 64) (hs : sub &&& mask = sub) (ht : t &&& mask = t) (h : t < sub) : t ≤ (sub - 1) &&& mask := by
  have hsub : sub < 64 := by rw [← hs]; exact Nat.lt_of_le_of_lt Nat.and_le_right hm
  have h1 := List.all_eq_true.1 submasks mask (List.mem_range.2 hm)
  have h2 := List.all_eq_true.1 h1 sub (List.mem_range.2 hsub)
  rw [Bool.or_eq_true] at h2
  rcases h2 with h2 | h2
  · simp [hs] at h2
  · have h3 := List.all_eq_true.1 h2 t (List.mem_range.2 h)
    rw [Bool.or_eq_true] at h3
    rcases h3 with h3 | h3
    · simp [ht] at h3
    · simpa using h3
theorem and_and_self' (s mask : Nat) : (s &&& mask) &&& mask = s &&& mask := by rw [Nat.and_assoc, Nat.and_self]
theorem point_iff {mask p sub s : Nat} (hp : p &&& mask = 0) (hs : sub &&& mask = sub) : (s ^^^ (s &&& mask) = p ∧ s &&& mask = sub) ↔ s = p ||| sub := by
  constructor
  · rintro ⟨h1, h2⟩
    rw [← h1, ← h2]
    apply Nat.eq_of_testBit_eq
    intro i
    simp only [Nat.testBit_or, Nat.testBit_xor, Nat.testBit_and]
    cases s.testBit i <;> cases mask.testBit i <;> rfl
  · rintro rfl
    have hpb : ∀ i, (p.testBit i && mask.testBit i) = false := fun i => by rw [← Nat.testBit_and, hp]; simp
    have hsb : ∀ i, (sub.testBit i && mask.testBit i) = sub.testBit i := fun i => by rw [← Nat.testBit_and, hs]
    constructor
    · apply Nat.eq_of_testBit_eq
      intro i
      have a1 := hpb i
      have a2 := hsb i
      simp only [Nat.testBit_or, Nat.testBit_xor, Nat.testBit_and]
      revert a1 a2
      cases p.testBit i <;> cases sub.testBit i <;> cases mask.testBit i <;> simp
    · apply Nat.eq_of_testBit_eq
      intro i
      have a1 := hpb i
      have a2 := hsb i
      simp only [Nat.testBit_or, Nat.testBit_and]
      revert a1 a2
      cases p.testBit i <;> cases sub.testBit i <;> cases mask.testBit i <;> simp
theorem doneB_start (y : List Int) (mask p : Nat) : sumIf y.length (doneB mask p mask) y = 0 :=
  sumIf_none y _ fun s _ => by
    have : s &&& mask ≤ mask := Nat.and_le_right
    simp only [doneB, Bool.and_eq_false_iff, decide_eq_false_iff_not]
    right; omega
/-- the submask sub is summed: the next one, or the end -/
theorem doneB_step (y : List Int) {mask p sub : Nat} (hm : mask < 64) (hp : p &&& mask = 0) (hs : sub &&& mask = sub) (h0 : 0 < sub) (hin : (p ||| sub) < y.length) :
    sumIf y.length (doneB mask p ((sub - 1) &&& mask)) y = sumIf y.length (doneB mask p sub) y + y.getD (p ||| sub) 0 := by
  have hlt : (sub - 1) &&& mask < sub := Nat.lt_of_le_of_lt Nat.and_le_left (by omega)
  have hpt := (point_iff (s := p ||| sub) hp hs).2 rfl
  refine sumIf_more y ?_ ?_ _ (fun s _ hne => ?_) hin
  · unfold doneB; rw [hpt.1, hpt.2]; simp
  · unfold doneB; rw [hpt.1, hpt.2]; simp [hlt]
  · simp only [doneB]
    by_cases e : s ^^^ (s &&& mask) = p
    · have hne' : s &&& mask ≠ sub := fun h => hne ((point_iff hp hs).1 ⟨e, h⟩)
      have key : ((sub - 1) &&& mask < s &&& mask) ↔ (sub < s &&& mask) := by
        constructor
        · intro h
          rcases Nat.lt_trichotomy (s &&& mask) sub with hl | hl | hl
          · have := submask_next hm hs (and_and_self' s mask) hl; omega
          · exact absurd hl hne'
          · exact hl
        · intro h; omega
      rw [decide_eq_decide.2 key]
    · rw [show (s ^^^ (s &&& mask) == p) = false from beq_eq_false_iff_ne.2 e]; simp only [Bool.false_and]
theorem doneB_end (y : List Int) {mask p : Nat} (hp : p &&& mask = 0) (hin : p < y.length) :
    sumIf y.length (fun s => s ^^^ (s &&& mask) == p) y = sumIf y.length (doneB mask p 0) y + y.getD (p ||| 0) 0 := by
  have hpt := (point_iff (s := p ||| 0) hp (Nat.zero_and mask)).2 rfl
  refine sumIf_more y ?_ ?_ _ (fun s _ hne => ?_) (by simpa using hin)
  · unfold doneB; rw [hpt.1, hpt.2]; simp
  · rw [hpt.1]; simp
  · simp only [doneB]
    by_cases e : s ^^^ (s &&& mask) = p
    · have hne' : s &&& mask ≠ 0 := fun h => hne ((point_iff hp (Nat.zero_and mask)).1 ⟨e, h⟩)
      have h1 : 0 < s &&& mask := by omega
      simp [e, h1]
    · simp [e]

theorem sumIf_bounds {f : Nat → Bool} {y : List Int} (hy : ∀ k, k < y.length → y.getD k 0 = 0 ∨ y.getD k 0 = 1) : ∀ n, n ≤ y.length → 0 ≤ sumIf n f y ∧ sumIf n f y ≤ n
  | 0, _ => by simp [sumIf]
  | n + 1, h => by
    have ih := sumIf_bounds (f := f) hy n (by omega)
    have hb := hy n (by omega)
    unfold sumIf
    cases f n
    · simp; omega
    · rcases hb with hb | hb <;> simp only [hb, if_true] <;> omega
theorem maskN_lt_of (l : List Int) {b : Int} (hb : 0 ≤ b) (h : ∀ x ∈ l, 0 ≤ x ∧ x < b) : maskN l < 2 ^ b.toNat := by
  have key : ∀ (l : List Int) (a : Nat), a < 2 ^ b.toNat → (∀ x ∈ l, 0 ≤ x ∧ x < b) → l.foldl (fun m v => m ||| 2 ^ v.toNat) a < 2 ^ b.toNat := by
    intro l
    induction l with
    | nil => intro a ha _; simpa using ha
    | cons c l ih =>
      intro a ha hl
      simp only [List.foldl_cons]
      have hc := hl c (by simp)
      exact ih _ (Nat.or_lt_two_pow ha (Nat.pow_lt_pow_right (by omega) (by omega))) (fun x hx => hl x (by simp [hx]))
  exact key l 0 (Nat.two_pow_pos _) h
theorem subset_lt {n : Int} {s : List Int} (h : SubsetP n s) {i j : Nat} (hij : i < j) (hj : j < s.length) : s.getD i 0 < s.getD j 0 := by
  induction j with
  | zero => omega
  | succ j ih =>
    have h1 := (h (j + 1) hj).2 (by omega)
    simp only [Nat.add_sub_cancel] at h1
    by_cases e : i = j
    · subst e; exact h1
    · exact Int.lt_trans (ih (by omega) (by omega)) h1
theorem maskN_add {n : Int} {s : List Int} (h : SubsetP n s) {j : Nat} (hj : j < s.length) : maskN (s.take (j + 1)) = maskN (s.take j) + 2 ^ (s.getD j 0).toNat := by
  have hlt : maskN (s.take j) < 2 ^ (s.getD j 0).toNat := maskN_lt_of _ (h j hj).1.1 (all_take fun i hi hi' => ⟨(h i hi').1.1, subset_lt h hi hj⟩)
  rw [take_snoc s j hj, maskN_snoc]
  have := Nat.two_pow_add_eq_or_of_lt hlt 1
  rw [Nat.mul_one] at this
  rw [Nat.or_comm, ← this, Nat.add_comm]
end Go.Proofs.Ytlcgihjdafglmaa

/- Plain model of Reed's decoder: degree by degree, the sums that win their votes. No program in sight. -/
namespace Go.Proofs.Ytlcgihjdafglmaa

/-- the monomials of degree k in m variables -/
def segF (m k : Nat) : List (List Int) := addG k m m 0 []
def SubsetB (n : Int) (s : List Int) : Bool := (List.range s.length).all fun i => decide (0 ≤ s.getD i 0) && decide (s.getD i 0 < n) && (i == 0 || decide (s.getD (i - 1) 0 < s.getD i 0))
theorem subset_of {n : Int} {s : List Int} (h : SubsetB n s = true) : SubsetP n s := fun i hi => by
  have h1 := List.all_eq_true.1 h i (List.mem_range.2 hi)
  simp only [Bool.and_eq_true, Bool.or_eq_true, decide_eq_true_eq, beq_iff_eq] at h1
  exact ⟨h1.1, fun h0 => by rcases h1.2 with h2 | h2; omega; exact h2⟩
theorem seg_all : ∀ m : Fin 7, ∀ k : Fin 7, k.val ≤ m.val → (0 < (segF m.val k.val).length ∧ (segF m.val k.val).length ≤ 20) ∧ ((segF m.val k.val).all fun x => decide (x.length = k.val) && SubsetB (m.val : Int) x) = true := by decide +kernel
theorem seg_pos {m k : Nat} (hm : m ≤ 6) (hk : k ≤ m) : 0 < (segF m k).length ∧ (segF m k).length ≤ 20 := (seg_all ⟨m, by omega⟩ ⟨k, by omega⟩ hk).1
theorem seg_mem {m k : Nat} (hm : m ≤ 6) (hk : k ≤ m) {x : List Int} (hx : x ∈ segF m k) : x.length = k ∧ SubsetP (m : Int) x := by
  have h := List.all_eq_true.1 (seg_all ⟨m, by omega⟩ ⟨k, by omega⟩ hk).2 x hx
  simp only [Bool.and_eq_true, decide_eq_true_eq] at h
  exact ⟨h.1, subset_of h.2⟩
theorem getD_mem_nil {l : List (List Int)} {k : Nat} (h : k < l.length) : l.getD k [] ∈ l := by
  rw [List.getD_eq_getElem?_getD, List.getElem?_eq_getElem h]; simp
theorem seg_get {m k j : Nat} (hm : m ≤ 6) (hk : k ≤ m) (hj : j < (segF m k).length) : ((segF m k).getD j []).length = k ∧ SubsetP (m : Int) ((segF m k).getD j []) :=
  seg_mem hm hk (getD_mem_nil hj)
def mbase (m k : Nat) : Nat := (monoTo m k).length
theorem mbase_succ (m k : Nat) : mbase m (k + 1) = mbase m k + (segF m k).length := by unfold mbase; rw [monoTo_succ, List.length_append]; rfl
theorem mbase_zero (m : Nat) : mbase m 0 = 0 := rfl
theorem mono_get (m : Nat) {k t : Nat} (ht : t < (segF m k).length) : ∀ K, k < K → mbase m k + t < mbase m K ∧ (monoTo m K).getD (mbase m k + t) [] = (segF m k).getD t []
  | 0, h => absurd h (by omega)
  | K + 1, h => by
    rw [mbase_succ, monoTo_succ]
    by_cases e : k = K
    · subst e
      refine ⟨by omega, ?_⟩
      rw [List.getD_eq_getElem?_getD, List.getElem?_append_right (by unfold mbase; omega), List.getD_eq_getElem?_getD]
      unfold mbase segF
      rw [Nat.add_sub_cancel_left]
    · obtain ⟨h1, h2⟩ := mono_get m ht K (by omega)
      refine ⟨by omega, ?_⟩
      rw [List.getD_eq_getElem?_getD, List.getElem?_append_left (by unfold mbase at h1; exact h1), ← List.getD_eq_getElem?_getD]
      exact h2
/-- the last monomial ahead of degree k -/
theorem mono_last {m k K : Nat} (hm : m ≤ 6) (hk : 0 < k) (hkm : k ≤ m + 1) (hK : k ≤ K) : 0 < mbase m k ∧ mbase m k - 1 < mbase m K ∧ (monoTo m K).getD (mbase m k - 1) [] = (segF m (k - 1)).getD ((segF m (k - 1)).length - 1) [] ∧ ((monoTo m K).getD (mbase m k - 1) []).length = k - 1 := by
  obtain ⟨k', rfl⟩ : ∃ k', k = k' + 1 := ⟨k - 1, by omega⟩
  have hp := seg_pos hm (show k' ≤ m by omega)
  have hs := mbase_succ m k'
  obtain ⟨h1, h2⟩ := mono_get m (k := k') (t := (segF m k').length - 1) (by omega) K (by omega)
  have e : mbase m (k' + 1) - 1 = mbase m k' + ((segF m k').length - 1) := by omega
  rw [e]
  refine ⟨by omega, h1, h2, ?_⟩
  rw [h2]
  exact (seg_get hm (by omega) (by omega)).1

/-- the sum of the votes -/
def onesF (l : List Int) : Int := l.sum
theorem onesF_take {l : List Int} {k : Nat} (h : k < l.length) : onesF (l.take (k + 1)) = onesF (l.take k) + l.getD k 0 := by
  unfold onesF
  rw [take_snoc l k h, List.sum_append]; simp
theorem onesF_bd {l : List Int} (hb : Bit l) : ∀ k, 0 ≤ onesF (l.take k) ∧ onesF (l.take k) ≤ k
  | 0 => by simp [onesF]
  | k + 1 => by
    have ih := onesF_bd hb k
    by_cases h : k < l.length
    · rw [onesF_take h]
      have := hb k
      omega
    · rw [List.take_of_length_le (by omega)]
      rw [List.take_of_length_le (by omega)] at ih
      omega
/-- the votes for a monomial have a majority of ones -/
def majorB (left mono : List Int) : Bool := decide (((votesF left (maskN mono)).length : Int) < 2 * onesF (votesF left (maskN mono)))
def selF (m : Nat) (left mono acc : List Int) : List Int := if majorB left mono then addL (2 ^ m) acc (evalF m mono) else acc
/-- what the segment adds -/
def sumF (m : Nat) (left : List Int) (seg : List (List Int)) : List Int := seg.foldr (selF m left) (zeroL (2 ^ m))
def updF (m k : Nat) (y w : List Int) : List Int := addL (2 ^ m) w (sumF m (addL (2 ^ m) y w) (segF m k))
/-- the word behind the degrees from r down to r + 1 - d -/
def wordF (m r : Nat) (y : List Int) : Nat → List Int
  | 0 => zeroL (2 ^ m)
  | d + 1 => updF m (r - d) y (wordF m r y d)
theorem selF_len {m : Nat} {left mono acc : List Int} (h : acc.length = 2 ^ m) : (selF m left mono acc).length = 2 ^ m := by
  unfold selF; split
  · exact addL_len _ _ _
  · exact h
theorem selF_bit {m : Nat} {left mono acc : List Int} (h : Bit acc) : Bit (selF m left mono acc) := by
  unfold selF; split
  · exact addL_bit _ _ _
  · exact h
theorem sumF_len (m : Nat) (left : List Int) : ∀ seg, (sumF m left seg).length = 2 ^ m
  | [] => zeroL_len _
  | a :: l => selF_len (sumF_len m left l)
theorem sumF_bit (m : Nat) (left : List Int) : ∀ seg, Bit (sumF m left seg)
  | [] => zeroL_bit _
  | a :: l => selF_bit (sumF_bit m left l)
theorem wordF_len (m r : Nat) (y : List Int) : ∀ d, (wordF m r y d).length = 2 ^ m
  | 0 => zeroL_len _
  | d + 1 => addL_len _ _ _
theorem wordF_bit (m r : Nat) (y : List Int) : ∀ d, Bit (wordF m r y d)
  | 0 => zeroL_bit _
  | d + 1 => addL_bit _ _ _
theorem sumF_drop {m : Nat} {left : List Int} {seg : List (List Int)} {j : Nat} (h : j < seg.length) : sumF m left (seg.drop j) = selF m left (seg.getD j []) (sumF m left (seg.drop (j + 1))) := by
  unfold sumF
  rw [List.drop_eq_getElem_cons h, List.foldr_cons]
  congr 1
  simp [List.getD, h]
theorem sumF_end (m : Nat) (left : List Int) (seg : List (List Int)) : sumF m left (seg.drop seg.length) = zeroL (2 ^ m) := by simp [sumF]
/-- one after the other onto the word itself -/
theorem foldl_sel (m : Nat) (left : List Int) : ∀ (seg : List (List Int)) (w : List Int), w.length = 2 ^ m → Bit w → seg.foldl (fun acc mono => selF m left mono acc) w = addL (2 ^ m) w (sumF m left seg)
  | [], w, hl, hb => (addL_zero hl hb).symm
  | a :: l, w, hl, hb => by
    rw [List.foldl_cons, foldl_sel m left l _ (selF_len hl) (selF_bit hb)]
    show _ = addL (2 ^ m) w (selF m left a (sumF m left l))
    unfold selF
    split
    · rw [addL_assoc, addL_comm _ (evalF m a)]
    · rfl
/-- what is left of the received word -/
theorem rest_step (m k : Nat) (y w : List Int) : addL (2 ^ m) y (updF m k y w) = addL (2 ^ m) (addL (2 ^ m) y w) (sumF m (addL (2 ^ m) y w) (segF m k)) := by
  unfold updF; rw [addL_assoc]
theorem word_next {m r k : Nat} (y : List Int) (hk : k ≤ r) : wordF m r y (r + 1 - k) = addL (2 ^ m) (wordF m r y (r + 1 - (k + 1))) (sumF m (addL (2 ^ m) y (wordF m r y (r + 1 - (k + 1)))) (segF m k)) := by
  rw [show r + 1 - k = (r + 1 - (k + 1)) + 1 by omega, wordF, show r - (r + 1 - (k + 1)) = k by omega]; rfl
theorem rest_next {m r k : Nat} (y : List Int) (hk : k ≤ r) : addL (2 ^ m) y (wordF m r y (r + 1 - k)) = addL (2 ^ m) (addL (2 ^ m) y (wordF m r y (r + 1 - (k + 1)))) (sumF m (addL (2 ^ m) y (wordF m r y (r + 1 - (k + 1)))) (segF m k)) := by
  rw [word_next y hk, addL_assoc]
theorem mask_mem {m : Nat} (hm : m ≤ 6) {x : List Int} (h : SubsetP (m : Int) x) : ∀ k, k < x.length → 0 ≤ x.getD k 0 ∧ x.getD k 0 < 6 := fun k hk => by have := (h k hk).1; omega
theorem pow_sub_le {m : Nat} (r : Nat) (hm : m ≤ 6) : 2 ^ (m - r) ≤ 64 := Nat.le_trans (Nat.pow_le_pow_right (by omega) (show m - r ≤ 6 by omega)) (by decide)
def decF (r m : Int) (y : List Int) : List Int := wordF m.toNat r.toNat y (r.toNat + 1)
def radF (r m : Int) : Int := (2 ^ (m - r).toNat - 1) / 2
end Go.Proofs.Ytlcgihjdafglmaa
