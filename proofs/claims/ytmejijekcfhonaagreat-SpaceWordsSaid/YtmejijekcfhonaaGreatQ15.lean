/- Texts of a claim, merged: words, plain facts and walks that the last of its texts uses. -/
import Derived.Test.YtmejijekcfhonaaGreatQ11
import Derived.Test.YtmejijekcfhonaaGreatQ14
set_option linter.unusedSimpArgs false
set_option linter.unusedVariables false

/- matrix.Transpose, where all is well. -/
namespace Go.Proofs.YtmejijekcfhonaaGreat
open Go.RowKit
set_option linter.unusedVariables false
set_option maxRecDepth 100000

/-- the first j columns, as rows; the others empty -/
def trTo (rows : List (List Int)) (n : Nat) : Nat → List (List Int)
  | 0 => List.replicate n []
  | j + 1 => (trTo rows n j).set j (rowOf rows.length fun i => ent rows i j)
theorem trTo_len (rows : List (List Int)) (n : Nat) : ∀ j, (trTo rows n j).length = n
  | 0 => by simp [trTo]
  | j + 1 => by rw [trTo, List.length_set, trTo_len rows n j]
theorem trTo_getD (rows : List (List Int)) (n : Nat) : ∀ k j, j < k → j < n → (trTo rows n k).getD j [] = rowOf rows.length fun i => ent rows i j
  | 0, j, h, _ => by omega
  | k + 1, j, h, hj => by
    rw [trTo, getD_setL, trTo_len]
    by_cases e : k = j
    · subst e; rw [if_pos ⟨rfl, hj⟩]
    · rw [if_neg (fun h => e h.1)]; exact trTo_getD rows n k j (by omega) hj
theorem trTo_full (rows : List (List Int)) (n : Nat) : trTo rows n n = trnL rows n :=
  ext_rows (by rw [trTo_len, trnL_len]) fun j hj => by
    rw [trTo_len] at hj
    rw [trTo_getD rows n n j hj hj, trnL_row rows hj]

theorem mk_rowD (w : World) (n : Nat) : ∃ w' g, (w.alloc (.cells (madeCells #[.int .i64 0] n) 3)).drew = w' ∧ w.heap.size = g ∧ RI w' g (List.replicate n 0) ∧ Below w.heap.size w w' :=
  ⟨_, _, rfl, rfl, RI.made w n, bl_trans (bl_alloc w _) (bl_drew _)⟩
theorem mk_rows2 (w : World) (n : Nat) (h : n ≤ 1000000) : ∃ w' g, w.alloc (.cells (madeCells #[.slice none 0 0] n) 22) = w' ∧ w.heap.size = g ∧ OM w.heap.size (fun g => g < w.heap.size) w' (.slice (some ⟨g, 0, none⟩) n n) (List.replicate n []) ∧ Below w.heap.size w w' :=
  ⟨_, _, rfl, rfl, OM.made w n (Nat.le_refl _) h, bl_alloc w _⟩

set_option maxHeartbeats 16000000 in
theorem mTrans_ok (w : World) (P M : Int) (n : Nat) (mv rv : Value) (Mod : List Int) (rows : List (List Int)) (hm : SI w mv Mod) (hv : SS w rv rows) (he : matE P M Mod n rows = 0) :
    Calls Tryz.prog 48 #[.agg #[.int .i64 P, .int .i64 M, mv], .agg #[.int .i64 (n : Int), rv]] w (RetMx w rows.length (trnL rows n)) := by
  have HM := Lib.hid hm; have HV := Lib.hid hv; have HE := Lib.hid he
  obtain ⟨hf, _, hn, hr, hR⟩ := matE_zero he
  rw [Int.toNat_natCast] at hR
  have HR := Lib.hid hR
  have hob := orderF_bounds P M
  have HFU : Hid (trTo rows n n = trnL rows n) := trTo_full rows n
  obtain ⟨RA, rc, rfl, _⟩ := hv
  clear hm he hf hR
  obtain ⟨r, hrr⟩ : ∃ r, r = rows.length := ⟨_, rfl⟩
  have HTN : Hid (∀ j, trTo rows n (j + 1) = (trTo rows n j).set j (rowOf r fun i => ent rows i j)) := hid' fun j => by rw [trTo, hrr]
  rw [← hrr] at HV hr ⊢
  have HRR := Lib.hid hrr
  clear hrr
  have hmr := fun (w : World) => run_mkR n (by omega) w
  have hmk := fun (w : World) => run_mkI r (by omega) w
  obtain ⟨w1, e1, hq, hsz⟩ := FMQ.mk' w P M mv n (.slice RA r rc)
  have HQ := Lib.hid hq; have HE1 := Lib.hid e1; clear hq e1
  go_enter Tryz.func48, Tryz.ntmps48
  go_upto_region 1 with fail
  rw [HE1.out]
  clear HE1
  have c0 := HQ.out.fm.fb.c0; have c1 := HQ.out.fm.fb.c1; have c2 := HQ.out.fm.fb.c2; have d0 := HQ.out.fm.d0; have d1 := HQ.out.fm.d1
  go_wp2_with fail
  refine (mopen_ok w w1 P M n _ mv _ Mod rows HQ.out.fm.fb.bel hsz HM.out HV.out HE.out).mono ?_
  rintro e w2 ⟨a, rfl, hg, hb2⟩
  have HQ2 := Lib.hid (HQ.out.on hb2)
  have hs2 := hb2.size
  clear hg hb2 c0 c1 c2 d0 d1 HQ
  have d0 := HQ2.out.fm.d0; have d1 := HQ2.out.fm.d1
  go_upto_region 4 with fail
  have D0 := Lib.hid d0; have D1 := Lib.hid d1
  go_cut [8] from 23 to 29 (fun t8 wc => ∃ g8 gv, t8 = .pointer (some ⟨g8, 0, none⟩) ∧ w2.heap.size ≤ g8 ∧ g8 < wc.heap.size ∧ Hid (Blk wc g8 27 [.int .i64 (r : Int), .slice (some ⟨gv, 0, none⟩) n n]) ∧ Hid (OM w2.heap.size (fun g => g < w2.heap.size ∨ g = g8) wc (.slice (some ⟨gv, 0, none⟩) n n) (trTo rows n 0)) ∧ Hid (Below w2.heap.size w2 wc))
  case first =>
    refine Kept.start (S := fun w' => w'.cell? ⟨w.heap.size + 1, 0, none⟩ = some (.int .i64 (n : Int)) ∧ w'.cell? ⟨w.heap.size + 1, 1, none⟩ = some (.slice RA r rc)) (by kernel_rfl) (⟨d0, d1⟩) (fun hHeld => ?_)
    change Kept _ _ _ _ 9 _ _ _
    have hdrew := bl_drew w2
    generalize w2.drew = wq1 at hdrew hHeld ⊢
    have HBB := Lib.hid hdrew
    clear d0 d1
    clear hdrew
    refine Kept.take (i := 0) (v := ?_) rfl (by kernel_rfl) (by kernel_rfl) (by kernel_rfl) (fun _ _ _ h => h) (Or.inl ⟨by kernel_rfl, ?_⟩) hHeld ?_
    rotate_left
    · intro w' hSw; (try dsimp only at hSw); first | (go_simp; done) | (go_simp; with_reducible rfl)
    try simp only [List.getElem_toArray, List.getElem_cons_zero, List.getElem_cons_succ, Act.put, List.setIfInBounds_toArray, List.set_cons_zero, List.set_cons_succ]
    refine Kept.take (i := 1) (v := ?_) rfl (by kernel_rfl) (by kernel_rfl) (by kernel_rfl) (fun _ _ _ h => h) (Or.inl ⟨by kernel_rfl, ?_⟩) hHeld ?_
    rotate_left
    · intro w' hSw; (try dsimp only at hSw); first | (go_simp; done) | (go_simp; with_reducible rfl)
    try simp only [List.getElem_toArray, List.getElem_cons_zero, List.getElem_cons_succ, Act.put, List.setIfInBounds_toArray, List.set_cons_zero, List.set_cons_succ]
    refine Kept.take (i := 2) (v := ?_) rfl (by kernel_rfl) (by kernel_rfl) (by kernel_rfl) (fun _ _ _ h => h) (Or.inl ⟨by kernel_rfl, ?_⟩) hHeld ?_
    rotate_left
    · intro w' hSw; (try dsimp only at hSw); first | (go_simp; done) | (go_simp; with_reducible rfl)
    try simp only [List.getElem_toArray, List.getElem_cons_zero, List.getElem_cons_succ, Act.put, List.setIfInBounds_toArray, List.set_cons_zero, List.set_cons_succ]
    refine Kept.take (i := 3) (v := ?_) rfl (by kernel_rfl) (by kernel_rfl) (by kernel_rfl) (fun _ _ _ h => h) (Or.inl ⟨by kernel_rfl, ?_⟩) hHeld ?_
    rotate_left
    · intro w' hSw; (try dsimp only at hSw); first | (go_simp; done) | (go_simp; with_reducible rfl)
    try simp only [List.getElem_toArray, List.getElem_cons_zero, List.getElem_cons_succ, Act.put, List.setIfInBounds_toArray, List.set_cons_zero, List.set_cons_succ]
    refine Kept.take (i := 4) (v := ?_) rfl (by kernel_rfl) (by kernel_rfl) (by kernel_rfl) (fun _ _ _ h => h) (Or.inl ⟨by kernel_rfl, ?_⟩) hHeld ?_
    rotate_left
    · intro w' hSw; (try dsimp only at hSw); first | (go_simp; done) | (go_simp; with_reducible rfl)
    try simp only [List.getElem_toArray, List.getElem_cons_zero, List.getElem_cons_succ, Act.put, List.setIfInBounds_toArray, List.set_cons_zero, List.set_cons_succ]
    refine Kept.two (i := 5) (j := 7) (oi := ?opa2) (oj := ?opb2) (by kernel_rfl) ?hoa2 ?hob2 (fun K hK => ?way12) (fun K hK => ?way22)
    case hoa2 => (conv => lhs; simp only [List.getElem?_toArray, List.getElem?_cons_succ, List.getElem?_cons_zero])
    case hob2 => (conv => lhs; simp only [List.getElem?_toArray, List.getElem?_cons_succ, List.getElem?_cons_zero])
    case way12 =>
      go_simp
      obtain ⟨wq3, gv, e1, e2, hX, hb⟩ := mk_rows2 wq1 n (by omega)
      rw [e1, e2]
      have hbs := HBB.out.size
      
      have HO := Lib.hid (hX.mono hbs) 
      
      replace HBB := Lib.hid (bl_trans HBB.out hb)
      clear e1 hX hb
      refine hK.out _ _ (⟨cell_below HBB.out D0.out, cell_below HBB.out D1.out⟩) (fun hHeld2 => ?_)
      clear hK K
      replace hHeld := hHeld2
      clear hHeld2
      try simp only [List.getElem_toArray, List.getElem_cons_zero, List.getElem_cons_succ, Act.put, List.setIfInBounds_toArray, List.set_cons_zero, List.set_cons_succ]
      refine Kept.take (i := 6) (v := ?_) rfl (by kernel_rfl) (by kernel_rfl) (by kernel_rfl) (fun _ _ _ h => h) (Or.inl ⟨by kernel_rfl, ?_⟩) hHeld ?_
      rotate_left
      · intro w' hSw; (try dsimp only at hSw); first | (go_simp; done) | (go_simp; with_reducible rfl)
      try simp only [List.getElem_toArray, List.getElem_cons_zero, List.getElem_cons_succ, Act.put, List.setIfInBounds_toArray, List.set_cons_zero, List.set_cons_succ]
      refine Kept.only (i := 7) (o := ?op4) (by kernel_rfl) ?ho4 (fun K hK => ?_)
      case ho4 => (conv => lhs; simp only [List.getElem?_toArray, List.getElem?_cons_succ, List.getElem?_cons_zero])
      go_simp
      obtain ⟨wq5, g8, e1, e3, hX, hb⟩ := mk_box wq3 27 [.int .i64 0, .slice none 0 0]
      rw [e1, e3]
      have HBX := Lib.hid hX
      have hgi : w2.heap.size ≤ g8 := (by have := HBB.out.size; omega)
      have HOX : Hid (OM w2.heap.size (fun g => g < w2.heap.size ∨ g = g8) wq5 (.slice (some ⟨gv, 0, none⟩) n n) (trTo rows n 0)) := hid' ((HO.out.names (Y := fun g => g < w2.heap.size ∨ g = g8) (fun g hl hg => by have := HBB.out.size; rcases hg with hg | hg <;> (show g < _; omega))).below hb) 
      replace HBB := Lib.hid (bl_trans HBB.out hb)
      clear e1 hX hb
      refine hK.out _ _ (⟨cell_below HBB.out D0.out, cell_below HBB.out D1.out⟩) (fun hHeld2 => ?_)
      clear hK K
      replace hHeld := hHeld2
      clear hHeld2
      try simp only [List.getElem_toArray, List.getElem_cons_zero, List.getElem_cons_succ, Act.put, List.setIfInBounds_toArray, List.set_cons_zero, List.set_cons_succ]
      refine Kept.only (i := 8) (o := ?op6) (by kernel_rfl) ?ho6 (fun K hK => ?_)
      case ho6 => (conv => lhs; simp only [List.getElem?_toArray, List.getElem?_cons_succ, List.getElem?_cons_zero])
      obtain ⟨b0, b1, f0, f1⟩ := HBX.out.two
      go_simp
      obtain ⟨wq7, h6, HL⟩ := lay2 (x := .int .i64 (r : Int)) (y := .slice (some ⟨gv, 0, none⟩) n n) HBX.out
      rw [h6]
      have HO6 := Lib.hid (HOX.out.grown HL.gr (by rintro b e; cases e; exact .inr rfl))
      have HBY := Lib.hid HL.blk
      replace HBB := Lib.hid (HL.below HBB.out HBB.out.size hgi)
      clear b0 b1 f0 f1 h6 HL HBX
      refine hK.out _ _ (⟨cell_below HBB.out D0.out, cell_below HBB.out D1.out⟩) (fun hHeld2 => ?_)
      clear hK K
      clear hHeld2 hHeld
      refine Kept.done (by kernel_rfl) ?_
      try simp only [List.getElem_toArray, List.getElem_cons_zero, List.getElem_cons_succ, Act.put, List.setIfInBounds_toArray, List.set_cons_zero, List.set_cons_succ]
      go_wp2_with fail
      go_meet
      exact ⟨g8, gv, rfl, hgi, HBY.out.lt, HBY, HO6, HBB⟩
    case way22 =>
      go_simp
      obtain ⟨wq8, g8, e1, e3, hX, hb⟩ := mk_box wq1 27 [.int .i64 0, .slice none 0 0]
      rw [e1, e3]
      have HBX := Lib.hid hX
      have hgi : w2.heap.size ≤ g8 := (by have := HBB.out.size; omega)
      
      replace HBB := Lib.hid (bl_trans HBB.out hb)
      clear e1 hX hb
      refine hK.out _ _ (⟨cell_below HBB.out D0.out, cell_below HBB.out D1.out⟩) (fun hHeld2 => ?_)
      clear hK K
      replace hHeld := hHeld2
      clear hHeld2
      try simp only [List.getElem_toArray, List.getElem_cons_zero, List.getElem_cons_succ, Act.put, List.setIfInBounds_toArray, List.set_cons_zero, List.set_cons_succ]
      refine Kept.only (i := 5) (o := ?op9) (by kernel_rfl) ?ho9 (fun K hK => ?_)
      case ho9 => (conv => lhs; simp only [List.getElem?_toArray, List.getElem?_cons_succ, List.getElem?_cons_zero])
      go_simp
      obtain ⟨wq10, gv, e1, e2, hX, hb⟩ := mk_rows2 wq8 n (by omega)
      rw [e1, e2]
      have hbs := HBB.out.size
      have HOX : Hid (OM w2.heap.size (fun g => g < w2.heap.size ∨ g = g8) wq10 (.slice (some ⟨gv, 0, none⟩) n n) (trTo rows n 0)) := hid' ((hX.mono hbs).names (fun g _ hg => by have hl := HBX.out.lt; rcases hg with hg | hg <;> (show g < _; omega))) 
      
      replace HBX := Lib.hid (HBX.out.belowS hb) 
      replace HBB := Lib.hid (bl_trans HBB.out hb)
      clear e1 hX hb
      refine hK.out _ _ (⟨cell_below HBB.out D0.out, cell_below HBB.out D1.out⟩) (fun hHeld2 => ?_)
      clear hK K
      replace hHeld := hHeld2
      clear hHeld2
      try simp only [List.getElem_toArray, List.getElem_cons_zero, List.getElem_cons_succ, Act.put, List.setIfInBounds_toArray, List.set_cons_zero, List.set_cons_succ]
      refine Kept.take (i := 6) (v := ?_) rfl (by kernel_rfl) (by kernel_rfl) (by kernel_rfl) (fun _ _ _ h => h) (Or.inl ⟨by kernel_rfl, ?_⟩) hHeld ?_
      rotate_left
      · intro w' hSw; (try dsimp only at hSw); first | (go_simp; done) | (go_simp; with_reducible rfl)
      try simp only [List.getElem_toArray, List.getElem_cons_zero, List.getElem_cons_succ, Act.put, List.setIfInBounds_toArray, List.set_cons_zero, List.set_cons_succ]
      refine Kept.only (i := 8) (o := ?op11) (by kernel_rfl) ?ho11 (fun K hK => ?_)
      case ho11 => (conv => lhs; simp only [List.getElem?_toArray, List.getElem?_cons_succ, List.getElem?_cons_zero])
      obtain ⟨b0, b1, f0, f1⟩ := HBX.out.two
      go_simp
      obtain ⟨wq12, h6, HL⟩ := lay2 (x := .int .i64 (r : Int)) (y := .slice (some ⟨gv, 0, none⟩) n n) HBX.out
      rw [h6]
      have HO6 := Lib.hid (HOX.out.grown HL.gr (by rintro b e; cases e; exact .inr rfl))
      have HBY := Lib.hid HL.blk
      replace HBB := Lib.hid (HL.below HBB.out HBB.out.size hgi)
      clear b0 b1 f0 f1 h6 HL HBX
      refine hK.out _ _ (⟨cell_below HBB.out D0.out, cell_below HBB.out D1.out⟩) (fun hHeld2 => ?_)
      clear hK K
      clear hHeld2 hHeld
      refine Kept.done (by kernel_rfl) ?_
      try simp only [List.getElem_toArray, List.getElem_cons_zero, List.getElem_cons_succ, Act.put, List.setIfInBounds_toArray, List.set_cons_zero, List.set_cons_succ]
      go_wp2_with fail
      go_meet
      exact ⟨g8, gv, rfl, hgi, HBY.out.lt, HBY, HO6, HBB⟩
  case rest =>
    clear d0 d1
    obtain ⟨g8, gv, rfl, hg8, hg8l, HBY, HO, HBB⟩ := hcut
    have HQ3 := Lib.hid (HQ2.out.on HBB.out)
    have hs3 := HBB.out.size
    have hgv := HO.out.lt (g := gv) rfl
    have hgne : gv ≠ g8 := fun e => HO.out.notX (g := gv) rfl (.inr e)
    clear HBB HQ2 D0 D1
    have b1 : wc.cell? ⟨g8, 1, none⟩ = some (.slice (some ⟨gv, 0, none⟩) n n) := HBY.out.cell 1
    go_wp2_with fail
    clear b1
    go_loopw [33] (fun i wr => ∃ j : Nat, j ≤ n ∧ i = .int .i64 (j : Int) ∧ Hid (OM w2.heap.size (fun g => g < w2.heap.size ∨ g = g8) wr (.slice (some ⟨gv, 0, none⟩) n n) (trTo rows n j)) ∧ Hid (Blk wr g8 27 [.int .i64 (r : Int), .slice (some ⟨gv, 0, none⟩) n n]) ∧ Hid (FMQ w wr P M mv n (.slice RA r rc)) ∧ wc.heap.size ≤ wr.heap.size) (fun i _ => n - (intOf i).toNat)
    case atStart => exact ⟨0, Nat.zero_le _, rfl, HO, HBY, HQ3, Nat.le_refl _⟩
    case round =>
      clear HO HBY HQ3
      obtain ⟨j, hj, rfl, HO, H8, HQ, hsr⟩ := hrel
      by_cases hjn : j < n
      · have HLT : Hid ((trTo rows n j).length = n) := hid' (trTo_len _ _ _)
        have b1 : wr.cell? ⟨g8, 1, none⟩ = some (.slice (some ⟨gv, 0, none⟩) n n) := H8.out.cell 1
        have d1 := HQ.out.fm.d1
        have B1 := Lib.hid b1; have D1 := Lib.hid d1
        go_wp2_with fail
        refine Drawn.start (S := fun w' => w'.cell? ⟨g8, 1, none⟩ = some (.slice (some ⟨gv, 0, none⟩) n n) ∧ w'.cell? ⟨w.heap.size + 1, 1, none⟩ = some (.slice RA r rc)) (by kernel_rfl) (⟨b1, d1⟩) (fun hHeld => ?_)
        change Drawn _ _ _ _ 9 _ _ _
        refine Drawn.take (i := 0) (v := ?_) rfl (by kernel_rfl) (by kernel_rfl) (by kernel_rfl) (by kernel_rfl) (fun _ _ _ h => h) (Or.inl ⟨by kernel_rfl, ?_⟩) hHeld ?_
        rotate_left
        · intro w' hSw; (try dsimp only at hSw); first | (go_simp; done) | (go_simp; with_reducible rfl)
        try simp only [List.getElem_toArray, List.getElem_cons_zero, List.getElem_cons_succ, Act.put, List.setIfInBounds_toArray, List.set_cons_zero, List.set_cons_succ]
        refine Drawn.take (i := 1) (v := ?_) rfl (by kernel_rfl) (by kernel_rfl) (by kernel_rfl) (by kernel_rfl) (fun _ _ _ h => h) (Or.inl ⟨by kernel_rfl, ?_⟩) hHeld ?_
        rotate_left
        · intro w' hSw; (try dsimp only at hSw); first | (go_simp; done) | (go_simp; with_reducible rfl)
        try simp only [List.getElem_toArray, List.getElem_cons_zero, List.getElem_cons_succ, Act.put, List.setIfInBounds_toArray, List.set_cons_zero, List.set_cons_succ]
        refine Drawn.take (i := 2) (v := ?_) rfl (by kernel_rfl) (by kernel_rfl) (by kernel_rfl) (by kernel_rfl) (fun _ _ _ h => h) (Or.inl ⟨by kernel_rfl, ?_⟩) hHeld ?_
        rotate_left
        · intro w' hSw; (try dsimp only at hSw); first | (go_simp; done) | (go_simp; with_reducible rfl)
        try simp only [List.getElem_toArray, List.getElem_cons_zero, List.getElem_cons_succ, Act.put, List.setIfInBounds_toArray, List.set_cons_zero, List.set_cons_succ]
        refine Drawn.take (i := 3) (v := ?_) rfl (by kernel_rfl) (by kernel_rfl) (by kernel_rfl) (by kernel_rfl) (fun _ _ _ h => h) (Or.inl ⟨by kernel_rfl, ?_⟩) hHeld ?_
        rotate_left
        · intro w' hSw; (try dsimp only at hSw); first | (go_simp; done) | (go_simp; with_reducible rfl)
        try simp only [List.getElem_toArray, List.getElem_cons_zero, List.getElem_cons_succ, Act.put, List.setIfInBounds_toArray, List.set_cons_zero, List.set_cons_succ]
        refine Drawn.take (i := 4) (v := ?_) rfl (by kernel_rfl) (by kernel_rfl) (by kernel_rfl) (by kernel_rfl) (fun _ _ _ h => h) (Or.inl ⟨by kernel_rfl, ?_⟩) hHeld ?_
        rotate_left
        · intro w' hSw; (try dsimp only at hSw); first | (go_simp; done) | (go_simp; with_reducible rfl)
        try simp only [List.getElem_toArray, List.getElem_cons_zero, List.getElem_cons_succ, Act.put, List.setIfInBounds_toArray, List.set_cons_zero, List.set_cons_succ]
        refine Drawn.take (i := 5) (v := ?_) rfl (by kernel_rfl) (by kernel_rfl) (by kernel_rfl) (by kernel_rfl) (fun _ _ _ h => h) (Or.inl ⟨by kernel_rfl, ?_⟩) hHeld ?_
        rotate_left
        · intro w' hSw; (try dsimp only at hSw); first | (go_simp; done) | (go_simp; with_reducible rfl)
        try simp only [List.getElem_toArray, List.getElem_cons_zero, List.getElem_cons_succ, Act.put, List.setIfInBounds_toArray, List.set_cons_zero, List.set_cons_succ]
        refine Drawn.only (i := 6) (o := ?op13) (by kernel_rfl) ?ho13 (fun K hK => ?_)
        case ho13 => (conv => lhs; simp only [List.getElem?_toArray, List.getElem?_cons_succ, List.getElem?_cons_zero])
        go_simp; obtain ⟨w6, gj, e1, e2, hX, hb⟩ := mk_rowD wr r; rw [e1, e2]; have HB6 := Lib.hid hb; have HX6 := Lib.hid hX; have HO6 := Lib.hid (HO.out.below HB6.out); obtain ⟨u0, h0, _, _⟩ := HO6.out.row (k := j) (by rw [HLT.out]; exact hjn); have f0 := HO6.out.frozen j; have hgj : wr.heap.size = gj := e2; clear e1 e2 hX hb
        refine hK.out _ _ (fun _ => ⟨cell_below HB6.out B1.out, cell_below HB6.out D1.out⟩) (fun hHeld2 => ?_)
        clear hK K
        replace hHeld := hHeld2 (by decide)
        clear hHeld2
        try simp only [List.getElem_toArray, List.getElem_cons_zero, List.getElem_cons_succ, Act.put, List.setIfInBounds_toArray, List.set_cons_zero, List.set_cons_succ]
        refine Drawn.take (i := 7) (v := ?_) rfl (by kernel_rfl) (by kernel_rfl) (by kernel_rfl) (by kernel_rfl) (fun _ _ _ h => h) (Or.inl ⟨by kernel_rfl, ?_⟩) hHeld ?_
        rotate_left
        · intro w' hSw; (try dsimp only at hSw); first | (go_simp; done) | (go_simp; with_reducible rfl)
        try simp only [List.getElem_toArray, List.getElem_cons_zero, List.getElem_cons_succ, Act.put, List.setIfInBounds_toArray, List.set_cons_zero, List.set_cons_succ]
        refine Drawn.only (i := 8) (by kernel_rfl) rfl (fun K hK => ?_)
        go_simp
        refine hK.out _ _ (fun h => absurd rfl h) (fun hHeld2 => ?_)
        clear hK K
        clear hHeld2
        refine Drawn.done (by kernel_rfl) ?_
        try simp only [List.getElem_toArray, List.getElem_cons_zero, List.getElem_cons_succ, Act.put, List.setIfInBounds_toArray, List.set_cons_zero, List.set_cons_succ]
        clear hHeld
        have HOJ := Lib.hid (HO.out.put HB6.out (fun g hg => by rcases hg with hg | hg <;> omega) (i := j) (by rw [HLT.out]; exact hjn) (u := .slice (some ⟨gj, 0, none⟩) r r) (ys := List.replicate r 0) (by
          have h := HX6.out.oi (B := wr.heap.size) (by omega) (by simp; omega)
          rw [List.length_replicate] at h
          exact h))
        have hgz := gr_set1 w6 gv j (.slice (some ⟨gj, 0, none⟩) r r)
        have H87 := Lib.hid ((H8.out.belowS HB6.out).grown hgz (by intro e; have := Option.some.inj e; omega))
        have HQ7 := Lib.hid (FMQ.gr (HQ.out.on HB6.out) hgz (by omega))
        have hs7 : wc.heap.size ≤ (w6.setCell ⟨gv, j, none⟩ (.slice (some ⟨gj, 0, none⟩) r r)).heap.size := by have h1 := HB6.out.size; have h2 := hgz.size; omega
        have hgl6 := HX6.out.lt
        clear b1 d1 B1 D1 h0 f0 HO HO6 H8 HQ HX6 hgz
        generalize w6.setCell ⟨gv, j, none⟩ (.slice (some ⟨gj, 0, none⟩) r r) = w7 at *
        have d1 := HQ7.out.fm.d1
        go_wp2_with fail
        clear d1
        obtain ⟨f, hfe⟩ : ∃ f : Nat → Int, f = fun i => ent rows i j := ⟨_, rfl⟩
        have HTJ := Lib.hid (HTN.out j)
        rw [← hfe] at HTJ
        have HFE := Lib.hid hfe; clear hfe
        go_loopw [47] (fun i wr => ∃ k : Nat, k ≤ r ∧ i = .int .i64 (k : Int) ∧ Hid (OM w2.heap.size (fun g => g < w2.heap.size ∨ g = g8) wr (.slice (some ⟨gv, 0, none⟩) n n) ((trTo rows n j).set j (fillTo r f (fun _ => 0) k))) ∧ Hid (Blk wr g8 27 [.int .i64 (r : Int), .slice (some ⟨gv, 0, none⟩) n n]) ∧ Hid (FMQ w wr P M mv n (.slice RA r rc)) ∧ wc.heap.size ≤ wr.heap.size) (fun i _ => r - (intOf i).toNat)
        case atStart => exact ⟨0, Nat.zero_le _, rfl, by rw [fillTo_zero, rowOf_zero]; exact HOJ, H87, HQ7, hs7⟩
        case round =>
          clear HOJ H87 HQ7 hs7
          obtain ⟨k, hk, rfl, HO, H8, HQ, hsr⟩ := hrel
          by_cases hkr : k < r
          · obtain ⟨ad, Ak, ck, row, rfl, hc, HRW, HRE⟩ := (HV.out.below HQ.out.fm.fb.bel (Nat.le_refl _)).eltA (k := k) (by rw [← HRR.out]; exact hkr)
            have hrl : row.length = n := by rw [← HRE.out]; exact (HR.out k (by rw [← HRR.out]; exact hkr)).1
            obtain ⟨rd, y, rfl, hyc, _, HY⟩ := HRW.out.elt (k := j) (by rw [hrl]; exact hjn)
            rw [hrl] at hc
            have hlj : ((trTo rows n j).set j (fillTo r f (fun _ => 0) k)).length = n := by rw [List.length_set, HLT.out]
            obtain ⟨u0, h0, ho0, hne0⟩ := HO.out.row (k := j) (by rw [hlj]; exact hjn)
            have hgd : ((trTo rows n j).set j (fillTo r f (fun _ => 0) k)).getD j [] = fillTo r f (fun _ => 0) k := by rw [getD_setL, if_pos ⟨rfl, by rw [HLT.out]; exact hjn⟩]
            rw [hgd] at ho0
            obtain ⟨q0, qc, rfl, hq0, hq1⟩ := ho0.form (by rw [fillTo_len]; omega)
            rw [fillTo_len] at ho0 h0 hne0
            have hne1 := hne0 q0 rfl
            have u1 := ho0.cell k (by rw [fillTo_len]; exact hkr)
            have f1 := ho0.frozen k
            have b1 : wr.cell? ⟨g8, 1, none⟩ = some (.slice (some ⟨gv, 0, none⟩) n n) := H8.out.cell 1
            have HFS := Lib.hid (fillTo_set (f := f) (g := fun _ => 0) hkr)
            have HFK : Hid (f k = y) := by show _ = _; rw [HFE.out]; dsimp only; unfold ent; rw [HRE.out, HY.out]
            rw [HFK.out] at HFS
            have H0 := Lib.hid h0; have HO0 := Lib.hid ho0; have HLJ := Lib.hid hlj; have HN1 := Lib.hid hne1
            have hRL := Lib.hid hrl
            clear hrl hlj hgd ho0 hne0 hne1
            go_wp2_with fail
            refine Drawn.start (S := fun w' => w'.cell? ⟨g8, 1, none⟩ = some (.slice (some ⟨gv, 0, none⟩) n n) ∧ w'.cell? ⟨gv, j, none⟩ = some (.slice (some ⟨q0, 0, none⟩) r qc) ∧ w'.cell? (rd.add j) = some (.int .i64 y)) (by kernel_rfl) (⟨b1, h0, hyc⟩) (fun hHeld => ?_)
            change Drawn _ _ _ _ 12 _ _ _
            refine Drawn.take (i := 0) (v := ?_) rfl (by kernel_rfl) (by kernel_rfl) (by kernel_rfl) (by kernel_rfl) (fun _ _ _ h => h) (Or.inl ⟨by kernel_rfl, ?_⟩) hHeld ?_
            rotate_left
            · intro w' hSw; (try dsimp only at hSw); first | (go_simp; done) | (go_simp; with_reducible rfl)
            try simp only [List.getElem_toArray, List.getElem_cons_zero, List.getElem_cons_succ, Act.put, List.setIfInBounds_toArray, List.set_cons_zero, List.set_cons_succ]
            refine Drawn.take (i := 1) (v := ?_) rfl (by kernel_rfl) (by kernel_rfl) (by kernel_rfl) (by kernel_rfl) (fun _ _ _ h => h) (Or.inl ⟨by kernel_rfl, ?_⟩) hHeld ?_
            rotate_left
            · intro w' hSw; (try dsimp only at hSw); first | (go_simp; done) | (go_simp; with_reducible rfl)
            try simp only [List.getElem_toArray, List.getElem_cons_zero, List.getElem_cons_succ, Act.put, List.setIfInBounds_toArray, List.set_cons_zero, List.set_cons_succ]
            refine Drawn.take (i := 2) (v := ?_) rfl (by kernel_rfl) (by kernel_rfl) (by kernel_rfl) (by kernel_rfl) (fun _ _ _ h => h) (Or.inl ⟨by kernel_rfl, ?_⟩) hHeld ?_
            rotate_left
            · intro w' hSw; (try dsimp only at hSw); first | (go_simp; done) | (go_simp; with_reducible rfl)
            try simp only [List.getElem_toArray, List.getElem_cons_zero, List.getElem_cons_succ, Act.put, List.setIfInBounds_toArray, List.set_cons_zero, List.set_cons_succ]
            refine Drawn.take (i := 3) (v := ?_) rfl (by kernel_rfl) (by kernel_rfl) (by kernel_rfl) (by kernel_rfl) (fun _ _ _ h => h) (Or.inl ⟨by kernel_rfl, ?_⟩) hHeld ?_
            rotate_left
            · intro w' hSw; (try dsimp only at hSw); first | (go_simp; done) | (go_simp; with_reducible rfl)
            try simp only [List.getElem_toArray, List.getElem_cons_zero, List.getElem_cons_succ, Act.put, List.setIfInBounds_toArray, List.set_cons_zero, List.set_cons_succ]
            refine Drawn.take (i := 4) (v := ?_) rfl (by kernel_rfl) (by kernel_rfl) (by kernel_rfl) (by kernel_rfl) (fun _ _ _ h => h) (Or.inl ⟨by kernel_rfl, ?_⟩) hHeld ?_
            rotate_left
            · intro w' hSw; (try dsimp only at hSw); first | (go_simp; done) | (go_simp; with_reducible rfl)
            try simp only [List.getElem_toArray, List.getElem_cons_zero, List.getElem_cons_succ, Act.put, List.setIfInBounds_toArray, List.set_cons_zero, List.set_cons_succ]
            refine Drawn.take (i := 5) (v := ?_) rfl (by kernel_rfl) (by kernel_rfl) (by kernel_rfl) (by kernel_rfl) (fun _ _ _ h => h) (Or.inl ⟨by kernel_rfl, ?_⟩) hHeld ?_
            rotate_left
            · intro w' hSw; (try dsimp only at hSw); first | (go_simp; done) | (go_simp; with_reducible rfl)
            try simp only [List.getElem_toArray, List.getElem_cons_zero, List.getElem_cons_succ, Act.put, List.setIfInBounds_toArray, List.set_cons_zero, List.set_cons_succ]
            refine Drawn.take (i := 6) (v := ?_) rfl (by kernel_rfl) (by kernel_rfl) (by kernel_rfl) (by kernel_rfl) (fun _ _ _ h => h) (Or.inl ⟨by kernel_rfl, ?_⟩) hHeld ?_
            rotate_left
            · intro w' hSw; (try dsimp only at hSw); first | (go_simp; done) | (go_simp; with_reducible rfl)
            try simp only [List.getElem_toArray, List.getElem_cons_zero, List.getElem_cons_succ, Act.put, List.setIfInBounds_toArray, List.set_cons_zero, List.set_cons_succ]
            refine Drawn.take (i := 7) (v := ?_) rfl (by kernel_rfl) (by kernel_rfl) (by kernel_rfl) (by kernel_rfl) (fun _ _ _ h => h) (Or.inl ⟨by kernel_rfl, ?_⟩) hHeld ?_
            rotate_left
            · intro w' hSw; (try dsimp only at hSw); first | (go_simp; done) | (go_simp; with_reducible rfl)
            try simp only [List.getElem_toArray, List.getElem_cons_zero, List.getElem_cons_succ, Act.put, List.setIfInBounds_toArray, List.set_cons_zero, List.set_cons_succ]
            refine Drawn.take (i := 8) (v := ?_) rfl (by kernel_rfl) (by kernel_rfl) (by kernel_rfl) (by kernel_rfl) (fun _ _ _ h => h) (Or.inl ⟨by kernel_rfl, ?_⟩) hHeld ?_
            rotate_left
            · intro w' hSw; (try dsimp only at hSw); first | (go_simp; done) | (go_simp; with_reducible rfl)
            try simp only [List.getElem_toArray, List.getElem_cons_zero, List.getElem_cons_succ, Act.put, List.setIfInBounds_toArray, List.set_cons_zero, List.set_cons_succ]
            refine Drawn.take (i := 9) (v := ?_) rfl (by kernel_rfl) (by kernel_rfl) (by kernel_rfl) (by kernel_rfl) (fun _ _ _ h => h) (Or.inl ⟨by kernel_rfl, ?_⟩) hHeld ?_
            rotate_left
            · intro w' hSw; (try dsimp only at hSw); first | (go_simp; done) | (go_simp; with_reducible rfl)
            try simp only [List.getElem_toArray, List.getElem_cons_zero, List.getElem_cons_succ, Act.put, List.setIfInBounds_toArray, List.set_cons_zero, List.set_cons_succ]
            refine Drawn.take (i := 10) (v := ?_) rfl (by kernel_rfl) (by kernel_rfl) (by kernel_rfl) (by kernel_rfl) (fun _ _ _ h => h) (Or.inl ⟨by kernel_rfl, ?_⟩) hHeld ?_
            rotate_left
            · intro w' hSw; (try dsimp only at hSw); first | (go_simp; done) | (go_simp; with_reducible rfl)
            try simp only [List.getElem_toArray, List.getElem_cons_zero, List.getElem_cons_succ, Act.put, List.setIfInBounds_toArray, List.set_cons_zero, List.set_cons_succ]
            refine Drawn.only (i := 11) (by kernel_rfl) rfl (fun K hK => ?_)
            go_simp
            refine hK.out _ _ (fun h => absurd rfl h) (fun hHeld2 => ?_)
            clear hK K
            clear hHeld2
            refine Drawn.done (by kernel_rfl) ?_
            try simp only [List.getElem_toArray, List.getElem_cons_zero, List.getElem_cons_succ, Act.put, List.setIfInBounds_toArray, List.set_cons_zero, List.set_cons_succ]
            clear hHeld
            go_wp2_with fail
            have hgz := gr_set1 wr q0 k (.int .i64 y)
            have hw := HO.out.write (i := j) (by rw [HLJ.out]; exact hjn) H0.out hgz (HO0.out.set k y)
            rw [List.set_set, HFS.out] at hw
            refine ⟨⟨k + 1, by omega, by push_cast; rfl, hid' (hw.below (bl_drew _)), (H8.out.grown hgz (fun e => HN1.out.2 (.inr (Option.some.inj e).symm))).belowS (bl_drew _), (FMQ.gr HQ.out hgz (by omega)).on (bl_drew _), ?_⟩, by simp only [intOf]; omega⟩
            have h1 := hgz.size
            show wc.heap.size ≤ (wr.setCell ⟨q0, k, none⟩ (.int .i64 y)).heap.size
            omega
          · obtain rfl : k = r := by omega
            rw [fillTo_full, ← HTJ.out] at HO
            go_wp2_with fail
            exact ⟨⟨j + 1, by omega, by push_cast; rfl, HO, H8, HQ, hsr⟩, by simp only [intOf]; omega⟩
      · obtain rfl : j = n := by omega
        rw [HFU.out] at HO
        obtain ⟨z0, z1, f0, f1⟩ := H8.out.two
        obtain ⟨y0, y1, g0, g1⟩ := HQ.out.q.two
        have HSB := Lib.hid ((HO.out.os (fun c hc => by
          rw [trnL_len] at hc
          rw [trnL_row rows hc, rowOf_len, ← HRR.out]
          refine ⟨by omega, fun i => ?_⟩
          by_cases hi : i < r
          · rw [rowOf_getD hi]
            have h := (HR.out i (by rw [← HRR.out]; exact hi)).2 c
            show I64 ((rows.getD i []).getD c 0)
            exact I64.of_small (by omega) (by omega)
          · rw [getD_len (by rw [rowOf_len]; omega)]; exact I64.zero)).ssb (by rw [trnL_len]; omega) (fun g hg => .inl hg))
        go_wp2_with fail
        obtain ⟨w6, h6, HL⟩ := lay2 (x := .int .i64 (r : Int)) (y := .slice (some ⟨gv, 0, none⟩) j j) HQ.out.q
        rw [h6]
        have q0 := HL.c0; have q1 := HL.c1
        refine bodyPost_ret (v := .tuple #[.agg #[.int .i64 (r : Int), .slice (some ⟨gv, 0, none⟩) j j], .int .i64 0]) (by simp [results, Tryz.results48, go_sem, q0, q1]) rfl ?_
        have hqs := HQ.out.fm.fb.bel.size
        exact ⟨_, rfl, (HSB.out.grown HL.gr (by rintro g e; cases e; show ¬ w2.heap.size ≤ _; omega)).sep (fun g hg => by omega), HL.below HQ.out.fm.fb.bel HQ.out.fm.fb.bel.size (by omega)⟩
end Go.Proofs.YtmejijekcfhonaaGreat

/- space.Supported, matrix.Rank, where all is well. -/
namespace Go.Proofs.YtmejijekcfhonaaGreat
open Go.RowKit
set_option linter.unusedVariables false
set_option maxRecDepth 100000

/-- the positions below c that set does not name -/
def otTo (set : List Int) : Nat → List Int
  | 0 => []
  | c + 1 => if (set.any fun x => x == (c : Int)) then otTo set c else otTo set c ++ [(c : Int)]
theorem otTo_full (set : List Int) : ∀ n, otTo set n = othersL set n
  | 0 => rfl
  | n + 1 => by
    rw [otTo, otTo_full set n]
    unfold othersL
    rw [List.range_succ, List.filter_append, List.map_append]
    cases h : (set.any fun x => x == (n : Int)) <;> simp [h]
theorem otTo_len (set : List Int) : ∀ c, (otTo set c).length ≤ c
  | 0 => by simp [otTo]
  | c + 1 => by
    have := otTo_len set c
    rw [otTo]
    split
    · omega
    · rw [List.length_append, List.length_singleton]; omega
theorem others_rng (set : List Int) (n : Nat) : ∀ k, k < (othersL set n).length → 0 ≤ (othersL set n).getD k 0 ∧ (othersL set n).getD k 0 < n := fun k hk => by
  have := mem_others.1 (getD_mem hk)
  exact ⟨this.1, this.2.1⟩
theorem otTo_rng (set : List Int) (c : Nat) : ∀ k, 0 ≤ (otTo set c).getD k 0 ∧ (otTo set c).getD k 0 ≤ c := fun k => by
  rw [otTo_full]
  by_cases hk : k < (othersL set c).length
  · have := others_rng set c k hk; omega
  · rw [getD_len (by omega)]; omega
/-- a rising list of positions -/
def RisP (set : List Int) (n : Nat) : Prop := ∀ k, k < set.length → 0 ≤ set.getD k 0 ∧ set.getD k 0 < n ∧ (0 < k → set.getD (k - 1) 0 < set.getD k 0)

set_option maxHeartbeats 32000000 in
theorem sSupp_ok (w : World) (P M : Int) (n : Nat) (mv rv sv : Value) (Mod set : List Int) (A : List (List Int)) (hm : SI w mv Mod) (hv : SS w rv A) (hs : SI w sv set) (hA : spaceE P M Mod n A = 0) (hset : RisP set n) :
    Calls Tryz.prog 19 #[.agg #[.int .i64 P, .int .i64 M, mv], .agg #[.int .i64 (n : Int), rv], sv] w (RetMx w n (supL (refOps P M Mod) A n (othersL set n))) := by
  have hS := SpP.of hA
  have hO := hS.hO
  have hf := hS.fld
  have hn := hS.n256
  have hr := hS.r256
  have hq0 : 0 < orderF P M := by have := orderF_bounds P M; have := hf.1; omega
  have hol : (othersL set n).length ≤ n := by rw [← otTo_full]; exact otTo_len _ _
  have hC := cols_rows hq0 hS.rref.rows (othersL set n)
  have hT := turn_cols_rows hO hS.rref (othersL set n)
  have hN := Cn.null hO hT
  have hNl := hN.le
  have HOP := Lib.hid (fun (w' : World) (hb : Below w.heap.size w w') => sopen_ok w' P M n mv _ Mod A (hm.below hb (Nat.le_refl _)) (hv.below hb (Nat.le_refl _)) hA)
  have HCO := Lib.hid (fun (w' : World) (u : Value) (hb : Below w.heap.size w w') (hu : SI w' u (othersL set n)) => mColumns_ok w' P M n mv rv u Mod (othersL set n) A (hm.below hb (Nat.le_refl _)) (hv.below hb (Nat.le_refl _)) hu (spaceE_zero hA).1 (others_rng set n) (by omega))
  have HTR := Lib.hid (fun (w' : World) (u : Value) (hb : Below w.heap.size w w') (hu : SS w' u (colsL A (othersL set n))) => mTrans_ok w' P M (othersL set n).length mv u Mod _ (hm.below hb (Nat.le_refl _)) hu (matE_mk hf (by omega) (by rw [colsL_len]; exact hr) hC))
  have HKE := Lib.hid (fun (w' : World) (u : Value) (hb : Below w.heap.size w w') (hu : SS w' u (trnL (colsL A (othersL set n)) (othersL set n).length)) => mKernel_ok w' P M A.length mv u Mod _ (hm.below hb (Nat.le_refl _)) hu (matE_mk hf hr (by rw [trnL_len]; omega) hT))
  have HMU := Lib.hid (fun (w' : World) (u : Value) (hb : Below w.heap.size w w') (hu : SS w' u (nullL (refOps P M Mod) (trnL (colsL A (othersL set n)) (othersL set n).length) A.length)) => mMul_ok w' P M n A.length mv u rv Mod _ A (hm.below hb (Nat.le_refl _)) hu (hv.below hb (Nat.le_refl _)) (matE_mk hf hr (by omega) hN.rows) (spaceE_zero hA).1 rfl)
  have HCA := Lib.hid (fun (w' : World) (u : Value) (hb : Below w.heap.size w w') (hu : SS w' u (mmL (refOps P M Mod) (nullL (refOps P M Mod) (trnL (colsL A (othersL set n)) (othersL set n).length) A.length) A n)) => mCanonical_ok w' P M n mv u Mod _ (hm.below hb (Nat.le_refl _)) hu (matE_mk hf hn (by rw [mmL_len]; omega) (mul_rows hO)))
  have HSU : Hid (canonL (refOps P M Mod) (mmL (refOps P M Mod) (nullL (refOps P M Mod) (trnL (colsL A (othersL set n)) (othersL set n).length) A.length) A n) n = supL (refOps P M Mod) A n (othersL set n)) := rfl
  have HOF : Hid (otTo set n = othersL set n) := otTo_full set n
  rw [colsL_len] at HTR
  unfold RetVW at HOP
  unfold RetMx at HCO HTR HKE HMU
  unfold RetCM at HCA
  rw [HSU.out] at HCA
  have HS := Lib.hid hs; have HRP := Lib.hid hset
  obtain ⟨RA, rc, rfl, _⟩ := hv
  obtain ⟨SA, sc, rfl, _⟩ := hs
  clear hm hA hS hO hf hC hT hN hset hq0
  obtain ⟨r, hrr⟩ : ∃ r, r = A.length := ⟨_, rfl⟩
  rw [← hrr] at HOP HCO HTR HKE HMU HCA hr hNl ⊢
  clear hrr HSU
  obtain ⟨m, hmm⟩ : ∃ m, m = set.length := ⟨_, rfl⟩
  rw [← hmm] at HS ⊢
  have HMM := Lib.hid hmm; clear hmm
  obtain ⟨l0, hl0⟩ : ∃ l0, l0 = (othersL set n).length := ⟨_, rfl⟩
  rw [← hl0] at HCO HTR HKE HMU HCA hol
  have HL0 := Lib.hid hl0; clear hl0
  generalize (nullL (refOps P M Mod) (trnL (colsL A (othersL set n)) l0) r) = N at *
  generalize mmL (refOps P M Mod) N A n = MM at *
  generalize supL (refOps P M Mod) A n (othersL set n) = SP at *
  generalize (trnL (colsL A (othersL set n)) l0) = T at *
  generalize colsL A (othersL set n) = CL at *
  have hml : m ≤ 17592186044416 := by rw [HMM.out]; exact HS.out.len'
  obtain ⟨w1, e1, hq, hsz⟩ := FMQ.mk' w P M mv n (.slice RA r rc)
  have HQ := Lib.hid hq; have HE1 := Lib.hid e1; clear hq e1
  go_enter Tryz.func19, Tryz.ntmps19
  go_upto_region 1 with fail
  rw [HE1.out]
  clear HE1
  have c0 := HQ.out.fm.fb.c0; have c1 := HQ.out.fm.fb.c1; have c2 := HQ.out.fm.fb.c2; have d0 := HQ.out.fm.d0; have d1 := HQ.out.fm.d1
  go_wp2_with fail
  refine (HOP.out w1 HQ.out.fm.fb.bel).mono ?_
  rintro e w2 ⟨a, PA, c, rfl, _, hb2⟩
  have hb3 := bl_alloc w2 (.cells #[.pointer (some ⟨a, 0, none⟩), .int .i64 (n : Int), .slice RA r rc, .slice PA r c] 49)
  have HQ3 := Lib.hid ((HQ.out.on hb2).on hb3)
  have hs3 := Nat.le_trans hb2.size hb3.size
  clear hb2 hb3 c0 c1 c2 d0 d1 HOP HQ
  go_upto_region 2 with fail
  generalize w2.alloc (.cells #[.pointer (some ⟨a, 0, none⟩), .int .i64 (n : Int), .slice RA r rc, .slice PA r c] 49) = w3 at *
  have d0 := HQ3.out.fm.d0
  go_wp2_with fail
  go_loop [32] (fun i => ∃ k : Nat, k ≤ m ∧ i = .int .i64 (k : Int)) (fun i => m - (intOf i).toNat)
  case atStart => exact ⟨0, Nat.zero_le _, rfl⟩
  case round =>
    obtain ⟨k, hk, rfl⟩ := hrel
    by_cases hkm : k < m
    · have HSW := HS.out.below HQ3.out.fm.fb.bel (Nat.le_refl _)
      obtain ⟨ad, x, rfl, hc, _, HX⟩ := HSW.elt (k := k) (by rw [← HMM.out]; exact hkm)
      obtain ⟨hx0, hx1, hx2⟩ := HRP.out k (by rw [← HMM.out]; exact hkm)
      rw [HX.out] at hx0 hx1 hx2
      have hxb : decide (x < 0) = false := by simp; omega
      have hxc : decide ((n : Int) ≤ x) = false := by simp; omega
      by_cases hk0 : 0 < k
      · obtain ⟨ad', z, e9, hcz, _, HZ⟩ := HSW.elt (k := k - 1) (by rw [← HMM.out]; omega)
        have e10 := Option.some.inj e9
        subst e10
        have hz := hx2 hk0
        rw [HZ.out] at hz
        have hzb : decide (x ≤ z) = false := by simp; omega
        have hkb : decide ((0 : Int) < (k : Int)) = true := by simp; omega
        have hpm : k - 1 < m := by omega
        clear hx2 HSW hz e9 HZ
        go_wp2_with fail
        go_round
        case rel => exact ⟨k + 1, by omega, by go_num⟩
        case measure => simp [intOf]; omega
      · have hkb : decide ((0 : Int) < (k : Int)) = false := by simp; omega
        clear hx2 HSW
        go_wp2_with fail
        go_round
        case rel => exact ⟨k + 1, by omega, by go_num⟩
        case measure => simp [intOf]; omega
    · obtain rfl : m = k := by omega
      clear hkm hk
      go_wp2_with fail
      clear d0
      go_loopw [12, 62] (fun u i wr => ∃ (k l : Nat) (OA : Option Addr) (oc : Nat), k ≤ n ∧ i = .int .i64 (k : Int) ∧ u = .slice OA l oc ∧ Hid ((otTo set k).length = l) ∧ Hid (OI w3.heap.size wr (.slice OA l oc) (otTo set k)) ∧ Hid (Below w3.heap.size w3 wr)) (fun _ i _ => n - (intOf i).toNat)
      case atStart => exact ⟨0, 0, none, 0, Nat.zero_le _, rfl, rfl, rfl, OI.nil _ _, bl_refl _⟩
      case round =>
        obtain ⟨k, l, OA, oc, hk, rfl, rfl, HOL, HO, HB⟩ := hrel
        by_cases hkn : k < n
        · have HQ4 := Lib.hid (HQ3.out.on HB.out)
          have HSX := Lib.hid (HS.out.below HQ4.out.fm.fb.bel (Nat.le_refl _))
          cases hcn : (set.any fun x => x == (k : Int))
          · have HCN := Lib.hid hcn
            have HNX : Hid (otTo set (k + 1) = otTo set k ++ [(k : Int)]) := hid' (by show _ = _; rw [otTo, if_neg (by rw [hcn]; decide)])
            have hll := otTo_len set k
            have HPL : Hid ((otTo set k).length + [(k : Int)].length ≤ 17592186044416) := by show _ ≤ _; rw [List.length_singleton]; omega
            have HOI1 := Lib.hid (HO.out.alloc (.cells #[.int .i64 (k : Int)] 3))
            have HSC : Hid (SI (wr.alloc (.cells #[.int .i64 (k : Int)] 3)) (.slice (some ⟨wr.heap.size, 0, none⟩) 1 1) [(k : Int)]) := SI.lit wr [(k : Int)] (by simp) (fun j => by
              rcases j with _ | j
              · exact I64.of_small (by show _ ≤ (k : Int); omega) (by show (k : Int) ≤ _; omega)
              · exact I64.zero)
            have HUP : Hid (w3.heap.size ≤ (wr.alloc (.cells #[.int .i64 (k : Int)] 3)).heap.size) := up_alloc HB.out.size _
            have HBA := Lib.hid (HB.out.alloc HB.out.size (.cells #[.int .i64 (k : Int)] 3))
            clear hcn hll
            go_wp2_with fail
            refine (contains_any _ _ set (k : Int) HSX.out).mono ?_
            rintro e w5 ⟨rfl, rfl⟩
            rw [HCN.out]
            go_wp2_with (at_builtin; go_must (refine wpList_catI rfl _ _ rfl w3.heap.size _ (otTo set k) rfl HOI1.out _ [(k : Int)] rfl HSC.out HPL.out HUP.out ?_); (intro v6 w6 ho hg hv6); have HB6 := Lib.hid (HOI1.out.bgrown HBA.out HUP.out hg); rw [← HNX.out] at ho; obtain ⟨A6, c6, rfl⟩ := ho.form'; have HO6 := Lib.hid ho; clear ho hg hv6)
            exact ⟨⟨k + 1, _, A6, c6, by omega, by push_cast; rfl, rfl, rfl, HO6, HB6⟩, by simp only [intOf]; omega⟩
          · have HCN := Lib.hid hcn
            have HNX : Hid (otTo set (k + 1) = otTo set k) := hid' (by show _ = _; rw [otTo, if_pos hcn])
            clear hcn
            go_wp2_with fail
            refine (contains_any _ _ set (k : Int) HSX.out).mono ?_
            rintro e w5 ⟨rfl, rfl⟩
            rw [HCN.out]
            go_wp2_with fail
            exact ⟨⟨k + 1, l, OA, oc, by omega, by push_cast; rfl, rfl, by rw [HNX.out]; exact HOL, by rw [HNX.out]; exact HO, HB⟩, by simp only [intOf]; omega⟩
        · obtain rfl : k = n := by omega
          have HQ4 := Lib.hid (HQ3.out.on HB.out)
          have hs4 := HB.out.size
          have hrg := otTo_rng set k
          have HOS : Hid (SI wr (.slice OA l oc) (otTo set k)) := hid' (HO.out.si (by rw [HOL.out]; have := otTo_len set k; rw [HOL.out] at this; omega) (fun j => by have := hrg j; exact I64.of_small (by omega) (by omega)))
          rw [HOF.out] at HOS HOL
          clear hkn hk hrg HO HB HQ3
          have c0 := HQ4.out.fm.fb.c0; have c1 := HQ4.out.fm.fb.c1; have c2 := HQ4.out.fm.fb.c2; have d0 := HQ4.out.fm.d0; have d1 := HQ4.out.fm.d1
          go_wp2_with fail
          refine (HCO.out wr _ HQ4.out.fm.fb.bel HOS.out).mono ?_
          rintro e w5 ⟨u5, rfl, hx5, hb5⟩
          obtain ⟨U5, uc5, rfl, _⟩ := hx5.out
          have HX5 := Lib.hid hx5.out
          have HQ5 := Lib.hid (HQ4.out.on hb5)
          have hs5 := hb5.size
          clear hx5 hb5 c0 c1 c2 d0 d1 HQ4 HCO HOS
          obtain ⟨lc, hlc⟩ : ∃ lc, lc = CL.length := ⟨_, rfl⟩
          rw [← hlc] at HX5 ⊢
          clear hlc
          go_upto_region 18 with fail
          obtain ⟨w6, g6, e1, e2, h6, hb6⟩ := mk_box w5 27 [.int .i64 (l0 : Int), .slice U5 lc uc5]
          rw [e1, e2]
          have HQ6 := Lib.hid (HQ5.out.on hb6); have HX6 := Lib.hid (HX5.out.below hb6 (Nat.le_refl _)); have HG6 := Lib.hid h6
          have hs6 := hb6.size
          have hg6 : w5.heap.size ≤ g6 := by omega
          clear e1 e2 h6 hb6 HQ5 HX5
          have c0 := HQ6.out.fm.fb.c0; have c1 := HQ6.out.fm.fb.c1; have c2 := HQ6.out.fm.fb.c2
          have x0 : w6.cell? ⟨g6, 0, none⟩ = some (.int .i64 (l0 : Int)) := HG6.out.cell 0
          have x1 : w6.cell? ⟨g6, 1, none⟩ = some (.slice U5 lc uc5) := HG6.out.cell 1
          go_wp2_with fail
          refine (HTR.out w6 _ HQ6.out.fm.fb.bel HX6.out).mono ?_
          rintro e w7 ⟨u7, rfl, hx7, hb7⟩
          obtain ⟨U7, uc7, rfl, _⟩ := hx7.out
          have HX7 := Lib.hid hx7
          have hgl60 := HG6.out.lt
          have HQ7 := Lib.hid (HQ6.out.on hb7); have HG7 := Lib.hid (HG6.out.belowS hb7)
          have hs7 := hb7.size
          have hgl6 := HG6.out.lt
          clear hx7 hb7 c0 c1 c2 x0 x1 HQ6 HX6 HG6 HTR
          obtain ⟨lt, hlt⟩ : ∃ lt, lt = T.length := ⟨_, rfl⟩
          rw [← hlt] at HX7 ⊢
          clear hlt
          obtain ⟨x0, x1, f0, f1⟩ := HG7.out.two
          go_upto_region 21 with fail
          obtain ⟨w8, h8, HL8⟩ := lay2 (x := .int .i64 (r : Int)) (y := .slice U7 lt uc7) HG7.out
          rw [h8]
          have HQ8 := Lib.hid (FMQ.gr HQ7.out HL8.gr (by omega)); have HX8 := Lib.hid (HX7.out.grown HL8.gr (by rintro b e; cases e; exact hgl60)); have HG8 := Lib.hid HL8.blk
          have hs8 := HL8.gr.size
          clear h8 HL8 x0 x1 f0 f1 HQ7 HX7 HG7
          obtain ⟨x0, x1, f0, f1⟩ := HG8.out.two
          have d1 := HQ8.out.fm.d1
          go_upto_region 22 with fail
          have hgz := gr_set1 w8 g6 0 (.int .i64 (r : Int))
          have HQ9 := Lib.hid (FMQ.gr HQ8.out hgz (by omega)); have HG9 := Lib.hid (HG8.out.set_ 0 (.int .i64 (r : Int)))
          have hs9 := hgz.size
          have HX9 : Hid (SS (w8.setCell ⟨g6, 0, none⟩ (.int .i64 (r : Int))) (.slice U7 lt uc7) T) := (HX8.out.setCell (a := ⟨g6, 0, none⟩) hgl60 _).out
          generalize w8.setCell ⟨g6, 0, none⟩ (.int .i64 (r : Int)) = w9 at *
          clear hgz x0 x1 f0 f1 d1 HQ8 HX8 HG8
          have c0 := HQ9.out.fm.fb.c0; have c1 := HQ9.out.fm.fb.c1; have c2 := HQ9.out.fm.fb.c2
          have x0 : w9.cell? ⟨g6, 0, none⟩ = some (.int .i64 (r : Int)) := HG9.out.cell 0
          have x1 : w9.cell? ⟨g6, 1, none⟩ = some (.slice U7 lt uc7) := HG9.out.cell 1
          go_wp2_with fail
          refine (HKE.out w9 _ HQ9.out.fm.fb.bel HX9.out).mono ?_
          rintro e w10 ⟨u10, rfl, hx10, hb10⟩
          obtain ⟨U10, uc10, rfl, _⟩ := hx10.out
          have HX10 := Lib.hid hx10.out
          have HQ10 := Lib.hid (HQ9.out.on hb10)
          have hs10 := hb10.size
          clear hx10 hb10 c0 c1 c2 x0 x1 HQ9 HX9 HG9 HKE
          obtain ⟨ln, hln⟩ : ∃ ln, ln = N.length := ⟨_, rfl⟩
          rw [← hln] at HX10 ⊢
          clear hln
          go_upto_region 23 with fail
          obtain ⟨w11, g11, e1, e2, h11, hb11⟩ := mk_box w10 27 [.int .i64 (r : Int), .slice U10 ln uc10]
          rw [e1, e2]
          have HQ11 := Lib.hid (HQ10.out.on hb11); have HX11 := Lib.hid (HX10.out.below hb11 (Nat.le_refl _))
          have hs11 := hb11.size
          have x0 : w11.cell? ⟨g11, 0, none⟩ = some (.int .i64 (r : Int)) := h11.cell 0
          have x1 : w11.cell? ⟨g11, 1, none⟩ = some (.slice U10 ln uc10) := h11.cell 1
          clear e1 e2 h11 hb11 HQ10 HX10
          have c0 := HQ11.out.fm.fb.c0; have c1 := HQ11.out.fm.fb.c1; have c2 := HQ11.out.fm.fb.c2; have d0 := HQ11.out.fm.d0; have d1 := HQ11.out.fm.d1
          go_wp2_with fail
          refine (HMU.out w11 _ HQ11.out.fm.fb.bel HX11.out).mono ?_
          rintro e w12 ⟨u12, rfl, hx12, hb12⟩
          obtain ⟨U12, uc12, rfl, _⟩ := hx12.out
          have HX12 := Lib.hid hx12.out
          have HQ12 := Lib.hid (HQ11.out.on hb12)
          have hs12 := hb12.size
          clear hx12 hb12 c0 c1 c2 d0 d1 x0 x1 HQ11 HX11 HMU
          obtain ⟨lm, hlm⟩ : ∃ lm, lm = MM.length := ⟨_, rfl⟩
          rw [← hlm] at HX12 ⊢
          clear hlm
          go_upto_region 26 with fail
          obtain ⟨w13, g13, e1, e2, h13, hb13⟩ := mk_box w12 27 [.int .i64 (k : Int), .slice U12 lm uc12]
          rw [e1, e2]
          have HQ13 := Lib.hid (HQ12.out.on hb13); have HX13 := Lib.hid (HX12.out.below hb13 (Nat.le_refl _))
          have hs13 := hb13.size
          have x0 : w13.cell? ⟨g13, 0, none⟩ = some (.int .i64 (k : Int)) := h13.cell 0
          have x1 : w13.cell? ⟨g13, 1, none⟩ = some (.slice U12 lm uc12) := h13.cell 1
          clear e1 e2 h13 hb13 HQ12 HX12
          have c0 := HQ13.out.fm.fb.c0; have c1 := HQ13.out.fm.fb.c1; have c2 := HQ13.out.fm.fb.c2
          go_wp2_with fail
          refine (HCA.out w13 _ HQ13.out.fm.fb.bel HX13.out).mono ?_
          rintro e w14 ⟨U14, PU, pc, rfl, hx14, _, hb14⟩
          obtain ⟨lz, hlz⟩ : ∃ lz, lz = SP.length := ⟨_, rfl⟩
          rw [← hlz] at hx14 ⊢
          clear hlz
          have HX14 := Lib.hid (hx14.imp fun _ h => h.1)
          have HQ14 := Lib.hid (HQ13.out.on hb14)
          have hs14 := hb14.size
          clear hx14 hb14 c0 c1 c2 x0 x1 HX13 HCA
          go_upto_region 29 with fail
          obtain ⟨w15, g15, e1, e2, h15, hb15⟩ := mk_box w14 27 [.int .i64 (k : Int), .slice U14 lz lz]
          rw [e1, e2]
          have HQ15 := Lib.hid (HQ14.out.on hb15); have HX15 := Lib.hid (HX14.out.on hb15)
          have x0 : w15.cell? ⟨g15, 0, none⟩ = some (.int .i64 (k : Int)) := h15.cell 0
          have x1 : w15.cell? ⟨g15, 1, none⟩ = some (.slice U14 lz lz) := h15.cell 1
          clear e1 e2 h15 hb15 HQ14 HX14
          obtain ⟨y0, y1, f0, f1⟩ := HQ15.out.q.two
          go_wp2_with fail
          obtain ⟨wz, hz, HL⟩ := lay2 (x := .int .i64 (k : Int)) (y := .slice U14 lz lz) HQ15.out.q
          rw [hz]
          have q0 := HL.c0; have q1 := HL.c1
          refine bodyPost_ret (v := .tuple #[.agg #[.int .i64 (k : Int), .slice U14 lz lz], .int .i64 0]) (by simp [results, Tryz.results19, go_sem, q0, q1]) rfl ?_
          exact ⟨_, rfl, (HX15.out.grown HL.gr (by rintro b e; cases e; omega)).mono HQ13.out.fm.fb.bel.size, HL.below HQ15.out.fm.fb.bel HQ15.out.fm.fb.bel.size (by omega)⟩

end Go.Proofs.YtmejijekcfhonaaGreat

/- The example of the chapter, reckoned. No program in sight. -/
namespace Go.Proofs.YtmejijekcfhonaaGreat
set_option linter.unusedVariables false
set_option maxRecDepth 100000

def xA : List (List Int) := [[1, 0, 1], [0, 1, 1]]
def xB : List (List Int) := [[1, 0, 0]]
def xS : List (List Int) := [[1, 0, 0], [0, 1, 0], [0, 0, 1]]
theorem x1 : sumS (refOps 2 1 []) xA xB 3 = xS := by decide +kernel
theorem x2 : meetS (refOps 2 1 []) xA xB 3 = [] := by decide +kernel
theorem x3 : nullL (refOps 2 1 []) xA 3 = [[1, 1, 1]] := by decide +kernel
theorem x4 : crdL (refOps 2 1 []) xA 3 [1, 1, 0] = [1, 1] := by decide +kernel
theorem x5 : restL (refOps 2 1 []) xA [1, 0, 0] = [0, 0, 1] := by decide +kernel
theorem x6 : quoS (refOps 2 1 []) xB xS 3 = [[0, 1, 0], [0, 0, 1]] := by decide +kernel
theorem x7 : supL (refOps 2 1 []) xA 3 (othersL [1, 2] 3) = [[0, 1, 1]] := by decide +kernel
theorem x8 : inL (refOps 2 1 []) xA [1, 0, 0] = false := by decide +kernel
theorem x9 : insB (refOps 2 1 []) xB xS = true := by decide +kernel
theorem x10 : inL (refOps 2 1 []) xA [1, 1, 0] = true := by decide +kernel
theorem x11 : canonL (refOps 2 1 []) xA 3 = xA := by decide +kernel
theorem x12 : canonL (refOps 2 1 []) xB 3 = xB := by decide +kernel
theorem x13 : canonL (refOps 2 1 []) xS 3 = xS := by decide +kernel
theorem rows_of {n : Nat} {l : List (List Int)} (h : (l.all fun r => decide (r.length = n) && r.all fun x => decide (0 ≤ x ∧ x < 2)) = true) : Rows (orderF 2 1) n l := fun k hk => by
  rw [List.all_eq_true] at h
  have hm : l.getD k [] ∈ l := by simp [List.getD, hk]
  have h1 := h _ hm
  rw [Bool.and_eq_true, decide_eq_true_eq, List.all_eq_true] at h1
  refine ⟨h1.1, fun i => ?_⟩
  rw [order21]
  by_cases hi : i < (l.getD k []).length
  · have h2 := h1.2 _ (getD_mem hi)
    rwa [decide_eq_true_eq] at h2
  · rw [getD_len (by omega)]; omega
theorem fld21 : FieldP 2 1 [] := ⟨by rw [order21]; decide, ⟨by decide, fun d h1 h2 => by omega⟩, ⟨fun _ => rfl, fun h => absurd rfl h⟩, fun h => absurd rfl h⟩
theorem sp_of {l : List (List Int)} (h : (l.all fun r => decide (r.length = 3) && r.all fun x => decide (0 ≤ x ∧ x < 2)) = true) (h2 : canonL (refOps 2 1 []) l 3 = l) (hl : l.length ≤ 256) : spaceE 2 1 [] 3 l = 0 :=
  spaceE_ok (matE_mk (n := 3) fld21 (by omega) hl (rows_of h)) h2
end Go.Proofs.YtmejijekcfhonaaGreat

/- ref09.Unit. -/
namespace Go.Proofs.YtmejijekcfhonaaGreat
open Go.RowKit
set_option linter.unusedVariables false
set_option maxRecDepth 100000

/-- the first k unit words of length n -/
def unTo (n : Nat) : Nat → List (List Int)
  | 0 => []
  | k + 1 => unTo n k ++ [unitL n k]
theorem unTo_len (n : Nat) : ∀ k, (unTo n k).length = k
  | 0 => rfl
  | k + 1 => by rw [unTo, List.length_append, unTo_len n k]; rfl
set_option maxHeartbeats 8000000 in
theorem rUnit_any (w : World) (n : Nat) (hn : n ≤ 100000) : Calls Tryz.prog 25 #[.int .i64 (n : Int)] w (fun e w' => ∃ A c, e = .returned (.slice A n c) ∧ SS w' (.slice A n c) (unTo n n) ∧ Below w.heap.size w w') := by
  have hmk := fun (w : World) => run_mkI n (by omega) w
  go_enter Tryz.func25, Tryz.ntmps25
  go_wp2_with fail
  go_loopw [3, 4] (fun u i wr => ∃ (k : Nat) (OA : Option Addr) (oc : Nat), k ≤ n ∧ i = .int .i64 (k : Int) ∧ u = .slice OA k oc ∧ Hid (OS w.heap.size (fun _ => False) wr (.slice OA k oc) (unTo n k)) ∧ Hid (Below w.heap.size w wr)) (fun _ i _ => n - (intOf i).toNat)
  case atStart => exact ⟨0, none, 0, Nat.zero_le _, rfl, rfl, OS.nil _ _ _, bl_refl _⟩
  case round =>
    obtain ⟨k, OA, oc, hk, rfl, rfl, HO, HB⟩ := hrel
    by_cases hkn : k < n
    · have HNX : Hid (unTo n (k + 1) = unTo n k ++ [unitL n k]) := rfl
      have HOL : Hid (∀ g, (Value.slice OA k oc).ownBlock = some g → g < wr.heap.size) := hid' fun g hg => (HO.out.lt hg).2
      go_upto_region 6 with fail
      obtain ⟨w1, gx, e1, e2, hX, hb⟩ := mk_row wr n
      rw [e1, e2]
      have HX := Lib.hid hX
      have HO1 := Lib.hid ((HO.out.names (Y := fun g => g = gx) (fun g h1 h2 => by omega)).below hb)
      have HB1 := Lib.hid (bl_trans HB.out hb)
      have hgx : w.heap.size ≤ gx := by have := HB.out.size; omega
      have u0 := hX.cell k (by simp; exact hkn)
      have uf := hX.frozen k
      clear e1 hX hb HO HB
      go_upto_region 7 with fail
      have hgz := gr_set1 w1 gx k (.int .i64 1)
      have HX2 : Hid (RI (w1.setCell ⟨gx, k, none⟩ (.int .i64 1)) gx (unitL n k)) := hid' (HX.out.set k 1)
      have HO2 := Lib.hid ((HO1.out.grown hgz (fun g e => by
        have e3 := Option.some.inj e
        subst e3
        exact ⟨fun h => by have := HOL.out _ h; omega, rfl⟩)).names (Y := fun _ => False) (fun g _ h => h.elim))
      have HB2 := Lib.hid (HB1.out.setCell (p := ⟨gx, k, none⟩) hgx (.int .i64 1))
      generalize w1.setCell ⟨gx, k, none⟩ (.int .i64 1) = w2 at *
      clear hgz u0 uf HX HO1 HB1
      have HXS : Hid (SI w2 (.slice (some ⟨gx, 0, none⟩) n n) (unitL n k)) := hid' (by
        have hl : (unitL n k).length = n := by simp [unitL]
        have h := HX2.out.si (by rw [hl]; omega) (fun i => by
          have e : (unitL n k).getD i 0 = 0 ∨ (unitL n k).getD i 0 = 1 := by
            unfold unitL
            rw [List.getD_eq_getElem?_getD, List.getElem?_set, List.length_replicate, List.getElem?_replicate]
            by_cases h1 : k = i
            · rw [if_pos h1, if_pos hkn]; exact .inr rfl
            · rw [if_neg h1]
              by_cases h2 : i < n
              · rw [if_pos h2]; exact .inl rfl
              · rw [if_neg h2]; exact .inl rfl
          rcases e with e | e <;> rw [e]
          · exact I64.zero
          · exact I64.one)
        rwa [hl] at h)
      have HOA := Lib.hid (HO2.out.alloc (.cells #[.slice (some ⟨gx, 0, none⟩) n n] 22))
      have HBX := Lib.hid (box1 (w := w2) (u := .slice (some ⟨gx, 0, none⟩) n n) (t := 22))
      have hba := bl_alloc w2 (.cells #[.slice (some ⟨gx, 0, none⟩) n n] 22)
      have HXA := Lib.hid (HXS.out.below hba (Nat.le_refl _))
      have HUP := Lib.hid (up_alloc (w := w2) (B := w.heap.size) HB2.out.size (.cells #[.slice (some ⟨gx, 0, none⟩) n n] 22))
      have HBA := Lib.hid (bl_trans HB2.out hba)
      clear hba HXS HO2 HB2
      go_wp2_with (at_builtin; refine wpList_pushS rfl _ _ rfl w.heap.size (fun _ => False) _ (unTo n k) rfl HOA.out w2.heap.size 1 _ (unitL n k) rfl HBX.out HXA.out (fun _ g hg => by have e3 : gx = g := Option.some.inj hg; exact ⟨fun e => by have h2 := HOL.out g e; omega, fun h => h⟩) (by rw [unTo_len]; omega) HUP.out ?_; (intro v5 w5 ho5 hg5 hv5); have HB5 := Lib.hid (HOA.out.bgrown HBA.out HUP.out hg5); rw [← HNX.out] at ho5; obtain ⟨A5, c5, rfl⟩ := ho5.form; rw [unTo_len] at ho5 ⊢; have HO5 := Lib.hid ho5; clear ho5 hg5 hv5)
      exact ⟨⟨k + 1, A5, c5, by omega, by push_cast; rfl, rfl, HO5, HB5⟩, by simp only [intOf]; omega⟩
    · obtain rfl : k = n := by omega
      have hS := HO.out.ss (by rw [unTo_len]; omega)
      have HS := Lib.hid hS
      go_wp2_with fail
      go_ret
      exact ⟨_, _, rfl, HS.out, HB.out⟩
end Go.Proofs.YtmejijekcfhonaaGreat
