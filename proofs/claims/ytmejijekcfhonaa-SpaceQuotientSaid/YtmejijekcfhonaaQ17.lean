/- SpaceQuotient: the law returns true for every input; each argument reads behind the call as it read before. The walk is in LQuot. -/
import Derived.Test.YtmejijekcfhonaaQ9
import Derived.Test.YtmejijekcfhonaaQ14
import Derived.Test.YtmejijekcfhonaaQ16
set_option linter.unusedSimpArgs false
set_option linter.unusedVariables false

/- The law SpaceQuotient returns true for every input. Printed by a program (gen_quot.py). -/
namespace Go.Proofs.Ytmejijekcfhonaa
open Go.RowKit
set_option linter.unusedVariables false
set_option maxRecDepth 100000

set_option maxHeartbeats 64000000 in
theorem lawQuot (w : World) {fv v1 v2 : Value} (hf : ∃ P M mv Mod, fv = .agg #[.int .i64 P, .int .i64 M, mv] ∧ SI w mv Mod) (h1 : ∃ cols rv rows, v1 = .agg #[.int .i64 cols, rv] ∧ SS w rv rows) (h2 : ∃ k : Nat, k < 256 ∧ v2 = .int .u8 (k : Int)) :
    Calls Try.prog 7 #[fv, v1, v2] w (RetB w true) := by
  obtain ⟨P, M, mv, Mod, rfl, hm⟩ := hf
  obtain ⟨k1, rv1, R1, rfl, hv1⟩ := h1
  obtain ⟨kk, hkk, rfl⟩ := h2
  have HM := Lib.hid hm; have HV1 := Lib.hid hv1; clear hm hv1
  have hq := FMBox.mk' w P M mv k1 rv1
  obtain ⟨w1, e1⟩ : ∃ w1, (w.alloc (.cells #[.int .i64 P, .int .i64 M, mv] 24)).alloc (.cells #[.int .i64 k1, rv1] 27) = w1 := ⟨_, rfl⟩
  rw [e1] at hq
  have HE1 := Lib.hid e1; clear e1
  have T0 := Lib.hid hq.fb.blk; have T1 := Lib.hid hq.mb; have HB := Lib.hid hq.fb.bel; clear hq
  go_enter Try.func7, Try.ntmps7
  go_wp2_with fail
  rw [HE1.out]
  clear HE1
  go_wp2_with fail
  refine (awake_any _).mono ?_
  rintro e y1 ⟨rfl, hb1⟩
  replace T0 := Lib.hid (T0.out.belowS hb1)
  replace T1 := Lib.hid (T1.out.belowS hb1)
  replace HB := Lib.hid (bl_trans HB.out hb1)
  have cT10 : y1.cell? ⟨w.heap.size + 1, 0, none⟩ = some (.int .i64 k1) := T1.out.cell 0
  have cT11 : y1.cell? ⟨w.heap.size + 1, 1, none⟩ = some (rv1) := T1.out.cell 1
  go_wp2_with fail
  refine (few10_any _ k1 k1 rv1 rv1 R1 R1 (HV1.out.below HB.out (Nat.le_refl _)) (HV1.out.below HB.out (Nat.le_refl _))).mono ?_
  rintro e y2 ⟨rfl, hb2⟩
  clear cT10 cT11
  replace T0 := Lib.hid (T0.out.belowS hb2)
  replace T1 := Lib.hid (T1.out.belowS hb2)
  replace HB := Lib.hid (bl_trans HB.out hb2)
  cases hfw : few10 k1 R1 k1 R1
  · have HFW := Lib.hid hfw; clear hfw
    go_wp2_with fail
    refine (awake_any _).mono ?_
    rintro e y9 ⟨rfl, hb9⟩
    go_wp2_with fail
    go_ret
    exact ⟨rfl, bl_trans HB.out hb9⟩
  have hk1 : k1 ≤ 20 := few10_le hfw
  clear hfw
  have cT00 : y2.cell? ⟨w.heap.size, 0, none⟩ = some (.int .i64 P) := T0.out.cell 0
  have cT01 : y2.cell? ⟨w.heap.size, 1, none⟩ = some (.int .i64 M) := T0.out.cell 1
  have cT02 : y2.cell? ⟨w.heap.size, 2, none⟩ = some (mv) := T0.out.cell 2
  have cT10 : y2.cell? ⟨w.heap.size + 1, 0, none⟩ = some (.int .i64 k1) := T1.out.cell 0
  have cT11 : y2.cell? ⟨w.heap.size + 1, 1, none⟩ = some (rv1) := T1.out.cell 1
  go_wp2_with fail
  refine (canon10_any _ P M k1 mv rv1 Mod R1 (HM.out.below HB.out (Nat.le_refl _)) (HV1.out.below HB.out (Nat.le_refl _))).mono ?_
  rintro e y3 ⟨cB, UB, lB, tB, bB, rfl, hxB, hb3⟩
  clear cT00 cT01 cT02 cT10 cT11
  replace T0 := Lib.hid (T0.out.belowS hb3)
  replace T1 := Lib.hid (T1.out.belowS hb3)
  replace HB := Lib.hid (bl_trans HB.out hb3)
  have PB := Lib.hid hxB; clear hxB
  go_upto_region 4 with fail
  obtain ⟨z3, gB, e1, e2, hbx, hbz⟩ := mk_box y3 27 [.int .i64 cB, .slice UB lB tB]
  rw [e1, e2]
  clear e1
  replace T0 := Lib.hid (T0.out.belowS hbz)
  replace T1 := Lib.hid (T1.out.belowS hbz)
  replace PB := Lib.hid (PB.out.below hbz (Nat.le_refl _))
  replace HB := Lib.hid (bl_trans HB.out hbz)
  have TB := Lib.hid hbx; clear hbx hbz e2
  cases bB
  · go_wp2_with fail
    go_ret
    exact ⟨rfl, HB.out⟩
  obtain ⟨n, rfl, rfl, hma, rfl, hsB⟩ := PB.out rfl
  clear PB
  obtain ⟨hfd, hn256, hCB⟩ := can_space hma
  have hO := ref_fld hfd
  clear hma
  generalize canonL (refOps P M Mod) R1 n = B at *
  have hlB := hCB.le
  have XB := Lib.hid hsB; clear hsB
  obtain ⟨l, hl⟩ : ∃ l, l = B.length := ⟨_, rfl⟩
  rw [← hl] at hlB XB TB
  obtain ⟨i, hi⟩ : ∃ i, i = kk % (l + 1) := ⟨_, rfl⟩
  have hil : i ≤ l := by have := Nat.mod_lt kk (show 0 < l + 1 by omega); omega
  have htm : ((kk : Nat) : Int).tmod ((l : Int) + 1) = (i : Int) := by rw [hi]; exact (Int.ofNat_tmod kk (l + 1)).symm
  have h0l : ¬ ((l : Int) + 1 = 0) := by omega
  have HL := Lib.hid hl; have HCB := Lib.hid hCB; have HO := Lib.hid hO; have HFD := Lib.hid hfd
  clear hl hi hCB hO hfd
  have cT00 : z3.cell? ⟨w.heap.size, 0, none⟩ = some (.int .i64 P) := T0.out.cell 0
  have cT01 : z3.cell? ⟨w.heap.size, 1, none⟩ = some (.int .i64 M) := T0.out.cell 1
  have cT02 : z3.cell? ⟨w.heap.size, 2, none⟩ = some (mv) := T0.out.cell 2
  have cTB0 : z3.cell? ⟨gB, 0, none⟩ = some (.int .i64 (n : Int)) := TB.out.cell 0
  have cTB1 : z3.cell? ⟨gB, 1, none⟩ = some (.slice UB l tB) := TB.out.cell 1
  rw [← HL.out]
  go_upto_region 7 with fail
  clear cT00 cT01 cT02 cTB0 cTB1
  obtain ⟨D, hD⟩ : ∃ D, D = B.drop i := ⟨_, rfl⟩
  have hDl : D.length = l - i := by rw [hD, List.length_drop, HL.out]
  have hCD : Cn (refOps P M Mod) (orderF P M) n D := by rw [hD]; exact HCB.out.drop HO.out i
  obtain ⟨DA, hDA⟩ : ∃ DA, (if tB = i then UB else Option.map (fun x => x.add i) UB) = DA := ⟨_, rfl⟩
  have hXD : ∀ w', SS w' (.slice UB l tB) B → SS w' (.slice DA (l - i) (tB - i)) D := fun w' h => by
    rw [hD, ← hDA, HL.out]; rw [HL.out] at h; exact h.dropv (by rw [← HL.out]; exact hil)
  have XDD := Lib.hid hXD; clear hXD
  have hDc : canonL (refOps P M Mod) D n = D := hCD.self HO.out
  have KA := Lib.hid (fun (w' : World) (u1 : Value) (hb : Below w.heap.size w w') (h1 : SS w' u1 D) => canon10_ok w' P M n mv u1 Mod D (HM.out.below hb (Nat.le_refl _)) h1 (matE_mk HFD.out hn256 (by omega) hCD.rows))
  rw [hDc] at KA
  obtain ⟨d, hd⟩ : ∃ d, d = D.length := ⟨_, rfl⟩
  have hdi : d + i = l := by omega
  have hd2 : l - i = d := by omega
  rw [hd2] at XDD
  have HD := Lib.hid hd; have HDE := Lib.hid hD; have HCD := Lib.hid hCD
  have hlt : l ≤ tB := by obtain ⟨_, _, e, h⟩ := XB.out; cases e; have := h.cap; rw [← HL.out] at this; exact this
  clear hd hD hDl hCD hDc
  have cT00 : z3.cell? ⟨w.heap.size, 0, none⟩ = some (.int .i64 P) := T0.out.cell 0
  have cT01 : z3.cell? ⟨w.heap.size, 1, none⟩ = some (.int .i64 M) := T0.out.cell 1
  have cT02 : z3.cell? ⟨w.heap.size, 2, none⟩ = some (mv) := T0.out.cell 2
  have cTB0 : z3.cell? ⟨gB, 0, none⟩ = some (.int .i64 (n : Int)) := TB.out.cell 0
  have cTB1 : z3.cell? ⟨gB, 1, none⟩ = some (.slice UB l tB) := TB.out.cell 1
  have CT00 := Lib.hid cT00
  have CT01 := Lib.hid cT01
  have CT02 := Lib.hid cT02
  have CTB0 := Lib.hid cTB0
  have CTB1 := Lib.hid cTB1
  go_cut [8, 10] from 41 to 52 (fun t8 t10 wc => ∃ g AA ca, t8 = .bool true ∧ t10 = .pointer (some ⟨g, 0, none⟩) ∧ Hid (Blk wc g 27 [.int .i64 (n : Int), .slice AA d ca]) ∧ Hid (SS wc (.slice AA d ca) D) ∧ Hid (Below z3.heap.size z3 wc))
  case first =>
    refine Kept.start (S := fun w' => w'.cell? ⟨w.heap.size, 0, none⟩ = some (.int .i64 P) ∧ w'.cell? ⟨w.heap.size, 1, none⟩ = some (.int .i64 M) ∧ w'.cell? ⟨w.heap.size, 2, none⟩ = some (mv) ∧ w'.cell? ⟨gB, 0, none⟩ = some (.int .i64 (n : Int)) ∧ w'.cell? ⟨gB, 1, none⟩ = some (.slice UB l tB)) (by kernel_rfl) (⟨cT00, cT01, cT02, cTB0, cTB1⟩) (fun hHeld => ?_)
    change Kept _ _ _ _ 15 _ _ _
    have hdrew := bl_drew z3
    generalize z3.drew = wq1 at hdrew hHeld ⊢
    have HBB := Lib.hid hdrew
    clear cT00 cT01 cT02 cTB0 cTB1
    clear hdrew
    refine Kept.take (i := 0) (v := ?_) rfl (by kernel_rfl) (by kernel_rfl) (by kernel_rfl) (fun _ _ _ h => h) (Or.inl ⟨by kernel_rfl, ?_⟩) hHeld ?_
    rotate_left
    · intro w' hSw; (try dsimp only at hSw); first | (go_simp; done) | (go_simp; with_reducible rfl)
    try simp only [List.getElem_toArray, List.getElem_cons_zero, List.getElem_cons_succ, Act.put, List.setIfInBounds_toArray, List.set_cons_zero, List.set_cons_succ]
    refine Kept.take (i := 1) (v := ?_) rfl (by kernel_rfl) (by kernel_rfl) (by kernel_rfl) (fun _ _ _ h => h) (Or.inl ⟨by kernel_rfl, ?_⟩) hHeld ?_
    rotate_left
    · intro w' hSw; (try dsimp only at hSw); first | (go_simp; done) | (go_simp; with_reducible rfl)
    try simp only [List.getElem_toArray, List.getElem_cons_zero, List.getElem_cons_succ, Act.put, List.setIfInBounds_toArray, List.set_cons_zero, List.set_cons_succ]
    refine Kept.take (i := 2) (v := ?_) rfl (by kernel_rfl) (by kernel_rfl) (by kernel_rfl) (fun _ _ _ h => h) (Or.inl ⟨by kernel_rfl, ?_⟩) hHeld ?_
    rotate_left
    · intro w' hSw; (try dsimp only at hSw); first | (go_simp; done) | (go_simp; with_reducible rfl)
    try simp only [List.getElem_toArray, List.getElem_cons_zero, List.getElem_cons_succ, Act.put, List.setIfInBounds_toArray, List.set_cons_zero, List.set_cons_succ]
    refine Kept.take (i := 3) (v := ?_) rfl (by kernel_rfl) (by kernel_rfl) (by kernel_rfl) (fun _ _ _ h => h) (Or.inl ⟨by kernel_rfl, ?_⟩) hHeld ?_
    rotate_left
    · intro w' hSw; (try dsimp only at hSw); first | (go_simp; done) | (go_simp; with_reducible rfl)
    try simp only [List.getElem_toArray, List.getElem_cons_zero, List.getElem_cons_succ, Act.put, List.setIfInBounds_toArray, List.set_cons_zero, List.set_cons_succ]
    refine Kept.take (i := 4) (v := ?_) rfl (by kernel_rfl) (by kernel_rfl) (by kernel_rfl) (fun _ _ _ h => h) (Or.inl ⟨by kernel_rfl, ?_⟩) hHeld ?_
    rotate_left
    · intro w' hSw; (try dsimp only at hSw); first | (go_simp; done) | (go_simp; with_reducible rfl)
    try simp only [List.getElem_toArray, List.getElem_cons_zero, List.getElem_cons_succ, Act.put, List.setIfInBounds_toArray, List.set_cons_zero, List.set_cons_succ]
    refine Kept.take (i := 5) (v := ?_) rfl (by kernel_rfl) (by kernel_rfl) (by kernel_rfl) (fun _ _ _ h => h) (Or.inl ⟨by kernel_rfl, ?_⟩) hHeld ?_
    rotate_left
    · intro w' hSw; (try dsimp only at hSw); first | (go_simp; done) | (go_simp; with_reducible rfl)
    try simp only [List.getElem_toArray, List.getElem_cons_zero, List.getElem_cons_succ, Act.put, List.setIfInBounds_toArray, List.set_cons_zero, List.set_cons_succ]
    refine Kept.take (i := 6) (v := ?_) rfl (by kernel_rfl) (by kernel_rfl) (by kernel_rfl) (fun _ _ _ h => h) (Or.inl ⟨by kernel_rfl, ?_⟩) hHeld ?_
    rotate_left
    · intro w' hSw; (try dsimp only at hSw); first | (go_simp; done) | (go_simp; with_reducible rfl)
    try simp only [List.getElem_toArray, List.getElem_cons_zero, List.getElem_cons_succ, Act.put, List.setIfInBounds_toArray, List.set_cons_zero, List.set_cons_succ]
    refine Kept.take (i := 7) (v := ?_) rfl (by kernel_rfl) (by kernel_rfl) (by kernel_rfl) (fun _ _ _ h => h) (Or.inl ⟨by kernel_rfl, ?_⟩) hHeld ?_
    rotate_left
    · intro w' hSw; (try dsimp only at hSw); first | (go_simp; done) | (go_simp; with_reducible rfl)
    try simp only [List.getElem_toArray, List.getElem_cons_zero, List.getElem_cons_succ, Act.put, List.setIfInBounds_toArray, List.set_cons_zero, List.set_cons_succ]
    refine Kept.two (i := 8) (j := 12) (oi := ?opa2) (oj := ?opb2) (by kernel_rfl) ?hoa2 ?hob2 (fun K hK => ?way12) (fun K hK => ?way22)
    case hoa2 => (conv => lhs; simp only [List.getElem?_toArray, List.getElem?_cons_succ, List.getElem?_cons_zero])
    case hob2 => (conv => lhs; simp only [List.getElem?_toArray, List.getElem?_cons_succ, List.getElem?_cons_zero])
    case way12 =>
      go_simp
      refine (KA.out _ _ (bl_trans HB.out HBB.out) (XDD.out _ (XB.out.below HBB.out (Nat.le_refl _)))).mono ?_
      rintro e wq3 ⟨u, rfl, hs, hb⟩
      obtain ⟨AA, ca, rfl, _⟩ := hs.out
      rw [← HD.out] at hs ⊢
      have HSp := Lib.hid hs
      have HS5 := Lib.hid hs.out
      
      
      replace HBB := Lib.hid (bl_trans HBB.out hb)
      clear hb hs
      refine hK.out _ _ (⟨cell_below HBB.out CT00.out, cell_below HBB.out CT01.out, cell_below HBB.out CT02.out, cell_below HBB.out CTB0.out, cell_below HBB.out CTB1.out⟩) (fun hHeld2 => ?_)
      clear hK K
      replace hHeld := hHeld2
      clear hHeld2
      try simp only [List.getElem_toArray, List.getElem_cons_zero, List.getElem_cons_succ, Act.put, List.setIfInBounds_toArray, List.set_cons_zero, List.set_cons_succ]
      refine Kept.take (i := 9) (v := ?_) rfl (by kernel_rfl) (by kernel_rfl) (by kernel_rfl) (fun _ _ _ h => h) (Or.inl ⟨by kernel_rfl, ?_⟩) hHeld ?_
      rotate_left
      · intro w' hSw; (try dsimp only at hSw); first | (go_simp; done) | (go_simp; with_reducible rfl)
      try simp only [List.getElem_toArray, List.getElem_cons_zero, List.getElem_cons_succ, Act.put, List.setIfInBounds_toArray, List.set_cons_zero, List.set_cons_succ]
      refine Kept.take (i := 10) (v := ?_) rfl (by kernel_rfl) (by kernel_rfl) (by kernel_rfl) (fun _ _ _ h => h) (Or.inl ⟨by kernel_rfl, ?_⟩) hHeld ?_
      rotate_left
      · intro w' hSw; (try dsimp only at hSw); first | (go_simp; done) | (go_simp; with_reducible rfl)
      try simp only [List.getElem_toArray, List.getElem_cons_zero, List.getElem_cons_succ, Act.put, List.setIfInBounds_toArray, List.set_cons_zero, List.set_cons_succ]
      refine Kept.take (i := 11) (v := ?_) rfl (by kernel_rfl) (by kernel_rfl) (by kernel_rfl) (fun _ _ _ h => h) (Or.inl ⟨by kernel_rfl, ?_⟩) hHeld ?_
      rotate_left
      · intro w' hSw; (try dsimp only at hSw); first | (go_simp; done) | (go_simp; with_reducible rfl)
      try simp only [List.getElem_toArray, List.getElem_cons_zero, List.getElem_cons_succ, Act.put, List.setIfInBounds_toArray, List.set_cons_zero, List.set_cons_succ]
      refine Kept.only (i := 12) (o := ?op4) (by kernel_rfl) ?ho4 (fun K hK => ?_)
      case ho4 => (conv => lhs; simp only [List.getElem?_toArray, List.getElem?_cons_succ, List.getElem?_cons_zero])
      go_simp
      obtain ⟨wq5, g, e1, e2, hX, hb⟩ := mk_box wq3 27 [.int .i64 0, .slice none 0 0]
      rw [e1, e2]
      have HBX := Lib.hid hX
      have hgi : z3.heap.size ≤ g := (by have := HBB.out.size; omega)
      have HN : Hid (SSb (fun b => b ≠ g) wq5 (.slice AA d ca) D) := hid' ((HS5.out.ssb.below hb).imp fun b hb _ => by show b ≠ g; omega) 
      replace HBB := Lib.hid (bl_trans HBB.out hb)
      clear e1 e2 hX hb
      refine hK.out _ _ (⟨cell_below HBB.out CT00.out, cell_below HBB.out CT01.out, cell_below HBB.out CT02.out, cell_below HBB.out CTB0.out, cell_below HBB.out CTB1.out⟩) (fun hHeld2 => ?_)
      clear hK K
      replace hHeld := hHeld2
      clear hHeld2
      try simp only [List.getElem_toArray, List.getElem_cons_zero, List.getElem_cons_succ, Act.put, List.setIfInBounds_toArray, List.set_cons_zero, List.set_cons_succ]
      refine Kept.only (i := 13) (o := ?op6) (by kernel_rfl) ?ho6 (fun K hK => ?_)
      case ho6 => (conv => lhs; simp only [List.getElem?_toArray, List.getElem?_cons_succ, List.getElem?_cons_zero])
      obtain ⟨b0, b1, f0, f1⟩ := HBX.out.two
      go_simp
      obtain ⟨wq7, h6, HLL⟩ := lay2 (x := .int .i64 (n : Int)) (y := .slice AA d ca) HBX.out
      rw [h6]
      have HS6 : Hid (SS wq7 (.slice AA d ca) D) := (by first | exact hid' (HN.out.grown HLL.gr (by rintro b e; cases e; exact fun h => h rfl)).ss | exact hid' (HSp.out.grown HLL.gr (by rintro b e; cases e; exact hgl)).out)
      have HBY := Lib.hid HLL.blk
      replace HBB := Lib.hid (HLL.below HBB.out HBB.out.size hgi)
      clear b0 b1 f0 f1 h6 HLL HBX
      refine hK.out _ _ (⟨cell_below HBB.out CT00.out, cell_below HBB.out CT01.out, cell_below HBB.out CT02.out, cell_below HBB.out CTB0.out, cell_below HBB.out CTB1.out⟩) (fun hHeld2 => ?_)
      clear hK K
      replace hHeld := hHeld2
      clear hHeld2
      try simp only [List.getElem_toArray, List.getElem_cons_zero, List.getElem_cons_succ, Act.put, List.setIfInBounds_toArray, List.set_cons_zero, List.set_cons_succ]
      refine Kept.only (i := 14) (by kernel_rfl) rfl (fun K hK => ?_)
      go_simp
      refine hK.out _ _ hHeld (fun hHeld2 => ?_)
      clear hK K
      clear hHeld2
      refine Kept.done (by kernel_rfl) ?_
      try simp only [List.getElem_toArray, List.getElem_cons_zero, List.getElem_cons_succ, Act.put, List.setIfInBounds_toArray, List.set_cons_zero, List.set_cons_succ]
      clear hHeld
      go_wp2_with fail
      go_meet
      exact ⟨g, AA, ca, rfl, rfl, HBY, HS6, HBB⟩
    case way22 =>
      go_simp
      obtain ⟨wq8, g, e1, e2, hX, hb⟩ := mk_box wq1 27 [.int .i64 0, .slice none 0 0]
      rw [e1, e2]
      have HBX := Lib.hid hX
      have hgi : z3.heap.size ≤ g := (by have := HBB.out.size; omega)
      
      replace HBB := Lib.hid (bl_trans HBB.out hb)
      clear e1 e2 hX hb
      refine hK.out _ _ (⟨cell_below HBB.out CT00.out, cell_below HBB.out CT01.out, cell_below HBB.out CT02.out, cell_below HBB.out CTB0.out, cell_below HBB.out CTB1.out⟩) (fun hHeld2 => ?_)
      clear hK K
      replace hHeld := hHeld2
      clear hHeld2
      try simp only [List.getElem_toArray, List.getElem_cons_zero, List.getElem_cons_succ, Act.put, List.setIfInBounds_toArray, List.set_cons_zero, List.set_cons_succ]
      refine Kept.only (i := 8) (o := ?op9) (by kernel_rfl) ?ho9 (fun K hK => ?_)
      case ho9 => (conv => lhs; simp only [List.getElem?_toArray, List.getElem?_cons_succ, List.getElem?_cons_zero])
      go_simp
      refine (KA.out _ _ (bl_trans HB.out HBB.out) (XDD.out _ (XB.out.below HBB.out (Nat.le_refl _)))).mono ?_
      rintro e wq10 ⟨u, rfl, hs, hb⟩
      obtain ⟨AA, ca, rfl, _⟩ := hs.out
      rw [← HD.out] at hs ⊢
      have HSp := Lib.hid hs
      have HS5 := Lib.hid hs.out
      have hgl := HBX.out.lt 
      replace HBX := Lib.hid (HBX.out.belowS hb) 
      replace HBB := Lib.hid (bl_trans HBB.out hb)
      clear hb hs
      refine hK.out _ _ (⟨cell_below HBB.out CT00.out, cell_below HBB.out CT01.out, cell_below HBB.out CT02.out, cell_below HBB.out CTB0.out, cell_below HBB.out CTB1.out⟩) (fun hHeld2 => ?_)
      clear hK K
      replace hHeld := hHeld2
      clear hHeld2
      try simp only [List.getElem_toArray, List.getElem_cons_zero, List.getElem_cons_succ, Act.put, List.setIfInBounds_toArray, List.set_cons_zero, List.set_cons_succ]
      refine Kept.take (i := 9) (v := ?_) rfl (by kernel_rfl) (by kernel_rfl) (by kernel_rfl) (fun _ _ _ h => h) (Or.inl ⟨by kernel_rfl, ?_⟩) hHeld ?_
      rotate_left
      · intro w' hSw; (try dsimp only at hSw); first | (go_simp; done) | (go_simp; with_reducible rfl)
      try simp only [List.getElem_toArray, List.getElem_cons_zero, List.getElem_cons_succ, Act.put, List.setIfInBounds_toArray, List.set_cons_zero, List.set_cons_succ]
      refine Kept.take (i := 10) (v := ?_) rfl (by kernel_rfl) (by kernel_rfl) (by kernel_rfl) (fun _ _ _ h => h) (Or.inl ⟨by kernel_rfl, ?_⟩) hHeld ?_
      rotate_left
      · intro w' hSw; (try dsimp only at hSw); first | (go_simp; done) | (go_simp; with_reducible rfl)
      try simp only [List.getElem_toArray, List.getElem_cons_zero, List.getElem_cons_succ, Act.put, List.setIfInBounds_toArray, List.set_cons_zero, List.set_cons_succ]
      refine Kept.take (i := 11) (v := ?_) rfl (by kernel_rfl) (by kernel_rfl) (by kernel_rfl) (fun _ _ _ h => h) (Or.inl ⟨by kernel_rfl, ?_⟩) hHeld ?_
      rotate_left
      · intro w' hSw; (try dsimp only at hSw); first | (go_simp; done) | (go_simp; with_reducible rfl)
      try simp only [List.getElem_toArray, List.getElem_cons_zero, List.getElem_cons_succ, Act.put, List.setIfInBounds_toArray, List.set_cons_zero, List.set_cons_succ]
      refine Kept.only (i := 13) (o := ?op11) (by kernel_rfl) ?ho11 (fun K hK => ?_)
      case ho11 => (conv => lhs; simp only [List.getElem?_toArray, List.getElem?_cons_succ, List.getElem?_cons_zero])
      obtain ⟨b0, b1, f0, f1⟩ := HBX.out.two
      go_simp
      obtain ⟨wq12, h6, HLL⟩ := lay2 (x := .int .i64 (n : Int)) (y := .slice AA d ca) HBX.out
      rw [h6]
      have HS6 : Hid (SS wq12 (.slice AA d ca) D) := (by first | exact hid' (HN.out.grown HLL.gr (by rintro b e; cases e; exact fun h => h rfl)).ss | exact hid' (HSp.out.grown HLL.gr (by rintro b e; cases e; exact hgl)).out)
      have HBY := Lib.hid HLL.blk
      replace HBB := Lib.hid (HLL.below HBB.out HBB.out.size hgi)
      clear b0 b1 f0 f1 h6 HLL HBX
      refine hK.out _ _ (⟨cell_below HBB.out CT00.out, cell_below HBB.out CT01.out, cell_below HBB.out CT02.out, cell_below HBB.out CTB0.out, cell_below HBB.out CTB1.out⟩) (fun hHeld2 => ?_)
      clear hK K
      replace hHeld := hHeld2
      clear hHeld2
      try simp only [List.getElem_toArray, List.getElem_cons_zero, List.getElem_cons_succ, Act.put, List.setIfInBounds_toArray, List.set_cons_zero, List.set_cons_succ]
      refine Kept.only (i := 14) (by kernel_rfl) rfl (fun K hK => ?_)
      go_simp
      refine hK.out _ _ hHeld (fun hHeld2 => ?_)
      clear hK K
      clear hHeld2
      refine Kept.done (by kernel_rfl) ?_
      try simp only [List.getElem_toArray, List.getElem_cons_zero, List.getElem_cons_succ, Act.put, List.setIfInBounds_toArray, List.set_cons_zero, List.set_cons_succ]
      clear hHeld
      go_wp2_with fail
      go_meet
      exact ⟨g, AA, ca, rfl, rfl, HBY, HS6, HBB⟩
  case rest =>
    clear cT00 cT01 cT02 cTB0 cTB1
    obtain ⟨gD, UD, cD, rfl, rfl, HBY, HSD, HBB⟩ := hcut
    clear CT00 CT01 CT02 CTB0 CTB1
    replace T0 := Lib.hid (T0.out.belowS HBB.out)
    replace TB := Lib.hid (TB.out.belowS HBB.out)
    replace XB := Lib.hid (XB.out.below HBB.out (Nat.le_refl _))
    replace HB := Lib.hid (bl_trans HB.out HBB.out)
    have XD := Lib.hid HSD.out; have TD := Lib.hid HBY.out; clear HSD HBY HBB XDD
    have hO := HO.out; have hfd := HFD.out
    have hCB := HCB.out; have hCD := HCD.out
    have hID : Inside (refOps P M Mod) D B := by rw [HDE.out]; exact drop_inside hO (hCB.r hO) i
    have hQC := quo_cn hO hCD hCB.rows
    have hqs := quo_sum hO hCD hCB hID
    have hqm := quo_meet hO hCD hCB.rows
    have hqd := quo_dim hO hCD hCB hID
    have KQ := Lib.hid (fun (w' : World) (u1 u2 : Value) (hb : Below w.heap.size w w') (h1 : SS w' u1 D) (h2 : SS w' u2 B) => sQuot_ok w' P M n mv u1 u2 Mod D B (HM.out.below hb (Nat.le_refl _)) h1 h2 (hCD.spaceE hfd hn256) (hCB.spaceE hfd hn256) hn256 (insB_of hO hCD.rows hCB hID))
    have KS := Lib.hid (fun (w' : World) (u1 u2 : Value) (hb : Below w.heap.size w w') (h1 : SS w' u1 D) (h2 : SS w' u2 _) => sSum_ok w' P M n mv u1 u2 Mod D _ (HM.out.below hb (Nat.le_refl _)) h1 h2 (hCD.spaceE hfd hn256) (hQC.spaceE hfd hn256) (by omega))
    have KT := Lib.hid (fun (w' : World) (u1 u2 : Value) (hb : Below w.heap.size w w') (h1 : SS w' u1 D) (h2 : SS w' u2 _) => sMeet_ok w' P M n mv u1 u2 Mod D _ (HM.out.below hb (Nat.le_refl _)) h1 h2 (hCD.spaceE hfd hn256) (hQC.spaceE hfd hn256) (by omega))
    rw [hqs] at KS
    rw [hqm] at KT
    clear hqs hqm hID hQC hO hfd hCB hCD
    generalize quoS (refOps P M Mod) D B n = Q at *
    obtain ⟨T, hT⟩ : ∃ T : List (List Int), T = [] := ⟨_, rfl⟩
    rw [← hT] at KT
    have hbT : ((T.length : Int) == 0) = true := by rw [hT]; rfl
    have hbQ : ((Q.length : Int) == (i : Int)) = true := by
      rw [← HL.out, ← HD.out] at hqd
      rw [beq_iff_eq]; omega
    have hlQ : Q.length ≤ 512 := by
      rw [← HL.out, ← HD.out] at hqd
      omega
    clear hqd hT htm h0l
    have cTD0 : wc.cell? ⟨gD, 0, none⟩ = some (.int .i64 (n : Int)) := TD.out.cell 0
    have cTD1 : wc.cell? ⟨gD, 1, none⟩ = some (.slice UD d cD) := TD.out.cell 1
    go_upto_region 10 with fail
    clear cTD0 cTD1
    have cT00 : wc.cell? ⟨w.heap.size, 0, none⟩ = some (.int .i64 P) := T0.out.cell 0
    have cT01 : wc.cell? ⟨w.heap.size, 1, none⟩ = some (.int .i64 M) := T0.out.cell 1
    have cT02 : wc.cell? ⟨w.heap.size, 2, none⟩ = some (mv) := T0.out.cell 2
    have cTB0 : wc.cell? ⟨gB, 0, none⟩ = some (.int .i64 (n : Int)) := TB.out.cell 0
    have cTB1 : wc.cell? ⟨gB, 1, none⟩ = some (.slice UB l tB) := TB.out.cell 1
    have cTD0 : wc.cell? ⟨gD, 0, none⟩ = some (.int .i64 (n : Int)) := TD.out.cell 0
    have cTD1 : wc.cell? ⟨gD, 1, none⟩ = some (.slice UD d cD) := TD.out.cell 1
    go_wp2_with fail
    refine (KQ.out _ _ _ HB.out XD.out XB.out).mono ?_
    rintro e y4 ⟨u, rfl, hx, hb4⟩
    clear cT00 cT01 cT02 cTB0 cTB1 cTD0 cTD1
    replace T0 := Lib.hid (T0.out.belowS hb4)
    replace TB := Lib.hid (TB.out.belowS hb4)
    replace TD := Lib.hid (TD.out.belowS hb4)
    replace XB := Lib.hid (XB.out.below hb4 (Nat.le_refl _))
    replace XD := Lib.hid (XD.out.below hb4 (Nat.le_refl _))
    replace HB := Lib.hid (bl_trans HB.out hb4)
    obtain ⟨UQ, cQ, rfl, _⟩ := hx.out
    have XQ := Lib.hid hx.out; clear hx
    change Hid (SS _ (.slice UQ Q.length cQ) Q) at XQ
    go_upto_region 11 with fail
    obtain ⟨z4, gQ, e1, e2, hbx, hbz⟩ := mk_box y4 27 [.int .i64 (n : Int), .slice UQ Q.length cQ]
    rw [e1, e2]
    clear e1
    replace T0 := Lib.hid (T0.out.belowS hbz)
    replace TB := Lib.hid (TB.out.belowS hbz)
    replace TD := Lib.hid (TD.out.belowS hbz)
    replace XB := Lib.hid (XB.out.below hbz (Nat.le_refl _))
    replace XD := Lib.hid (XD.out.below hbz (Nat.le_refl _))
    replace XQ := Lib.hid (XQ.out.below hbz (Nat.le_refl _))
    replace HB := Lib.hid (bl_trans HB.out hbz)
    have TQ := Lib.hid hbx; clear hbx hbz e2
    have cT00 : z4.cell? ⟨w.heap.size, 0, none⟩ = some (.int .i64 P) := T0.out.cell 0
    have cT01 : z4.cell? ⟨w.heap.size, 1, none⟩ = some (.int .i64 M) := T0.out.cell 1
    have cT02 : z4.cell? ⟨w.heap.size, 2, none⟩ = some (mv) := T0.out.cell 2
    have cTD0 : z4.cell? ⟨gD, 0, none⟩ = some (.int .i64 (n : Int)) := TD.out.cell 0
    have cTD1 : z4.cell? ⟨gD, 1, none⟩ = some (.slice UD d cD) := TD.out.cell 1
    have cTQ0 : z4.cell? ⟨gQ, 0, none⟩ = some (.int .i64 (n : Int)) := TQ.out.cell 0
    have cTQ1 : z4.cell? ⟨gQ, 1, none⟩ = some (.slice UQ Q.length cQ) := TQ.out.cell 1
    go_wp2_with fail
    refine (KS.out _ _ _ HB.out XD.out XQ.out).mono ?_
    rintro e y5 ⟨u, rfl, hx, hb5⟩
    clear cT00 cT01 cT02 cTD0 cTD1 cTQ0 cTQ1
    replace T0 := Lib.hid (T0.out.belowS hb5)
    replace TB := Lib.hid (TB.out.belowS hb5)
    replace TD := Lib.hid (TD.out.belowS hb5)
    replace TQ := Lib.hid (TQ.out.belowS hb5)
    replace XB := Lib.hid (XB.out.below hb5 (Nat.le_refl _))
    replace XD := Lib.hid (XD.out.below hb5 (Nat.le_refl _))
    replace XQ := Lib.hid (XQ.out.below hb5 (Nat.le_refl _))
    replace HB := Lib.hid (bl_trans HB.out hb5)
    obtain ⟨US, cS, rfl, _⟩ := hx.out
    have XS := Lib.hid hx.out; clear hx
    change Hid (SS _ (.slice US B.length cS) B) at XS
    rw [← HL.out] at XS ⊢
    go_upto_region 12 with fail
    obtain ⟨z5, gS, e1, e2, hbx, hbz⟩ := mk_box y5 27 [.int .i64 (n : Int), .slice US l cS]
    rw [e1, e2]
    clear e1
    replace T0 := Lib.hid (T0.out.belowS hbz)
    replace TB := Lib.hid (TB.out.belowS hbz)
    replace TD := Lib.hid (TD.out.belowS hbz)
    replace TQ := Lib.hid (TQ.out.belowS hbz)
    replace XB := Lib.hid (XB.out.below hbz (Nat.le_refl _))
    replace XD := Lib.hid (XD.out.below hbz (Nat.le_refl _))
    replace XQ := Lib.hid (XQ.out.below hbz (Nat.le_refl _))
    replace XS := Lib.hid (XS.out.below hbz (Nat.le_refl _))
    replace HB := Lib.hid (bl_trans HB.out hbz)
    have TS := Lib.hid hbx; clear hbx hbz e2
    have cT00 : z5.cell? ⟨w.heap.size, 0, none⟩ = some (.int .i64 P) := T0.out.cell 0
    have cT01 : z5.cell? ⟨w.heap.size, 1, none⟩ = some (.int .i64 M) := T0.out.cell 1
    have cT02 : z5.cell? ⟨w.heap.size, 2, none⟩ = some (mv) := T0.out.cell 2
    have cTD0 : z5.cell? ⟨gD, 0, none⟩ = some (.int .i64 (n : Int)) := TD.out.cell 0
    have cTD1 : z5.cell? ⟨gD, 1, none⟩ = some (.slice UD d cD) := TD.out.cell 1
    have cTQ0 : z5.cell? ⟨gQ, 0, none⟩ = some (.int .i64 (n : Int)) := TQ.out.cell 0
    have cTQ1 : z5.cell? ⟨gQ, 1, none⟩ = some (.slice UQ Q.length cQ) := TQ.out.cell 1
    go_wp2_with fail
    refine (KT.out _ _ _ HB.out XD.out XQ.out).mono ?_
    rintro e y6 ⟨u, rfl, hx, hb6⟩
    clear cT00 cT01 cT02 cTD0 cTD1 cTQ0 cTQ1
    replace T0 := Lib.hid (T0.out.belowS hb6)
    replace TB := Lib.hid (TB.out.belowS hb6)
    replace TD := Lib.hid (TD.out.belowS hb6)
    replace TQ := Lib.hid (TQ.out.belowS hb6)
    replace TS := Lib.hid (TS.out.belowS hb6)
    replace XB := Lib.hid (XB.out.below hb6 (Nat.le_refl _))
    replace XD := Lib.hid (XD.out.below hb6 (Nat.le_refl _))
    replace XQ := Lib.hid (XQ.out.below hb6 (Nat.le_refl _))
    replace XS := Lib.hid (XS.out.below hb6 (Nat.le_refl _))
    replace HB := Lib.hid (bl_trans HB.out hb6)
    obtain ⟨UT, cT, rfl, _⟩ := hx.out
    have XT := Lib.hid hx.out; clear hx
    change Hid (SS _ (.slice UT T.length cT) T) at XT
    go_upto_region 13 with fail
    obtain ⟨z6, gT, e1, e2, hbx, hbz⟩ := mk_box y6 27 [.int .i64 (n : Int), .slice UT T.length cT]
    rw [e1, e2]
    clear e1
    replace T0 := Lib.hid (T0.out.belowS hbz)
    replace TB := Lib.hid (TB.out.belowS hbz)
    replace TD := Lib.hid (TD.out.belowS hbz)
    replace TQ := Lib.hid (TQ.out.belowS hbz)
    replace TS := Lib.hid (TS.out.belowS hbz)
    replace XB := Lib.hid (XB.out.below hbz (Nat.le_refl _))
    replace XD := Lib.hid (XD.out.below hbz (Nat.le_refl _))
    replace XQ := Lib.hid (XQ.out.below hbz (Nat.le_refl _))
    replace XS := Lib.hid (XS.out.below hbz (Nat.le_refl _))
    replace XT := Lib.hid (XT.out.below hbz (Nat.le_refl _))
    replace HB := Lib.hid (bl_trans HB.out hbz)
    have TT := Lib.hid hbx; clear hbx hbz e2
    have cTB0 : z6.cell? ⟨gB, 0, none⟩ = some (.int .i64 (n : Int)) := TB.out.cell 0
    have cTB1 : z6.cell? ⟨gB, 1, none⟩ = some (.slice UB l tB) := TB.out.cell 1
    have cTQ0 : z6.cell? ⟨gQ, 0, none⟩ = some (.int .i64 (n : Int)) := TQ.out.cell 0
    have cTQ1 : z6.cell? ⟨gQ, 1, none⟩ = some (.slice UQ Q.length cQ) := TQ.out.cell 1
    have cTS0 : z6.cell? ⟨gS, 0, none⟩ = some (.int .i64 (n : Int)) := TS.out.cell 0
    have cTS1 : z6.cell? ⟨gS, 1, none⟩ = some (.slice US l cS) := TS.out.cell 1
    go_wp2_with fail
    refine (sameT _ n _ _ B XS.out XB.out).mono ?_
    rintro e y7 ⟨rfl, hb7⟩
    clear cTB0 cTB1 cTQ0 cTQ1 cTS0 cTS1
    replace T0 := Lib.hid (T0.out.belowS hb7)
    replace TB := Lib.hid (TB.out.belowS hb7)
    replace TD := Lib.hid (TD.out.belowS hb7)
    replace TQ := Lib.hid (TQ.out.belowS hb7)
    replace TS := Lib.hid (TS.out.belowS hb7)
    replace TT := Lib.hid (TT.out.belowS hb7)
    replace XB := Lib.hid (XB.out.below hb7 (Nat.le_refl _))
    replace XD := Lib.hid (XD.out.below hb7 (Nat.le_refl _))
    replace XQ := Lib.hid (XQ.out.below hb7 (Nat.le_refl _))
    replace XS := Lib.hid (XS.out.below hb7 (Nat.le_refl _))
    replace XT := Lib.hid (XT.out.below hb7 (Nat.le_refl _))
    replace HB := Lib.hid (bl_trans HB.out hb7)
    have cTT0 : y7.cell? ⟨gT, 0, none⟩ = some (.int .i64 (n : Int)) := TT.out.cell 0
    have cTT1 : y7.cell? ⟨gT, 1, none⟩ = some (.slice UT T.length cT) := TT.out.cell 1
    go_wp2_with fail
    go_ret
    exact ⟨rfl, HB.out⟩
end Go.Proofs.Ytmejijekcfhonaa

/- SpaceQuotient: the law returns true for every input; each argument reads behind the call as it read before. The walk is in LQuot. -/
namespace Go.Proofs.Ytmejijekcfhonaa.spaceQuotient
open Go.ChangeShapes Go.WideShapes Go.ChangeAt Go.RowKit
set_option linter.unusedVariables false

set_option maxRecDepth 100000 in
theorem lifted (os : Os) (started : os.Started) (H : Type) (enc : TypeId × Value → H) :
    ReturnsInHanded {} Try.checked os 7 .any (Rows.spaceQuotientSpec.pre6 enc Try.prog Try.f7 Rows.spaceQuotientRow.domain false) (Rows.spaceQuotientSpec.post enc Try.prog Try.f7 false true false false) := by
  refine returnsInHanded_of_change_sized (C := Try.checked) own started (by kernel_rfl) Try.func7
    (ChangeSpec.witness6 (enc := enc) (C := Try.checked) false ⟨#[], #[.agg #[.int .i64 0, .int .i64 0, .slice none 0 0], .agg #[.int .i64 0, .slice none 0 0], .int .u8 0], []⟩ 8 (by kernel_rfl) (by kernel_rfl) (by kernel_rfl) (by kernel_rfl)) ?_
  intro W base args ds gs before hval0 hW _ hsz0 _
  have hsz : (DataW.weightsEach Try.prog (Try.f7.params.toList ++ Rows.spaceQuotientSpec.plain.varTypes Try.prog) (ds ++ gs)).all (· ≤ reachBytes) = true := hsz0
  have hval : ∀ (j : Nat) t v, Try.f7.params[j]? = some t → args[j]? = some v → Value.okWide Try.prog W .any base t v := hval0
  have hW' := hW
  obtain ⟨p, q, hA0, hV, rfl, hfz, hnd⟩ := hW
  have hA : DataW.TrodAll enc Try.prog W 0 (fun _ => true) true Try.f7.params.toList args.toList ds p := hA0
  rw [Try.params7] at hA hval hsz
  obtain ⟨v0, vs0, d0, ds0, p0, q0, hargs, rfl, rfl, h0, r0'⟩ := trodAll_cons hA
  obtain ⟨v1, vs1, d1, ds1, p1, q1, rfl, rfl, rfl, h1, r1'⟩ := trodAll_cons r0'
  obtain ⟨v2, vs2, d2, ds2, p2, q2, rfl, rfl, rfl, h2, r2'⟩ := trodAll_cons r1'
  obtain ⟨rfl, rfl, rfl⟩ := trodAll_nil r2'
  obtain rfl : args = #[v0, v1, v2] := by cases args; simp_all
  obtain ⟨rfl, rfl⟩ := trodVars_none hV
  have k0 := h0
  have r0 := open_Field h0 (hval 0 24 v0 rfl rfl) (weigh hsz 0 rfl rfl)
  have k1 := h1
  have r1 := open_Matrix h1 (hval 1 27 v1 rfl rfl) (weigh hsz 1 rfl rfl)
  obtain ⟨a2, rfl, rfl, rfl, w2⟩ := open_int Try.underlying5 (hval 2 5 v2 rfl rfl) h2
  clear hA0 hval0
  refine (lawQuot W r0 r1 (u8_of w2)).mono fun e W' ⟨he, bel⟩ => ?_
  subst he
  exact ⟨_, rfl, _, _, _, [], _, [], hW', trodAll_mk1 (shut_bool Try.underlying4 _), (trodAll_cons_mk (Below.trod laidOut (by kernel_rfl) (of_decide_eq_true (by kernel_rfl)) k0 bel (lt_of_trod k0)) (trodAll_cons_mk (Below.trod laidOut (by kernel_rfl) (of_decide_eq_true (by kernel_rfl)) k1 bel (lt_of_trod k1)) (trodAll_cons_mk (shut_int Try.underlying5 w2) trodAll_mk0))), rfl, bel.frame _, fun h => by cases h⟩

theorem proved : Rows.SpaceQuotientSaid :=
  OpenClaim.holds_of_wide 7 Try.f7 rfl rfl rfl rfl rfl rfl rfl ⟨rfl, rfl, rfl, rfl, rfl⟩ rfl rfl rfl rfl rfl (by kernel_rfl) Try.func7 (by kernel_rfl)
    (of_decide_eq_true (by kernel_rfl)) (by unfold Func.isWrapper; first | (rw [if_pos (by decide +kernel)]; kernel_rfl) | (rw [if_neg (by decide +kernel)]; exact ⟨rfl, rfl⟩))
    (fun os started H enc _ => lifted os started H enc)
#print axioms proved
end Go.Proofs.Ytmejijekcfhonaa.spaceQuotient
