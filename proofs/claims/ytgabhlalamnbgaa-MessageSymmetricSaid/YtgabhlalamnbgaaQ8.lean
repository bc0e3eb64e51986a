/- Texts of a claim, merged: words, plain facts and walks that the last of its texts uses. -/
import Derived.Test.YtgabhlalamnbgaaQ1
import Derived.Test.YtgabhlalamnbgaaQ5
import Derived.Test.YtgabhlalamnbgaaQ6
import Derived.Test.YtgabhlalamnbgaaQ7
set_option linter.unusedSimpArgs false
set_option linter.unusedVariables false

/- message.binary, message.build. -/
namespace Go.Proofs.Ytgabhlalamnbgaa
open Go.RowKit
set_option linter.unusedVariables false
set_option maxRecDepth 100000

theorem field_two' : FieldP 2 1 [] := ⟨by rw [order21]; decide, ⟨by decide, fun d h1 h2 => by omega⟩, ⟨fun _ => rfl, fun h => absurd rfl h⟩, fun h => absurd rfl h⟩
/-- the field of two elements comes back -/
def RetTwo (w : World) (e : Ending) (w' : World) : Prop := e = .returned (.agg #[.int .i64 2, .int .i64 1, .slice none 0 0]) ∧ Below w.heap.size w w'
set_option maxHeartbeats 2000000 in
theorem mbinary_any (w : World) : Calls Try.prog 68 #[] w (RetTwo w) := by
  go_enter Try.func68, Try.ntmps68
  go_wp2_with fail
  refine bodyPost_ret (v := .agg #[.int .i64 2, .int .i64 1, .slice none 0 0]) (by simp [results, Try.results68, go_sem]) rfl ⟨rfl, bl_alloc _ _⟩
set_option maxHeartbeats 2000000 in
theorem rTwo45_any (w : World) : Calls Try.prog 16 #[] w (RetTwo w) := by
  go_enter Try.func16, Try.ntmps16
  go_wp2_with fail
  refine bodyPost_ret (v := .agg #[.int .i64 2, .int .i64 1, .slice none 0 0]) (by simp [results, Try.results16, go_sem]) rfl ⟨rfl, bl_alloc _ _⟩

theorem AE_sep {w : World} {gA : Nat} {ess : List (List (Int × Int))} (h : AE (gA + 2) w gA ess) : Sep gA w fun w2 => EEat w2 gA ess := fun w2 h2 p hp => by
  obtain ⟨us, hl, hb, he, ha⟩ := h
  obtain ⟨u, hu, ho⟩ := he p hp
  exact ⟨u, (h2 ⟨gA, p, none⟩ (Nat.le_refl _) hb.lt).trans ((hb.cell p).trans hu), ho.sep w2 fun p hp hl => h2 p (by omega) hl⟩
/-- the error of a matrix of bits -/
noncomputable def bitE (cols : Int) (rows : List (List Int)) : Int := matE 2 1 [] cols rows
theorem bitE_ok {cols : Int} {rows : List (List Int)} (h : bitE cols rows = 0) : 0 ≤ cols ∧ cols ≤ 256 ∧ rows.length ≤ 256 ∧ ∀ j, j < rows.length → ((rows.getD j []).length : Int) = cols ∧ ∀ k, (rows.getD j []).getD k 0 = 0 ∨ (rows.getD j []).getD k 0 = 1 := by
  unfold bitE at h
  rw [matE_ok field_two', order21] at h
  unfold chkE at h
  by_cases h1 : cols < 0 ∨ 256 < cols ∨ 256 < (rows.length : Int)
  · rw [if_pos h1] at h; cases h
  rw [if_neg h1] at h
  by_cases h2 : lensOK cols rows = true
  · rw [if_pos h2] at h
    by_cases h3 : entsOK 2 rows = true
    · refine ⟨by omega, by omega, by omega, fun j hj => ?_⟩
      have hm : rows.getD j [] ∈ rows := by simp [List.getD, hj]
      have a := List.all_eq_true.1 h2 _ hm
      have b := List.all_eq_true.1 h3 _ hm
      refine ⟨by simpa using a, fun k => ?_⟩
      have b' : entriesF 2 (rows.getD j []) = 0 := by simpa using b
      unfold entriesF at b'
      by_cases h4 : ∀ k, k < (rows.getD j []).length → 0 ≤ (rows.getD j []).getD k 0 ∧ (rows.getD j []).getD k 0 < 2
      · by_cases hk : k < (rows.getD j []).length
        · have := h4 k hk; omega
        · rw [getD_len (by omega)]; omega
      · rw [if_neg h4] at b'; cases b'
    · rw [if_neg h3] at h; cases h
  · rw [if_neg h2] at h; cases h

/-- build's results where the matrix is wrong -/
def RetG0E (w : World) (er : Int) (e : Ending) (w' : World) : Prop := e = .returned (.tuple #[.pointer none, .int .i64 er]) ∧ Below w.heap.size w w'
/-- the box of a matrix that was handed over by value -/
structure MBox (w w0 : World) (cols : Int) (rv : Value) : Prop where
  blk : Blk w0 w.heap.size 24 [.int .i64 cols, rv]
  bel : Below w.heap.size w w0
theorem MBox.mk' (w : World) (cols : Int) (rv : Value) : MBox w (w.alloc (.cells #[.int .i64 cols, rv] 24)) cols rv := ⟨Blk.new w 24 [.int .i64 cols, rv], bl_alloc w _⟩
theorem MBox.on {w w0 w1 : World} {cols : Int} {rv : Value} (h : MBox w w0 cols rv) (hb : Below w0.heap.size w0 w1) : MBox w w1 cols rv := ⟨h.blk.belowS hb, bl_trans h.bel hb⟩
theorem MBox.d0 {w w0 : World} {cols : Int} {rv : Value} (h : MBox w w0 cols rv) : w0.cell? ⟨w.heap.size, 0, none⟩ = some (.int .i64 cols) := h.blk.cell 0
theorem MBox.d1 {w w0 : World} {cols : Int} {rv : Value} (h : MBox w w0 cols rv) : w0.cell? ⟨w.heap.size, 1, none⟩ = some rv := h.blk.cell 1
theorem MBox.grown {w w0 w1 : World} {cols : Int} {rv : Value} {row : Option Nat} (h : MBox w w0 cols rv) (hg : w0.grownBy w1 row) (hr : ∀ g, row = some g → w.heap.size < g) : MBox w w1 cols rv :=
  ⟨h.blk.grown hg fun e => by have := hr _ e.symm; omega, h.bel.grown hg h.bel.size fun k e => Nat.le_of_lt (hr k e)⟩

set_option maxHeartbeats 8000000 in
theorem build_no (w : World) (cols : Int) (rv : Value) (rows : List (List Int)) (hv : SS w rv rows) (he : bitE cols rows ≠ 0) :
    Calls Try.prog 43 #[.agg #[.int .i64 cols, rv]] w (RetG0E w (bitE cols rows)) := by
  have HV := Lib.hid hv; clear hv
  obtain ⟨RA, rc, rfl, _⟩ := HV.out
  have HF := Lib.hid (MBox.mk' w cols (.slice RA rows.length rc))
  generalize hn : rows.length = n at HF HV ⊢
  have hb : (bitE cols rows != 0) = true := by rw [bne_iff_ne]; exact he
  have HE : Hid (matE 2 1 [] cols rows = bitE cols rows) := rfl
  generalize bitE cols rows = er at hb HE ⊢
  clear he hn
  go_enter Try.func43, Try.ntmps43
  go_wp2_with fail
  generalize hw0 : w.alloc (.cells #[.int .i64 cols, .slice RA n rc] 24) = w0 at *
  clear hw0
  have d0 := HF.out.d0; have d1 := HF.out.d1
  go_wp2_with fail
  refine Kept.start (S := fun w' => w'.cell? ⟨w.heap.size, 0, none⟩ = some (.int .i64 cols) ∧ w'.cell? ⟨w.heap.size, 1, none⟩ = some (.slice RA n rc)) (by kernel_rfl) (⟨d0, d1⟩) (fun hHeld => ?_)
  change Kept _ _ _ _ 4 _ _ _
  refine Kept.take (i := 1) (v := ?_) rfl (by kernel_rfl) (by kernel_rfl) (by kernel_rfl) (fun _ _ _ h => h) (Or.inl ⟨by kernel_rfl, ?_⟩) hHeld ?_
  rotate_left
  · intro w' hSw; (try dsimp only at hSw); first | (go_simp; done) | (go_simp; with_reducible rfl)
  try simp only [List.getElem_toArray, List.getElem_cons_zero, List.getElem_cons_succ, Act.put, List.setIfInBounds_toArray, List.set_cons_zero, List.set_cons_succ]
  refine Kept.only (i := 0) (by kernel_rfl) rfl (fun K hK => ?_)
  go_simp
  refine (mbinary_any _).mono ?_; rintro e w1 ⟨rfl, hb1⟩; have HF1 := Lib.hid ((HF.out.on (bl_drew _)).on hb1); clear hb1; have e0 := HF1.out.d0; have e1 := HF1.out.d1
  refine hK.out _ _ (⟨e0, e1⟩) (fun hHeld2 => ?_)
  clear hK K
  replace hHeld := hHeld2
  clear hHeld2
  try simp only [List.getElem_toArray, List.getElem_cons_zero, List.getElem_cons_succ, Act.put, List.setIfInBounds_toArray, List.set_cons_zero, List.set_cons_succ]
  refine Kept.only (i := 2) (by kernel_rfl) rfl (fun K hK => ?_)
  go_simp
  refine (mCheck_any _ 2 1 cols (.slice none 0 0) (.slice RA n rc) [] rows (SI.none_ _) (HV.out.below HF1.out.bel (Nat.le_refl _))).mono ?_; rintro e w2 ⟨rfl, hb2⟩; rw [HE.out]; have HF2 := Lib.hid (HF1.out.on hb2); clear hb2
  refine hK.out _ _ (⟨HF2.out.d0, HF2.out.d1⟩) (fun hHeld2 => ?_)
  clear hK K
  replace hHeld := hHeld2
  clear hHeld2
  try simp only [List.getElem_toArray, List.getElem_cons_zero, List.getElem_cons_succ, Act.put, List.setIfInBounds_toArray, List.set_cons_zero, List.set_cons_succ]
  refine Kept.only (i := 3) (by kernel_rfl) rfl (fun K hK => ?_)
  go_simp
  refine hK.out _ _ hHeld (fun hHeld2 => ?_)
  clear hK K
  clear hHeld2
  refine Kept.done (by kernel_rfl) ?_
  try simp only [List.getElem_toArray, List.getElem_cons_zero, List.getElem_cons_succ, Act.put, List.setIfInBounds_toArray, List.set_cons_zero, List.set_cons_succ]
  clear hHeld
  clear d0 d1 e0 e1
  go_wp2_with fail
  go_ret2
  exact ⟨rfl, HF2.out.bel⟩

/-- build's results -/
def RetGR (w : World) (n : Nat) (rows : List (List Int)) (e : Ending) (w' : World) : Prop := ∃ g, e = .returned (.tuple #[.pointer (some ⟨g, 0, none⟩), .int .i64 0]) ∧ Sep w.heap.size w' (fun w2 => GR w2 g (cksTo rows n rows.length) (atTo rows n rows.length 0)) ∧ Below w.heap.size w w'
set_option maxHeartbeats 16000000 in
theorem build_ok (w : World) (cols : Int) (rv : Value) (rows : List (List Int)) (hv : SS w rv rows) (he : bitE cols rows = 0) :
    Calls Try.prog 43 #[.agg #[.int .i64 cols, rv]] w (RetGR w cols.toNat rows) := by
  have HV := Lib.hid hv; clear hv
  obtain ⟨RA, rc, rfl, _⟩ := HV.out
  have HF := Lib.hid (MBox.mk' w cols (.slice RA rows.length rc))
  obtain ⟨h1, h2, h3, h4⟩ := bitE_ok he
  obtain ⟨n, rfl⟩ : ∃ n : Nat, cols = (n : Int) := ⟨cols.toNat, by omega⟩
  rw [Int.toNat_natCast]
  have HROW := Lib.hid h4; clear h4
  have HE : Hid (matE 2 1 [] n rows = 0) := he
  generalize hr : rows.length = r at *
  have HRL := Lib.hid hr
  have hn256 : n ≤ 256 := by omega
  have hmk := fun (w : World) => run_mkE n (by omega) w
  clear he hr h1 h2
  go_enter Try.func43, Try.ntmps43
  go_wp2_with fail
  generalize hw0 : w.alloc (.cells #[.int .i64 (n : Int), .slice RA r rc] 24) = w0 at *
  clear hw0
  have d0 := HF.out.d0; have d1 := HF.out.d1
  go_wp2_with fail
  refine Kept.start (S := fun w' => w'.cell? ⟨w.heap.size, 0, none⟩ = some (.int .i64 (n : Int)) ∧ w'.cell? ⟨w.heap.size, 1, none⟩ = some (.slice RA r rc)) (by kernel_rfl) (⟨d0, d1⟩) (fun hHeld => ?_)
  change Kept _ _ _ _ 4 _ _ _
  refine Kept.take (i := 1) (v := ?_) rfl (by kernel_rfl) (by kernel_rfl) (by kernel_rfl) (fun _ _ _ h => h) (Or.inl ⟨by kernel_rfl, ?_⟩) hHeld ?_
  rotate_left
  · intro w' hSw; (try dsimp only at hSw); first | (go_simp; done) | (go_simp; with_reducible rfl)
  try simp only [List.getElem_toArray, List.getElem_cons_zero, List.getElem_cons_succ, Act.put, List.setIfInBounds_toArray, List.set_cons_zero, List.set_cons_succ]
  refine Kept.only (i := 0) (by kernel_rfl) rfl (fun K hK => ?_)
  go_simp
  refine (mbinary_any _).mono ?_; rintro e w1 ⟨rfl, hb1⟩; have HF1 := Lib.hid ((HF.out.on (bl_drew _)).on hb1); clear hb1; have e0 := HF1.out.d0; have e1 := HF1.out.d1
  refine hK.out _ _ (⟨e0, e1⟩) (fun hHeld2 => ?_)
  clear hK K
  replace hHeld := hHeld2
  clear hHeld2
  try simp only [List.getElem_toArray, List.getElem_cons_zero, List.getElem_cons_succ, Act.put, List.setIfInBounds_toArray, List.set_cons_zero, List.set_cons_succ]
  refine Kept.only (i := 2) (by kernel_rfl) rfl (fun K hK => ?_)
  go_simp
  refine (mCheck_any _ 2 1 n (.slice none 0 0) (.slice RA r rc) [] rows (SI.none_ _) (HV.out.below HF1.out.bel (Nat.le_refl _))).mono ?_; rintro e w2 ⟨rfl, hb2⟩; rw [HE.out]; have HF2 := Lib.hid (HF1.out.on hb2); clear hb2
  refine hK.out _ _ (⟨HF2.out.d0, HF2.out.d1⟩) (fun hHeld2 => ?_)
  clear hK K
  replace hHeld := hHeld2
  clear hHeld2
  try simp only [List.getElem_toArray, List.getElem_cons_zero, List.getElem_cons_succ, Act.put, List.setIfInBounds_toArray, List.set_cons_zero, List.set_cons_succ]
  refine Kept.only (i := 3) (by kernel_rfl) rfl (fun K hK => ?_)
  go_simp
  refine hK.out _ _ hHeld (fun hHeld2 => ?_)
  clear hK K
  clear hHeld2
  refine Kept.done (by kernel_rfl) ?_
  try simp only [List.getElem_toArray, List.getElem_cons_zero, List.getElem_cons_succ, Act.put, List.setIfInBounds_toArray, List.set_cons_zero, List.set_cons_succ]
  clear hHeld
  clear d0 d1 e0 e1 HF1 HF
  have d0 := HF2.out.d0; have d1 := HF2.out.d1
  have HA0 := Lib.hid (AE.made (B := w2.heap.size + 2) w2 n)
  have hbW : Below w2.heap.size w2 ((w2.alloc (.cells (madeCells #[.slice none 0 0] n) 79)).alloc (.cells #[.slice none 0 0, .slice (some ⟨w2.heap.size, 0, none⟩) n n] 77)) := bl_trans (bl_alloc _ _) (bl_alloc _ _)
  have HF3 := Lib.hid (HF2.out.on hbW)
  have HA1 := Lib.hid (HA0.out.alloc (.cells #[.slice none 0 0, .slice (some ⟨w2.heap.size, 0, none⟩) n n] 77))
  have HG1 : Hid (Blk ((w2.alloc (.cells (madeCells #[.slice none 0 0] n) 79)).alloc (.cells #[.slice none 0 0, .slice (some ⟨w2.heap.size, 0, none⟩) n n] 77)) (w2.heap.size + 1) 77 [.slice none 0 0, .slice (some ⟨w2.heap.size, 0, none⟩) n n]) := hid' (by
    have := Blk.new (w2.alloc (.cells (madeCells #[.slice none 0 0] n) 79)) 77 [.slice none 0 0, .slice (some ⟨w2.heap.size, 0, none⟩) n n]
    rw [World.size_alloc] at this
    exact this)
  have q0 := HF3.out.d0; have q1 := HF3.out.d1
  have HSZ : Hid (((w2.alloc (.cells (madeCells #[.slice none 0 0] n) 79)).alloc (.cells #[.slice none 0 0, .slice (some ⟨w2.heap.size, 0, none⟩) n n] 77)).heap.size = w2.heap.size + 2) := hid' (by show _ = _; rw [World.size_alloc, World.size_alloc])
  have hgw := HF2.out.blk.lt
  clear hbW HA0
  go_wp2_with fail
  clear hmk d0 d1
  generalize hwg : (w2.alloc (.cells (madeCells #[.slice none 0 0] n) 79)).alloc (.cells #[.slice none 0 0, .slice (some ⟨w2.heap.size, 0, none⟩) n n] 77) = wg at *
  clear hwg
  obtain ⟨gA, hgA⟩ : ∃ gA, gA = w2.heap.size := ⟨_, rfl⟩
  rw [← hgA] at HA1 HG1 HSZ hgw ⊢
  have HV1 := Lib.hid (HV.out.below HF3.out.bel (Nat.le_refl _))
  have HV0 : Hid (∀ wr, Below w.heap.size w wr → SS wr (.slice RA r rc) rows) := hid' fun wr hb => HV.out.below hb (Nat.le_refl _)
  clear hgA HF2 HV1 HV0
  rw [← atTo_start rows] at HA1
  go_loopw [25] (fun i wr => ∃ (k : Nat) (cv : Value), k ≤ r ∧ i = .int .i64 (k : Int) ∧ Hid (MBox w wr n (.slice RA r rc)) ∧ Hid (Blk wr (gA + 1) 77 [cv, .slice (some ⟨gA, 0, none⟩) n n]) ∧ Hid (CK (gA + 2) wr cv (.slice none 0 0) (cksTo rows n k)) ∧ Hid (AE (gA + 2) wr gA (atTo rows n k 0)) ∧ Hid (gA + 2 ≤ wr.heap.size)) (fun i _ => (r - intOf i).toNat)
  case atStart => exact ⟨0, _, Nat.zero_le _, rfl, HF3, HG1, CK.nil _ _ _, HA1, hid' (by have := HSZ.out; omega)⟩
  case round =>
    clear HA1 HG1 HF3 HSZ q0 q1
    obtain ⟨k, cv, hk, rfl, HM, HG, HC, HA, HZ⟩ := hrel
    have q0 := HM.out.d0; have q1 := HM.out.d1
    by_cases hlt : k < r
    · obtain ⟨ad, Ak, ck, x, rfl, hc0, HX, HXE⟩ := HV.out.eltA (k := k) (by rw [HRL.out]; exact hlt)
      have hc := cell_below HM.out.bel hc0
      have HXR := HROW.out k hlt
      rw [HXE.out] at HXR
      obtain ⟨hxl, hxr⟩ := HXR
      have HXB := Lib.hid hxr; clear hxr hc0
      have HXL : Hid (x.length = n) := hid' (by show x.length = n; omega)
      rw [HXL.out] at hc
      have HXS : Hid (SI w (.slice Ak n ck) x) := hid' (by have := HX.out.si; rw [HXL.out] at this; exact this)
      clear hxl
      have hgh := HG.out.lt
      have hbel := HM.out.bel.size
      go_wp2_with fail
      go_loopw [8, 32] (fun l p wr => ∃ (j : Nat) (A : Option Addr) (c ln : Nat), j ≤ n ∧ l = .slice A ln c ∧ p = .int .i64 (j : Int) ∧ Hid (ln = (onesTo x j).length) ∧ Hid (MBox w wr n (.slice (some ad) r rc)) ∧ Hid (Blk wr (gA + 1) 77 [cv, .slice (some ⟨gA, 0, none⟩) n n]) ∧ Hid (CK (gA + 2) wr cv l (cksTo rows n k)) ∧ Hid (OI (gA + 2) wr l (onesTo x j)) ∧ Hid (AE (gA + 2) wr gA (atTo rows n k j)) ∧ Hid (gA + 2 ≤ wr.heap.size)) (fun _ p _ => (n - intOf p).toNat)
      case atStart => exact ⟨0, none, 0, 0, Nat.zero_le _, rfl, rfl, rfl, HM, HG, HC, OI.nil _ _, HA, HZ⟩
      case round =>
        clear HM HG HC HA HZ q0 q1 hc hgh hbel
        obtain ⟨j, A, c, ln, hj, rfl, rfl, HLN, HM, HG, HC, HO, HA, HZ⟩ := hrel
        by_cases hjn : j < n
        · obtain ⟨bd, y, rfl, hy0, _, HY⟩ := HXS.out.elt (k := j) (by rw [HXL.out]; exact hjn)
          have hy := cell_below HM.out.bel hy0
          clear hy0
          have g1 : wr.cell? ⟨gA + 1, 1, none⟩ = some (.slice (some ⟨gA, 0, none⟩) n n) := HG.out.cell 1
          by_cases h1 : y = 1
          · have hb : (y == 1) = true := by rw [beq_iff_eq]; exact h1
            have HY1 : Hid ((rows.getD k []).getD j 0 = 1) := hid' (by rw [HXE.out, HY.out, h1])
            obtain ⟨UA, un, uc, hun, u1, uf, _, _⟩ := HA.out.elt (p := j) (by rw [atTo_len]; exact hjn) ((k : Int), (ln : Int))
            rw [atTo_getD hjn, if_neg (by omega)] at hun
            have hul := edgesTo_len rows j k
            have HUN := Lib.hid hun
            clear h1 hun
            have hzz := HZ.out
            go_wp2_with fail
            refine Drawn.start (S := fun w' => w'.cell? ⟨gA + 1, 1, none⟩ = some (.slice (some ⟨gA, 0, none⟩) n n) ∧ w'.cell? ⟨gA, j, none⟩ = some (.slice UA un uc)) (by kernel_rfl) (⟨g1, u1⟩) (fun hHeld => ?_)
            change Drawn _ _ _ _ 20 _ _ _
            refine Drawn.take (i := 0) (v := ?_) rfl (by kernel_rfl) (by kernel_rfl) (by kernel_rfl) (by kernel_rfl) (fun _ _ _ h => h) (Or.inl ⟨by kernel_rfl, ?_⟩) hHeld ?_
            rotate_left
            · intro w' hSw; (try dsimp only at hSw); first | (go_simp; done) | (go_simp; with_reducible rfl)
            try simp only [List.getElem_toArray, List.getElem_cons_zero, List.getElem_cons_succ, Act.put, List.setIfInBounds_toArray, List.set_cons_zero, List.set_cons_succ]
            refine Drawn.take (i := 1) (v := ?_) rfl (by kernel_rfl) (by kernel_rfl) (by kernel_rfl) (by kernel_rfl) (fun _ _ _ h => h) (Or.inl ⟨by kernel_rfl, ?_⟩) hHeld ?_
            rotate_left
            · intro w' hSw; (try dsimp only at hSw); first | (go_simp; done) | (go_simp; with_reducible rfl)
            try simp only [List.getElem_toArray, List.getElem_cons_zero, List.getElem_cons_succ, Act.put, List.setIfInBounds_toArray, List.set_cons_zero, List.set_cons_succ]
            refine Drawn.take (i := 2) (v := ?_) rfl (by kernel_rfl) (by kernel_rfl) (by kernel_rfl) (by kernel_rfl) (fun _ _ _ h => h) (Or.inl ⟨by kernel_rfl, ?_⟩) hHeld ?_
            rotate_left
            · intro w' hSw; (try dsimp only at hSw); first | (go_simp; done) | (go_simp; with_reducible rfl)
            try simp only [List.getElem_toArray, List.getElem_cons_zero, List.getElem_cons_succ, Act.put, List.setIfInBounds_toArray, List.set_cons_zero, List.set_cons_succ]
            refine Drawn.take (i := 3) (v := ?_) rfl (by kernel_rfl) (by kernel_rfl) (by kernel_rfl) (by kernel_rfl) (fun _ _ _ h => h) (Or.inl ⟨by kernel_rfl, ?_⟩) hHeld ?_
            rotate_left
            · intro w' hSw; (try dsimp only at hSw); first | (go_simp; done) | (go_simp; with_reducible rfl)
            try simp only [List.getElem_toArray, List.getElem_cons_zero, List.getElem_cons_succ, Act.put, List.setIfInBounds_toArray, List.set_cons_zero, List.set_cons_succ]
            refine Drawn.take (i := 4) (v := ?_) rfl (by kernel_rfl) (by kernel_rfl) (by kernel_rfl) (by kernel_rfl) (fun _ _ _ h => h) (Or.inl ⟨by kernel_rfl, ?_⟩) hHeld ?_
            rotate_left
            · intro w' hSw; (try dsimp only at hSw); first | (go_simp; done) | (go_simp; with_reducible rfl)
            try simp only [List.getElem_toArray, List.getElem_cons_zero, List.getElem_cons_succ, Act.put, List.setIfInBounds_toArray, List.set_cons_zero, List.set_cons_succ]
            refine Drawn.take (i := 5) (v := ?_) rfl (by kernel_rfl) (by kernel_rfl) (by kernel_rfl) (by kernel_rfl) (fun _ _ _ h => h) (Or.inl ⟨by kernel_rfl, ?_⟩) hHeld ?_
            rotate_left
            · intro w' hSw; (try dsimp only at hSw); first | (go_simp; done) | (go_simp; with_reducible rfl)
            try simp only [List.getElem_toArray, List.getElem_cons_zero, List.getElem_cons_succ, Act.put, List.setIfInBounds_toArray, List.set_cons_zero, List.set_cons_succ]
            refine Drawn.take (i := 6) (v := ?_) rfl (by kernel_rfl) (by kernel_rfl) (by kernel_rfl) (by kernel_rfl) (fun _ _ _ h => h) (Or.inl ⟨by kernel_rfl, ?_⟩) hHeld ?_
            rotate_left
            · intro w' hSw; (try dsimp only at hSw); first | (go_simp; done) | (go_simp; with_reducible rfl)
            try simp only [List.getElem_toArray, List.getElem_cons_zero, List.getElem_cons_succ, Act.put, List.setIfInBounds_toArray, List.set_cons_zero, List.set_cons_succ]
            refine Drawn.take (i := 7) (v := ?_) rfl (by kernel_rfl) (by kernel_rfl) (by kernel_rfl) (by kernel_rfl) (fun _ _ _ h => h) (Or.inl ⟨by kernel_rfl, ?_⟩) hHeld ?_
            rotate_left
            · intro w' hSw; (try dsimp only at hSw); first | (go_simp; done) | (go_simp; with_reducible rfl)
            try simp only [List.getElem_toArray, List.getElem_cons_zero, List.getElem_cons_succ, Act.put, List.setIfInBounds_toArray, List.set_cons_zero, List.set_cons_succ]
            refine Drawn.take (i := 8) (v := ?_) rfl (by kernel_rfl) (by kernel_rfl) (by kernel_rfl) (by kernel_rfl) (fun _ _ _ h => h) (Or.inl ⟨by kernel_rfl, ?_⟩) hHeld ?_
            rotate_left
            · intro w' hSw; (try dsimp only at hSw); first | (go_simp; done) | (go_simp; with_reducible rfl)
            try simp only [List.getElem_toArray, List.getElem_cons_zero, List.getElem_cons_succ, Act.put, List.setIfInBounds_toArray, List.set_cons_zero, List.set_cons_succ]
            refine Drawn.take (i := 9) (v := ?_) rfl (by kernel_rfl) (by kernel_rfl) (by kernel_rfl) (by kernel_rfl) (fun _ _ _ h => h) (Or.inl ⟨by kernel_rfl, ?_⟩) hHeld ?_
            rotate_left
            · intro w' hSw; (try dsimp only at hSw); first | (go_simp; done) | (go_simp; with_reducible rfl)
            try simp only [List.getElem_toArray, List.getElem_cons_zero, List.getElem_cons_succ, Act.put, List.setIfInBounds_toArray, List.set_cons_zero, List.set_cons_succ]
            refine Drawn.take (i := 10) (v := ?_) rfl (by kernel_rfl) (by kernel_rfl) (by kernel_rfl) (by kernel_rfl) (fun _ _ _ h => h) (Or.inl ⟨by kernel_rfl, ?_⟩) hHeld ?_
            rotate_left
            · intro w' hSw; (try dsimp only at hSw); first | (go_simp; done) | (go_simp; with_reducible rfl)
            try simp only [List.getElem_toArray, List.getElem_cons_zero, List.getElem_cons_succ, Act.put, List.setIfInBounds_toArray, List.set_cons_zero, List.set_cons_succ]
            refine Drawn.take (i := 11) (v := ?_) rfl (by kernel_rfl) (by kernel_rfl) (by kernel_rfl) (by kernel_rfl) (fun _ _ _ h => h) (Or.inl ⟨by kernel_rfl, ?_⟩) hHeld ?_
            rotate_left
            · intro w' hSw; (try dsimp only at hSw); first | (go_simp; done) | (go_simp; with_reducible rfl)
            try simp only [List.getElem_toArray, List.getElem_cons_zero, List.getElem_cons_succ, Act.put, List.setIfInBounds_toArray, List.set_cons_zero, List.set_cons_succ]
            refine Drawn.take (i := 12) (v := ?_) rfl (by kernel_rfl) (by kernel_rfl) (by kernel_rfl) (by kernel_rfl) (fun _ _ _ h => h) (Or.inl ⟨by kernel_rfl, ?_⟩) hHeld ?_
            rotate_left
            · intro w' hSw; (try dsimp only at hSw); first | (go_simp; done) | (go_simp; with_reducible rfl)
            try simp only [List.getElem_toArray, List.getElem_cons_zero, List.getElem_cons_succ, Act.put, List.setIfInBounds_toArray, List.set_cons_zero, List.set_cons_succ]
            refine Drawn.take (i := 13) (v := ?_) rfl (by kernel_rfl) (by kernel_rfl) (by kernel_rfl) (by kernel_rfl) (fun _ _ _ h => h) (Or.inl ⟨by kernel_rfl, ?_⟩) hHeld ?_
            rotate_left
            · intro w' hSw; (try dsimp only at hSw); first | (go_simp; done) | (go_simp; with_reducible rfl)
            try simp only [List.getElem_toArray, List.getElem_cons_zero, List.getElem_cons_succ, Act.put, List.setIfInBounds_toArray, List.set_cons_zero, List.set_cons_succ]
            refine Drawn.take (i := 14) (v := ?_) rfl (by kernel_rfl) (by kernel_rfl) (by kernel_rfl) (by kernel_rfl) (fun _ _ _ h => h) (Or.inl ⟨by kernel_rfl, ?_⟩) hHeld ?_
            rotate_left
            · intro w' hSw; (try dsimp only at hSw); first | (go_simp; done) | (go_simp; with_reducible rfl)
            try simp only [List.getElem_toArray, List.getElem_cons_zero, List.getElem_cons_succ, Act.put, List.setIfInBounds_toArray, List.set_cons_zero, List.set_cons_succ]
            refine Drawn.take (i := 15) (v := ?_) rfl (by kernel_rfl) (by kernel_rfl) (by kernel_rfl) (by kernel_rfl) (fun _ _ _ h => h) (Or.inl ⟨by kernel_rfl, ?_⟩) hHeld ?_
            rotate_left
            · intro w' hSw; (try dsimp only at hSw); first | (go_simp; done) | (go_simp; with_reducible rfl)
            try simp only [List.getElem_toArray, List.getElem_cons_zero, List.getElem_cons_succ, Act.put, List.setIfInBounds_toArray, List.set_cons_zero, List.set_cons_succ]
            refine Drawn.only (i := 16) (o := ?op1) (by kernel_rfl) ?ho1 (fun K hK => ?_)
            case ho1 => (conv => lhs; simp only [List.getElem?_toArray, List.getElem?_cons_succ, List.getElem?_cons_zero])
            go_simp; obtain ⟨w3, gE, e1, e2, hX, hb3⟩ := mk_boxD wr 81 [.int .i64 (k : Int), .int .i64 (ln : Int)]; rw [e1, e2]; have HX3 := Lib.hid hX; have HB3 := Lib.hid hb3; have HGE : Hid (gE = wr.heap.size) := hid' e2.symm; clear e1 e2 hX hb3; have v1 := cell_below HB3.out g1; have v2 := cell_below HB3.out u1
            refine hK.out _ _ (fun _ => ⟨v1, v2⟩) (fun hHeld2 => ?_)
            clear hK K
            replace hHeld := hHeld2 (by decide)
            clear hHeld2
            try simp only [List.getElem_toArray, List.getElem_cons_zero, List.getElem_cons_succ, Act.put, List.setIfInBounds_toArray, List.set_cons_zero, List.set_cons_succ]
            refine Drawn.only (i := 17) (o := ?op2) (by kernel_rfl) ?ho2 (fun K hK => ?_)
            case ho2 => (conv => lhs; simp only [List.getElem?_toArray, List.getElem?_cons_succ, List.getElem?_cons_zero])
            obtain ⟨UA', un', uc', hun', u1', uf', HEO, HST⟩ := (HA.out.on HB3.out).elt (p := j) (by rw [atTo_len]; exact hjn) ((k : Int), (ln : Int)); rw [v2] at u1'; injection u1' with u1'; injection u1' with ue1 ue2 ue3; subst ue1 ue2 ue3; refine step_pushE rfl _ _ rfl (gA + 2) _ _ rfl HEO.out gE 1 ((k : Int), (ln : Int)) rfl (HX3.out.cell 0) (HX3.out.cell 1) (by rw [← hun', HUN.out]; omega) (by have := HB3.out.size; omega) ?_; intro v' w4 ho4 hg4 hv4; obtain ⟨A4, c4, hve⟩ := ho4.form'; rw [List.length_append, ← hun', show ([((k : Int), (ln : Int))] : List (Int × Int)).length = 1 from rfl] at hve; subst hve; have HST4 := Lib.hid (HST.out _ _ ho4 hg4 hv4).1; have HR4 : Hid (∀ g, (Value.slice UA un uc).ownBlock = some g → gA + 2 ≤ g ∧ ∃ cs, w3.heap[g]? = some (.cells cs 81 (0, 0))) := hid' (fun g hg => ⟨(HEO.out.lt hg).1, HEO.out.typ hg⟩); have HG4 := Lib.hid hg4; have HG4B := Lib.hid ((HG.out.belowS HB3.out).grown hg4 (fun e => by have := (HR4.out _ e.symm).1; omega)); have x1 : w4.cell? ⟨gA + 1, 1, none⟩ = some (.slice (some ⟨gA, 0, none⟩) n n) := HG4B.out.cell 1; have hga4 := hg4.block gA (by have := (HA.out.on HB3.out).lt; omega) (fun e => by have := (HR4.out _ e.symm).1; omega); have x2 : w4.cell? ⟨gA, j, none⟩ = some (.slice UA un uc) := (World.cell?_of_block (w := w3) (a := ⟨gA, j, none⟩) hga4).trans v2; have xf : w4.frozen? ⟨gA, j, none⟩ = false := (World.frozen?_of_block (w := w3) (a := ⟨gA, j, none⟩) hga4).trans uf'; clear ho4 hg4 hv4 HST HEO uf' hun' hga4
            refine hK.out _ _ (fun _ => ⟨x1, x2⟩) (fun hHeld2 => ?_)
            clear hK K
            replace hHeld := hHeld2 (by decide)
            clear hHeld2
            try simp only [List.getElem_toArray, List.getElem_cons_zero, List.getElem_cons_succ, Act.put, List.setIfInBounds_toArray, List.set_cons_zero, List.set_cons_succ]
            refine Drawn.take (i := 18) (v := ?_) rfl (by kernel_rfl) (by kernel_rfl) (by kernel_rfl) (by kernel_rfl) (fun _ _ _ h => h) (Or.inl ⟨by kernel_rfl, ?_⟩) hHeld ?_
            rotate_left
            · intro w' hSw; (try dsimp only at hSw); first | (go_simp; done) | (go_simp; with_reducible rfl)
            try simp only [List.getElem_toArray, List.getElem_cons_zero, List.getElem_cons_succ, Act.put, List.setIfInBounds_toArray, List.set_cons_zero, List.set_cons_succ]
            refine Drawn.only (i := 19) (by kernel_rfl) rfl (fun K hK => ?_)
            go_simp
            refine hK.out _ _ (fun h => absurd rfl h) (fun hHeld2 => ?_)
            clear hK K
            clear hHeld2
            refine Drawn.done (by kernel_rfl) ?_
            try simp only [List.getElem_toArray, List.getElem_cons_zero, List.getElem_cons_succ, Act.put, List.setIfInBounds_toArray, List.set_cons_zero, List.set_cons_succ]
            clear hHeld
            obtain ⟨wz, hwz⟩ : ∃ wz, wz = w4.setCell ⟨gA, j, none⟩ (.slice A4 (un + 1) c4) := ⟨_, rfl⟩
            have HMz : Hid (MBox w wz n (.slice (some ad) r rc)) := hid' (by
              rw [hwz]
              exact ((HM.out.on HB3.out).grown HG4.out (fun g e => by have := (HR4.out g e).1; omega)).grown (gr_set1 w4 gA j _) (fun g e => by have := Option.some.inj e; omega))
            have HGz : Hid (Blk wz (gA + 1) 77 [cv, .slice (some ⟨gA, 0, none⟩) n n]) := hid' (by
              rw [hwz]
              exact HG4B.out.grown (gr_set1 w4 gA j _) (fun e => by have := Option.some.inj e; omega))
            have HC3 := Lib.hid (HC.out.on HB3.out)
            have HO3 := Lib.hid (HO.out.below HB3.out (Nat.le_refl _))
            have HO4 := Lib.hid (HO3.out.grown HG4.out (fun g e e2 => by obtain ⟨_, cs, h⟩ := HR4.out g e2; exact not_int h (by decide) (HO3.out.intB e)))
            have HC4 := Lib.hid (HC3.out.grown HG4.out (fun g e => by obtain ⟨_, cs, h⟩ := HR4.out g e; exact ⟨fun e2 => by obtain ⟨cs', h'⟩ := OS.typ HC3.out e2; rw [h] at h'; injection h' with h'; injection h' with _ h' _; exact absurd h' (by decide), not_int h (by decide)⟩))
            have HAB : Hid (∃ cs, w4.heap[gA]? = some (.cells cs 79 (0, 0))) := hid' (by
              obtain ⟨us, _, hb, _⟩ := HA.out.on HB3.out
              exact ⟨_, hb.grown HG4.out (fun e => by have := (HR4.out _ e.symm).1; omega)⟩)
            have HOz : Hid (OI (gA + 2) wz (.slice A ln c) (onesTo x j)) := hid' (by
              rw [hwz]
              exact HO4.out.grown (gr_set1 w4 gA j _) (fun g e e2 => by have h1 := Option.some.inj e2; have h2 := (HO4.out.lt e).1; omega))
            have HCz : Hid (CK (gA + 2) wz cv (.slice A ln c) (cksTo rows n k)) := hid' (by
              rw [hwz]
              exact HC4.out.grown (gr_set1 w4 gA j _) (fun g e => by
                obtain rfl := Option.some.inj e
                obtain ⟨cs, h⟩ := HAB.out
                exact ⟨fun e2 => by have h2 := (OS.lt HC4.out e2).1; omega, not_int h (by decide)⟩))
            have HAz : Hid (AE (gA + 2) wz gA (atTo rows n k (j + 1))) := hid' (by
              rw [hwz, ← atTo_yes hjn HY1.out, HXE.out, ← HLN.out]
              exact HST4.out)
            have HZz : Hid (gA + 2 ≤ wz.heap.size) := hid' (by
              rw [hwz, World.size_setCell]
              have := HB3.out.size
              have := HG4.out.size
              omega)
            rw [← hwz]
            clear hwz HST4 HA HC HO HG HM HX3 HB3 HG4 HG4B HR4 HO3 HC3 HO4 HC4 HAB x1 x2 xf v1 v2 g1 u1 uf hy hzz HUN HGE HZ
            have HPB : Hid (SI (wz.alloc (.cells #[.int .i64 (j : Int)] 3)) (.slice (some ⟨wz.heap.size, 0, none⟩) 1 1) [(j : Int)]) := hid' (SI.lit wz [(j : Int)] (by simp) (fun k => by match k with | 0 => exact I64.of_small (by simp <;> omega) (by simp <;> omega) | k + 1 => exact I64.zero))
            have HOA := Lib.hid (HOz.out.alloc (.cells #[.int .i64 (j : Int)] 3))
            have hol := onesTo_len x j
            have HOY : Hid (onesTo x (j + 1) = onesTo x j ++ [(j : Int)]) := hid' (onesTo_yes (by have := HY1.out; rw [HXE.out] at this; exact this))
            have HUP : Hid (gA + 2 ≤ (wz.alloc (.cells #[.int .i64 (j : Int)] 3)).heap.size) := hid' (by have := HZz.out; rw [World.size_alloc]; omega)
            have HLB : Hid ((onesTo x j).length + [(j : Int)].length ≤ 17592186044416) := hid' (by show _ ≤ _; simp; omega)
            have HBW := Lib.hid (bl_alloc wz (.cells #[.int .i64 (j : Int)] 3))
            go_wp2_with (at_builtin; refine wpList_catI rfl _ _ rfl (gA + 2) _ (onesTo x j) rfl HOA.out _ [(j : Int)] rfl HPB.out HLB.out HUP.out ?_; (intro v1 w5 ho hg hv1); (rw [← HOY.out] at ho; have HO5 := Lib.hid ho; have HC5 := Lib.hid ((HCz.out.on HBW.out).push HOA.out hg hv1); have HA5 := Lib.hid ((HAz.out.on HBW.out).grown hg (fun g e => by obtain ⟨cs, s, h⟩ := HOA.out.intB e; exact ⟨cs, _, s, h, by decide, by decide⟩)); have HM5 := Lib.hid ((HMz.out.on HBW.out).grown hg (fun g e => by have := (HOA.out.lt e).1; omega)); have HG5 := Lib.hid ((HGz.out.belowS HBW.out).grown hg (fun e => by have := (HOA.out.lt e.symm).1; omega)); have HZ5 : Hid (gA + 2 ≤ w5.heap.size) := hid' (Nat.le_trans HUP.out hg.size); clear ho hg hv1))
            obtain ⟨A5, c5, rfl⟩ := HO5.out.form'
            exact ⟨⟨j + 1, A5, c5, _, by omega, rfl, by push_cast; rfl, rfl, HM5, HG5, HC5, HO5, HA5, HZ5⟩, by simp only [intOf]; omega⟩
          · have hb : (y == 1) = false := by rw [beq_eq_false_iff_ne]; exact h1
            have HY1 : Hid ((rows.getD k []).getD j 0 ≠ 1) := hid' (by show _ ≠ _; rw [HXE.out, HY.out]; exact h1)
            have HOY : Hid (onesTo x (j + 1) = onesTo x j) := hid' (onesTo_no (by have := HY1.out; rw [HXE.out] at this; exact this))
            have HAY : Hid (atTo rows n k (j + 1) = atTo rows n k j) := hid' (atTo_no HY1.out)
            clear h1
            go_wp2_with fail
            exact ⟨⟨j + 1, A, c, ln, by omega, rfl, by push_cast; rfl, by rw [HOY.out]; exact HLN, HM, HG, HC, by rw [HOY.out]; exact HO, by rw [HAY.out]; exact HA, HZ⟩, by simp only [intOf]; omega⟩
        · obtain rfl : n = j := by omega
          have g0 : wr.cell? ⟨gA + 1, 0, none⟩ = some cv := HG.out.cell 0
          have HBW := Lib.hid (bl_alloc wr (.cells #[.slice A ln c] 25))
          have HCa := Lib.hid (HC.out.on HBW.out)
          have HOa := Lib.hid (HO.out.alloc (.cells #[.slice A ln c] 25))
          have HOS := Lib.hid HCa.out.out
          have HUX := Lib.hid (HCa.out.apart HOa.out)
          have hol := onesTo_len x n
          have HSa : Hid (SI (wr.alloc (.cells #[.slice A ln c] 25)) (.slice A ln c) (onesTo x n)) := hid' (HOa.out.si (by omega) (fun i => by have := onesTo_bd x n i; exact I64.of_small (by omega) (by omega)))
          have HBX : Hid ((wr.alloc (.cells #[.slice A ln c] 25)).cell? ⟨wr.heap.size, 0, none⟩ = some (.slice A ln c)) := hid' ((Blk.new wr 25 [.slice A ln c]).cell 0)
          have HUP : Hid (gA + 2 ≤ (wr.alloc (.cells #[.slice A ln c] 25)).heap.size) := hid' (by have := HZ.out; rw [World.size_alloc]; omega)
          have HLN2 : Hid ((cksTo rows n k).length + 1 ≤ 4398046511104) := hid' (by rw [cksTo_len]; omega)
          have HGa := Lib.hid (HG.out.belowS HBW.out)
          have hlt3 := HG.out.lt
          have HAa := Lib.hid (HA.out.on HBW.out)
          have HMa := Lib.hid (HM.out.on HBW.out)
          go_wp2_with (at_builtin; refine wpList_pushS rfl _ _ rfl (gA + 2) _ _ (cksTo rows n k) rfl HOS.out wr.heap.size 1 _ (onesTo x n) rfl HBX.out HSa.out HUX.out HLN2.out HUP.out ?_; (intro v5 w5 ho hg hv5); (rw [show cksTo rows n k ++ [onesTo x n] = cksTo rows n (k + 1) by rw [cksTo_succ, HXE.out]] at ho; obtain ⟨A5, c5, hve⟩ := OS.form ho; rw [cksTo_len] at hve; subst hve; have HC5 := Lib.hid (CK.laid ho HCa.out rfl hg); have HG5 := Lib.hid (HGa.out.grown hg (fun e => by have := (OS.lt HOS.out e.symm).1; omega)); have HA5 := Lib.hid (HAa.out.grown hg (fun g e => by obtain ⟨cs, h⟩ := OS.typ HOS.out e; exact ⟨cs, _, _, h, by decide, by decide⟩)); have HM5 := Lib.hid (HMa.out.grown hg (fun g e => by have := (OS.lt HOS.out e).1; omega)); have HZ5 : Hid (gA + 2 ≤ w5.heap.size) := hid' (Nat.le_trans HUP.out hg.size); have g5 : w5.cell? ⟨gA + 1, 0, none⟩ = some cv := HG5.out.cell 0; have f5 := HG5.out.frozen 0; clear ho hg hv5))
          have HGB : Hid (∃ cs, w5.heap[gA + 1]? = some (.cells cs 77 (0, 0))) := hid' ⟨_, HG5.out⟩
          have HG6 : Hid (Blk (w5.setCell ⟨gA + 1, 0, none⟩ (.slice A5 (k + 1) c5)) (gA + 1) 77 [.slice A5 (k + 1) c5, .slice (some ⟨gA, 0, none⟩) n n]) := hid' (HG5.out.set_ 0 _)
          have HC6 : Hid (CK (gA + 2) (w5.setCell ⟨gA + 1, 0, none⟩ (.slice A5 (k + 1) c5)) (.slice A5 (k + 1) c5) (.slice none 0 0) (cksTo rows n (k + 1))) := hid' (HC5.out.grown (gr_set1 w5 (gA + 1) 0 _) (fun g e => by
            obtain rfl := Option.some.inj e
            obtain ⟨cs, h⟩ := HGB.out
            exact ⟨fun e2 => by have h2 := (OS.lt HC5.out e2).1; omega, not_int h (by decide)⟩))
          have HA6 : Hid (AE (gA + 2) (w5.setCell ⟨gA + 1, 0, none⟩ (.slice A5 (k + 1) c5)) gA (atTo rows n (k + 1) 0)) := hid' (by
            rw [← atTo_end]
            exact HA5.out.grown (gr_set1 w5 (gA + 1) 0 _) (fun g e => by
              obtain rfl := Option.some.inj e
              obtain ⟨cs, h⟩ := HGB.out
              exact ⟨cs, _, _, h, by decide, by decide⟩))
          have HM6 := Lib.hid (HM5.out.grown (gr_set1 w5 (gA + 1) 0 (.slice A5 (k + 1) c5)) (fun g e => by have := Option.some.inj e; omega))
          exact ⟨⟨k + 1, _, by omega, by push_cast; rfl, HM6, HG6, HC6, HA6, hid' (by rw [World.size_setCell]; exact HZ5.out)⟩, by simp only [intOf]; omega⟩
    · obtain rfl : r = k := by omega
      have g0 : wr.cell? ⟨gA + 1, 0, none⟩ = some cv := HG.out.cell 0
      have hgl := HG.out.lt
      go_wp2_with fail
      go_ret2
      refine ⟨gA + 1, rfl, fun w2 h2 => ?_, HM.out.bel⟩
      rw [HRL.out]
      refine ⟨cv, gA, ?_, ?_, (HC.out.sep (by rw [cksTo_len]; omega)) w2 (fun p hp hl => h2 p (by omega) hl), AE_sep HA.out w2 (fun p hp hl => h2 p (by omega) hl)⟩
      · rw [h2 ⟨gA + 1, 0, none⟩ (by show _ ≤ gA + 1; omega) hgl]; exact HG.out.cell 0
      · rw [h2 ⟨gA + 1, 1, none⟩ (by show _ ≤ gA + 1; omega) hgl, atTo_len]; exact HG.out.cell 1
end Go.Proofs.Ytgabhlalamnbgaa

/- Bit flipping: parities, scores, the next position, the walk of the changes. No program in sight. -/
namespace Go.Proofs.Ytgabhlalamnbgaa

/-- the sum of the products of the first k entries -/
def dotN (row w : List Int) : Nat → Int
  | 0 => 0
  | k + 1 => dotN row w k + row.getD k 0 * w.getD k 0
/-- a check has an odd number of ones -/
def oddF (row w : List Int) : Bool := decide (dotN row w row.length % 2 = 1)
/-- the entries of w at the places l -/
def selW (w : List Int) : List Int → Int
  | [] => 0
  | p :: l => w.getD p.toNat 0 + selW w l
theorem selW_snoc (w : List Int) (p : Int) : ∀ l, selW w (l ++ [p]) = selW w l + w.getD p.toNat 0
  | [] => by simp [selW]
  | q :: l => by rw [List.cons_append, selW, selW_snoc w p l, selW]; omega
theorem selW_ones {row w : List Int} (hr : Bit row) : ∀ k, selW w (onesTo row k) = dotN row w k
  | 0 => rfl
  | k + 1 => by
    rcases hr k with h | h
    · rw [onesTo_no (by omega), selW_ones hr k, dotN, h, Int.zero_mul, Int.add_zero]
    · rw [onesTo_yes h, selW_snoc, selW_ones hr k, dotN, h, Int.one_mul, Int.toNat_natCast]
theorem dotN_bd {row w : List Int} (hr : Bit row) (hw : Bit w) : ∀ k, 0 ≤ dotN row w k ∧ dotN row w k ≤ k
  | 0 => by simp [dotN]
  | k + 1 => by
    have ih := dotN_bd hr hw k
    rw [dotN]
    rcases hr k with h | h <;> rcases hw k with h2 | h2 <;> rw [h, h2] <;> omega
theorem selW_bd {w : List Int} (hw : Bit w) : ∀ l : List Int, 0 ≤ selW w l ∧ selW w l ≤ l.length
  | [] => by simp [selW]
  | p :: l => by
    have ih := selW_bd hw l
    rw [selW, List.length_cons]
    rcases hw p.toNat with h | h <;> rw [h] <;> omega
/-- which checks are odd -/
def badOf (rows : List (List Int)) (w : List Int) : List Bool := (List.range rows.length).map fun j => oddF (rows.getD j []) w
theorem badOf_len (rows : List (List Int)) (w : List Int) : (badOf rows w).length = rows.length := by simp [badOf]
theorem badOf_getD {rows : List (List Int)} {w : List Int} {j : Nat} (h : j < rows.length) : (badOf rows w).getD j false = oddF (rows.getD j []) w := by simp [badOf, List.getD, h]
/-- the odd checks among the first k -/
def unsTo (rows : List (List Int)) (w : List Int) (k : Nat) : List Int := ((List.range k).filter fun j => oddF (rows.getD j []) w).map fun (j : Nat) => (j : Int)
theorem unsTo_yes {rows : List (List Int)} {w : List Int} {k : Nat} (h : oddF (rows.getD k []) w = true) : unsTo rows w (k + 1) = unsTo rows w k ++ [(k : Int)] := by
  unfold unsTo
  rw [filt_yes h, List.map_append]; rfl
theorem unsTo_no {rows : List (List Int)} {w : List Int} {k : Nat} (h : oddF (rows.getD k []) w = false) : unsTo rows w (k + 1) = unsTo rows w k := by
  unfold unsTo
  rw [filt_no h]
theorem unsTo_len (rows : List (List Int)) (w : List Int) (k : Nat) : (unsTo rows w k).length ≤ k := by
  unfold unsTo
  rw [List.length_map]
  have := List.length_filter_le (fun j => oddF (rows.getD j []) w) (List.range k)
  simpa using this
theorem unsTo_bd (rows : List (List Int)) (w : List Int) (k j : Nat) : 0 ≤ (unsTo rows w k).getD j 0 ∧ (unsTo rows w k).getD j 0 ≤ k := by
  by_cases h : j < (unsTo rows w k).length
  · have hm : (unsTo rows w k).getD j 0 ∈ unsTo rows w k := by rw [List.getD_eq_getElem?_getD, List.getElem?_eq_getElem h]; exact List.getElem_mem h
    unfold unsTo at hm
    obtain ⟨p, hp, h1⟩ := List.mem_map.1 hm
    have := List.mem_range.1 (List.mem_filter.1 hp).1
    unfold unsTo
    omega
  · rw [getD_len (by omega)]; omega
/-- the marks behind the first k odd checks -/
def markTo (r : Nat) (l : List Int) : List Bool := (List.range r).map fun (j : Nat) => l.contains (j : Int)
theorem markTo_len (r : Nat) (l : List Int) : (markTo r l).length = r := by simp [markTo]
theorem markTo_set {r : Nat} {l : List Int} {x : Int} (h0 : 0 ≤ x) : (markTo r l).set x.toNat true = markTo r (l ++ [x]) := by
  apply List.ext_getElem?
  intro j
  by_cases hj : j < r
  · by_cases e : x.toNat = j
    · have e2 : (j : Int) = x := by omega
      rw [e, List.getElem?_set_self (by rw [markTo_len]; omega)]
      simp [markTo, hj, e2]
    · rw [List.getElem?_set_ne e]
      have e2 : ¬ (j : Int) = x := by omega
      simp [markTo, hj, e2]
  · rw [List.getElem?_eq_none (by simp [markTo]; omega), List.getElem?_eq_none (by simp [markTo]; omega)]
theorem markTo_nil (r : Nat) : markTo r [] = List.replicate r false := by simp [markTo, List.map_const']
theorem markTo_uns (rows : List (List Int)) (w : List Int) : markTo rows.length (unsTo rows w rows.length) = badOf rows w := by
  refine List.map_congr_left fun j hj => ?_
  rw [List.mem_range] at hj
  rw [Bool.eq_iff_iff, List.contains_iff_mem]
  unfold unsTo
  rw [List.mem_map]
  constructor
  · rintro ⟨p, hp, he⟩
    rw [List.mem_filter] at hp
    have : p = j := by omega
    subst this
    exact hp.2
  · intro h
    exact ⟨j, by rw [List.mem_filter, List.mem_range]; exact ⟨hj, h⟩, rfl⟩

/-- odd checks less even ones, of the first i rows that contain p -/
def scoreTo (rows : List (List Int)) (bad : List Bool) (p : Nat) : Nat → Int
  | 0 => 0
  | i + 1 => scoreTo rows bad p i + (if (rows.getD i []).getD p 0 = 1 then (if bad.getD i false = true then 1 else -1) else 0)
theorem scoreTo_bd (rows : List (List Int)) (bad : List Bool) (p : Nat) : ∀ i : Nat, -(i : Int) ≤ scoreTo rows bad p i ∧ scoreTo rows bad p i ≤ i
  | 0 => by simp [scoreTo]
  | i + 1 => by
    have ih := scoreTo_bd rows bad p i
    rw [scoreTo]
    split
    · split <;> omega
    · omega
def scoreE (bad : List Bool) : List (Int × Int) → Int
  | [] => 0
  | e :: es => scoreE bad es + (if bad.getD e.1.toNat false = true then 1 else -1)
theorem scoreE_snoc (bad : List Bool) (x : Int × Int) : ∀ es, scoreE bad (es ++ [x]) = scoreE bad es + (if bad.getD x.1.toNat false = true then 1 else -1)
  | [] => by simp [scoreE]
  | e :: es => by rw [List.cons_append, scoreE, scoreE_snoc bad x es, scoreE]; omega
theorem scoreE_bd (bad : List Bool) : ∀ es : List (Int × Int), -(es.length : Int) ≤ scoreE bad es ∧ scoreE bad es ≤ es.length
  | [] => by simp [scoreE]
  | e :: es => by
    have ih := scoreE_bd bad es
    rw [scoreE, List.length_cons]
    split <;> omega
theorem scoreE_edges (rows : List (List Int)) (bad : List Bool) (p : Nat) : ∀ i, scoreE bad (edgesTo rows p i) = scoreTo rows bad p i
  | 0 => rfl
  | i + 1 => by
    by_cases h : (rows.getD i []).getD p 0 = 1
    · rw [edgesTo_yes h, scoreE_snoc, scoreE_edges rows bad p i, scoreTo, if_pos h, Int.toNat_natCast]
    · rw [edgesTo_no h, scoreE_edges rows bad p i, scoreTo, if_neg h, Int.add_zero]
theorem take_snocE (es : List (Int × Int)) (k : Nat) (h : k < es.length) : es.take (k + 1) = es.take k ++ [es.getD k (0, 0)] := by
  rw [List.take_succ_eq_append_getElem h]; simp [List.getD, h]
theorem edges_fst {rows : List (List Int)} {p i k : Nat} (h : k < (edgesTo rows p i).length) : ∃ j : Nat, j < i ∧ ((edgesTo rows p i).getD k (0, 0)).1 = (j : Int) := by
  have hm : (edgesTo rows p i).getD k (0, 0) ∈ edgesTo rows p i := by rw [List.getD_eq_getElem?_getD, List.getElem?_eq_getElem h]; exact List.getElem_mem h
  unfold edgesTo at hm
  obtain ⟨j, hj, h1⟩ := List.mem_map.1 hm
  refine ⟨j, List.mem_range.1 (List.mem_filter.1 hj).1, ?_⟩
  unfold edgesTo
  rw [← h1]
/-- the least position from p on whose score is above 0; -1 if there is none -/
def nxF (rows : List (List Int)) (bad : List Bool) : Nat → Nat → Int
  | 0, _ => -1
  | f + 1, p => if 0 < scoreTo rows bad p rows.length then (p : Int) else nxF rows bad f (p + 1)
def nextI (rows : List (List Int)) (n : Nat) (bad : List Bool) : Int := nxF rows bad n 0
theorem nxF_bd (rows : List (List Int)) (bad : List Bool) : ∀ f p : Nat, nxF rows bad f p = -1 ∨ ((p : Int) ≤ nxF rows bad f p ∧ nxF rows bad f p < (p : Int) + f ∧ 0 < scoreTo rows bad (nxF rows bad f p).toNat rows.length)
  | 0, p => .inl rfl
  | f + 1, p => by
    rw [nxF]
    by_cases h : 0 < scoreTo rows bad p rows.length
    · rw [if_pos h]; right; rw [Int.toNat_natCast]; exact ⟨by omega, by omega, h⟩
    · rw [if_neg h]
      rcases nxF_bd rows bad f (p + 1) with h1 | ⟨h1, h2, h3⟩
      · exact .inl h1
      · exact .inr ⟨by omega, by omega, h3⟩
theorem nextI_bd (rows : List (List Int)) (n : Nat) (bad : List Bool) : nextI rows n bad = -1 ∨ (0 ≤ nextI rows n bad ∧ nextI rows n bad < n ∧ 0 < scoreTo rows bad (nextI rows n bad).toNat rows.length) := by
  rcases nxF_bd rows bad n 0 with h | ⟨h1, h2, h3⟩
  · exact .inl h
  · exact .inr ⟨by unfold nextI; omega, by unfold nextI; omega, h3⟩

/-- the checks of p are turned -/
def togB (rows : List (List Int)) (p : Nat) (bad : List Bool) (i : Nat) : List Bool := (List.range rows.length).map fun j => if j < i ∧ (rows.getD j []).getD p 0 = 1 then !(bad.getD j false) else bad.getD j false
theorem togB_len (rows : List (List Int)) (p : Nat) (bad : List Bool) (i : Nat) : (togB rows p bad i).length = rows.length := by simp [togB]
def togE (bad : List Bool) (es : List (Int × Int)) : List Bool := es.foldl (fun b e => b.set e.1.toNat (!(b.getD e.1.toNat false))) bad
theorem togE_snoc (bad : List Bool) (es : List (Int × Int)) (e : Int × Int) : togE bad (es ++ [e]) = (togE bad es).set e.1.toNat (!((togE bad es).getD e.1.toNat false)) := by simp [togE, List.foldl_append]
theorem togE_len (bad : List Bool) : ∀ es : List (Int × Int), (togE bad es).length = bad.length := by
  intro es
  unfold togE
  induction es generalizing bad with
  | nil => rfl
  | cons e es ih => rw [List.foldl_cons, ih, List.length_set]
theorem togB_getD {rows : List (List Int)} {p : Nat} {bad : List Bool} {i j : Nat} (h : j < rows.length) : (togB rows p bad i).getD j false = if j < i ∧ (rows.getD j []).getD p 0 = 1 then !(bad.getD j false) else bad.getD j false := by
  unfold togB
  rw [List.getD_eq_getElem?_getD, List.getElem?_map, List.getElem?_range h]; rfl
theorem togE_edges {rows : List (List Int)} {p : Nat} {bad : List Bool} (hl : bad.length = rows.length) : ∀ i, i ≤ rows.length → togE bad (edgesTo rows p i) = togB rows p bad i
  | 0, _ => by
    show bad = _
    apply List.ext_getElem?
    intro j
    by_cases hj : j < rows.length
    · unfold togB
      rw [List.getElem?_map, List.getElem?_range hj]
      simp [List.getD, List.getElem?_eq_getElem (show j < bad.length by omega)]
    · rw [List.getElem?_eq_none (by omega), List.getElem?_eq_none (by rw [togB_len]; omega)]
  | i + 1, hi => by
    have key : ∀ j, j < rows.length → (togB rows p bad (i + 1))[j]? = some (if j < i + 1 ∧ (rows.getD j []).getD p 0 = 1 then !(bad.getD j false) else bad.getD j false) := fun j hj => by
      unfold togB
      rw [List.getElem?_map, List.getElem?_range hj]; rfl
    have key0 : ∀ j, j < rows.length → (togB rows p bad i)[j]? = some (if j < i ∧ (rows.getD j []).getD p 0 = 1 then !(bad.getD j false) else bad.getD j false) := fun j hj => by
      unfold togB
      rw [List.getElem?_map, List.getElem?_range hj]; rfl
    by_cases h : (rows.getD i []).getD p 0 = 1
    · rw [edgesTo_yes h, togE_snoc, togE_edges hl i (by omega)]
      show (togB rows p bad i).set ((i : Int)).toNat (!((togB rows p bad i).getD ((i : Int)).toNat false)) = _
      rw [Int.toNat_natCast, togB_getD (by omega), if_neg (by omega)]
      apply List.ext_getElem?
      intro j
      by_cases hj : j < rows.length
      · rw [key j hj]
        by_cases e : i = j
        · subst e
          rw [List.getElem?_set_self (by rw [togB_len]; omega), if_pos ⟨by omega, h⟩]
        · rw [List.getElem?_set_ne e, key0 j hj]
          congr 1
          have h3 : (j < i ∧ (rows.getD j []).getD p 0 = 1) ↔ (j < i + 1 ∧ (rows.getD j []).getD p 0 = 1) := ⟨fun h => ⟨by omega, h.2⟩, fun h => ⟨by omega, h.2⟩⟩
          simp only [h3]
      · rw [List.getElem?_eq_none (by rw [List.length_set, togB_len]; omega), List.getElem?_eq_none (by rw [togB_len]; omega)]
    · rw [edgesTo_no h, togE_edges hl i (by omega)]
      apply List.ext_getElem?
      intro j
      by_cases hj : j < rows.length
      · rw [key j hj, key0 j hj]
        congr 1
        by_cases e : j = i
        · subst e; rw [if_neg (by omega), if_neg (fun h2 => h h2.2)]
        · have h3 : (j < i ∧ (rows.getD j []).getD p 0 = 1) ↔ (j < i + 1 ∧ (rows.getD j []).getD p 0 = 1) := ⟨fun h => ⟨by omega, h.2⟩, fun h => ⟨by omega, h.2⟩⟩
          simp only [h3]
      · rw [List.getElem?_eq_none (by rw [togB_len]; omega), List.getElem?_eq_none (by rw [togB_len]; omega)]
/-- a position is changed -/
def flipAt (w : List Int) (p : Nat) : List Int := w.set p (1 - w.getD p 0)
theorem flipAt_len (w : List Int) (p : Nat) : (flipAt w p).length = w.length := by simp [flipAt]
theorem flipAt_bit {w : List Int} (h : Bit w) (p : Nat) : Bit (flipAt w p) := fun k => by
  have hk := h k; have hp := h p
  unfold flipAt
  have key : (w.set p (1 - w.getD p 0)).getD k 0 = if p = k ∧ p < w.length then 1 - w.getD p 0 else w.getD k 0 := by
    by_cases e : p = k
    · subst e
      by_cases hl : p < w.length <;> simp [List.getD, hl]
    · simp [List.getD, List.getElem?_set_ne e, e]
  rw [key]
  split <;> omega
theorem dotN_flip {row w : List Int} {p : Nat} (hp : p < w.length) : ∀ k, dotN row (flipAt w p) k = dotN row w k + (if p < k then row.getD p 0 * (1 - 2 * w.getD p 0) else 0)
  | 0 => by simp [dotN]
  | k + 1 => by
    rw [dotN, dotN_flip hp k, dotN]
    unfold flipAt
    by_cases e : p = k
    · subst e
      have : (w.set p (1 - w.getD p 0)).getD p 0 = 1 - w.getD p 0 := by simp [List.getD, hp]
      rw [this, if_neg (by omega), if_pos (by omega), Int.mul_sub, Int.mul_sub, Int.mul_one]
      have : row.getD p 0 * (2 * w.getD p 0) = 2 * (row.getD p 0 * w.getD p 0) := by rw [← Int.mul_assoc, Int.mul_comm (row.getD p 0) 2, Int.mul_assoc]
      rw [this]; omega
    · have : (w.set p (1 - w.getD p 0)).getD k 0 = w.getD k 0 := by simp [List.getD, List.getElem?_set_ne e]
      rw [this]
      by_cases h : p < k
      · rw [if_pos h, if_pos (by omega)]; omega
      · rw [if_neg h, if_neg (by omega)]; omega
theorem oddF_flip {row w : List Int} {p : Nat} (hp : p < w.length) (hl : row.length = w.length) (hr : Bit row) : oddF row (flipAt w p) = if row.getD p 0 = 1 then !(oddF row w) else oddF row w := by
  unfold oddF
  rw [dotN_flip hp, if_pos (by omega)]
  rcases hr p with h | h
  · rw [h, if_neg (by omega), Int.zero_mul, Int.add_zero]
  · rw [h, if_pos rfl, Int.one_mul]
    by_cases h2 : dotN row w row.length % 2 = 1
    · rw [decide_eq_true h2, Bool.not_true]
      exact decide_eq_false (by omega)
    · rw [decide_eq_false h2, Bool.not_false]
      exact decide_eq_true (by omega)
/-- a matrix of bits with n columns -/
def BitRows (n : Nat) (rows : List (List Int)) : Prop := ∀ j, j < rows.length → (rows.getD j []).length = n ∧ Bit (rows.getD j [])
theorem badOf_flip {n : Nat} {rows : List (List Int)} (hR : BitRows n rows) {w : List Int} (hw : w.length = n) {p : Nat} (hp : p < n) : badOf rows (flipAt w p) = togB rows p (badOf rows w) rows.length := by
  refine List.map_congr_left fun j hj => ?_
  rw [List.mem_range] at hj
  obtain ⟨h1, h2⟩ := hR j hj
  rw [oddF_flip (by omega) (by omega) h2, badOf_getD hj]
  by_cases h : (rows.getD j []).getD p 0 = 1
  · rw [if_pos h, if_pos ⟨hj, h⟩]
  · rw [if_neg h, if_neg fun h2 => h h2.2]
/-- how many of the first i are odd -/
def cntTo (bad : List Bool) : Nat → Int
  | 0 => 0
  | i + 1 => cntTo bad i + (if bad.getD i false = true then 1 else 0)
theorem cntTo_nonneg (bad : List Bool) : ∀ i, 0 ≤ cntTo bad i ∧ cntTo bad i ≤ i
  | 0 => by simp [cntTo]
  | i + 1 => by
    have := cntTo_nonneg bad i
    rw [cntTo]; split <;> omega
theorem cntTo_tog {rows : List (List Int)} {p : Nat} {bad : List Bool} : ∀ i, i ≤ rows.length → cntTo (togB rows p bad rows.length) i = cntTo bad i - scoreTo rows bad p i
  | 0, _ => by simp [cntTo, scoreTo]
  | i + 1, hi => by
    rw [cntTo, cntTo_tog i (by omega), cntTo, scoreTo]
    by_cases h : (rows.getD i []).getD p 0 = 1
    · have e : (togB rows p bad rows.length).getD i false = !(bad.getD i false) := by rw [togB_getD (by omega), if_pos ⟨by omega, h⟩]
      rw [e, if_pos h]
      cases bad.getD i false <;> simp <;> omega
    · have e : (togB rows p bad rows.length).getD i false = bad.getD i false := by rw [togB_getD (by omega), if_neg fun h2 => h h2.2]
      rw [e, if_neg h]; omega
/-- behind t changes: the word, and the positions -/
def stF (rows : List (List Int)) (n : Nat) (word : List Int) : Nat → List Int × List Int
  | 0 => (word, [])
  | t + 1 => (flipAt (stF rows n word t).1 (nextI rows n (badOf rows (stF rows n word t).1)).toNat, (stF rows n word t).2 ++ [nextI rows n (badOf rows (stF rows n word t).1)])
/-- the next position behind t changes -/
def nxt (rows : List (List Int)) (n : Nat) (word : List Int) (t : Nat) : Int := nextI rows n (badOf rows (stF rows n word t).1)
/-- there are t changes -/
def FlipT (rows : List (List Int)) (n : Nat) (word : List Int) (t : Nat) : Prop := (∀ s, s < t → 0 ≤ nxt rows n word s) ∧ nxt rows n word t < 0
theorem stF_len (rows : List (List Int)) (n : Nat) (word : List Int) : ∀ t, (stF rows n word t).1.length = word.length ∧ (stF rows n word t).2.length = t
  | 0 => ⟨rfl, rfl⟩
  | t + 1 => by
    have ih := stF_len rows n word t
    exact ⟨by show (flipAt _ _).length = _; rw [flipAt_len, ih.1], by rw [stF, List.length_append, ih.2]; rfl⟩
theorem stF_bit {rows : List (List Int)} {n : Nat} {word : List Int} (h : Bit word) : ∀ t, Bit (stF rows n word t).1
  | 0 => h
  | t + 1 => flipAt_bit (stF_bit h t) _
theorem stF_cnt {rows : List (List Int)} {n : Nat} {word : List Int} (hR : BitRows n rows) (hw : word.length = n) {t : Nat} (h : 0 ≤ nxt rows n word t) : cntTo (badOf rows (stF rows n word (t + 1)).1) rows.length < cntTo (badOf rows (stF rows n word t).1) rows.length := by
  have h1 := nextI_bd rows n (badOf rows (stF rows n word t).1)
  unfold nxt at h
  obtain ⟨h2, h3, h4⟩ := h1.resolve_left (by omega)
  show cntTo (badOf rows (flipAt _ _)) _ < _
  rw [badOf_flip hR (by rw [(stF_len rows n word t).1, hw]) (by omega), cntTo_tog rows.length (Nat.le_refl _)]
  omega
theorem flip_ends {rows : List (List Int)} {n : Nat} {word : List Int} (hR : BitRows n rows) (hw : word.length = n) : ∃ t, t ≤ rows.length ∧ FlipT rows n word t := by
  have key : ∀ (f t : Nat), (∀ s, s < t → 0 ≤ nxt rows n word s) → cntTo (badOf rows (stF rows n word t).1) rows.length ≤ f → ∃ u, u ≤ t + f ∧ FlipT rows n word u := by
    intro f
    induction f with
    | zero =>
      intro t h1 h2
      by_cases h : 0 ≤ nxt rows n word t
      · have := stF_cnt hR hw h
        have := cntTo_nonneg (badOf rows (stF rows n word (t + 1)).1) rows.length
        omega
      · exact ⟨t, by omega, h1, by omega⟩
    | succ f ih =>
      intro t h1 h2
      by_cases h : 0 ≤ nxt rows n word t
      · have := stF_cnt hR hw h
        obtain ⟨u, hu, hf⟩ := ih (t + 1) (fun s hs => by
          by_cases e : s = t
          · subst e; exact h
          · exact h1 s (by omega)) (by omega)
        exact ⟨u, by omega, hf⟩
      · exact ⟨t, by omega, h1, by omega⟩
  obtain ⟨u, hu, hf⟩ := key rows.length 0 (fun s hs => by omega) (cntTo_nonneg _ _).2
  exact ⟨u, by omega, hf⟩
theorem FlipT.le {rows : List (List Int)} {n : Nat} {word : List Int} {t s : Nat} (h : FlipT rows n word t) (hs : s ≤ t) (hn : nxt rows n word s < 0) : s = t := by
  by_cases e : s = t
  · exact e
  · have := h.1 s (by omega); omega
end Go.Proofs.Ytgabhlalamnbgaa

/- message.odd, (*graph).unsatisfied, (*graph).worst, message.bitsOf. -/
namespace Go.Proofs.Ytgabhlalamnbgaa
open Go.RowKit
set_option linter.unusedVariables false
set_option maxRecDepth 100000

theorem take_len (xs : List Int) : xs.take xs.length = xs := List.take_of_length_le (Nat.le_refl _)

set_option maxHeartbeats 4000000 in
theorem modd_any (w : World) (lv wv : Value) (row word : List Int) (n : Nat) (hl : SI w lv (onesTo row n)) (hw : SI w wv word) (hn : word.length = n) (hrl : row.length = n) (hr : Bit row) (hb : Bit word) (hn2 : n ≤ 256) :
    Calls Try.prog 74 #[lv, wv] w (fun e w' => e = .returned (.bool (oddF row word)) ∧ w = w') := by
  have HLB := Lib.hid (fun j => onesTo_bd row n j)
  have HMM := Lib.hid (fun x => @onesTo_mem row n x)
  have HE : Hid (oddF row word = decide (selW word (onesTo row n) % 2 = 1)) := by show _ = _; unfold oddF; rw [hrl, ← selW_ones hr]
  have hll := onesTo_len row n
  generalize hL : onesTo row n = l at *
  clear hL
  obtain ⟨A, c, rfl, hl⟩ := hl
  obtain ⟨B, d, rfl, hw⟩ := hw
  have HL := Lib.hid hl; have HW := Lib.hid hw; clear hl hw
  have HB := Lib.hid hb
  have HN := Lib.hid hn; clear hn hrl hr hb
  have HSN : Hid (∀ k, k < l.length → selW word (l.take (k + 1)) = selW word (l.take k) + word.getD (l.getD k 0).toNat 0) := hid' fun k hk => by rw [take_snoc l k hk, selW_snoc]
  go_enter Try.func74, Try.ntmps74
  go_wp2_with fail
  go_loop [5, 10] (fun s i => ∃ k : Nat, k ≤ l.length ∧ i = .int .i64 (k : Int) ∧ s = .int .i64 (selW word (l.take k))) (fun _ i => l.length - (intOf i).toNat)
  case atStart => exact ⟨0, Nat.zero_le _, rfl, rfl⟩
  case round =>
    obtain ⟨k, hk, rfl, rfl⟩ := hrel
    have hsb := selW_bd HB.out (l.take k)
    have htl : (l.take k).length ≤ k := List.length_take_le _ _
    by_cases hlt : k < l.length
    · obtain ⟨ad, x, rfl, hc, _, HX⟩ := HL.out.elt hlt
      have hxb := HLB.out k
      rw [HX.out] at hxb
      have hxm : x ∈ l := by rw [← HX.out, List.getD_eq_getElem?_getD, List.getElem?_eq_getElem hlt]; exact List.getElem_mem hlt
      obtain ⟨p, hp, hpn, _⟩ := HMM.out x |>.1 hxm
      subst hp
      clear hxm hxb
      obtain ⟨bd, y, rfl, hd, _, HY⟩ := HW.out.elt (k := p) (by rw [HN.out]; exact hpn)
      have hyb := HB.out p
      rw [HY.out] at hyb
      have HS : Hid (selW word (l.take (k + 1)) = selW word (l.take k) + y) := hid' (by show _ = _; rw [HSN.out k hlt, HX.out, Int.toNat_natCast, HY.out])
      have hpw : p < word.length := by rw [HN.out]; exact hpn
      have hy0 : 0 ≤ y ∧ y ≤ 1 := by omega
      clear hyb
      generalize selW word (l.take k) = s at *
      obtain ⟨hs0, hs1⟩ := hsb
      obtain ⟨hy1, hy2⟩ := hy0
      go_wp2_with fail
      go_round
      case rel => exact ⟨k + 1, by omega, by go_num, by rw [HS.out]⟩
      case measure => simp [intOf]; omega
    · obtain rfl : l.length = k := by omega
      have HT : Hid (selW word (l.take l.length) = selW word l) := hid' (by show _ = _; rw [take_len])
      rw [HT.out] at hsb ⊢
      generalize selW word l = s at *
      obtain ⟨hs0, hs1⟩ := hsb
      by_cases ho : s % 2 = 1
      · have hb : (s % 2 == 1) = true := by rw [beq_iff_eq]; exact ho
        have HE2 : Hid (oddF row word = true) := hid' (by rw [HE.out]; simpa using ho)
        clear ho
        go_wp2_with fail
        go_ret
        exact ⟨by rw [HE2.out]; rfl, rfl⟩
      · have hb : (s % 2 == 1) = false := by rw [beq_eq_false_iff_ne]; exact ho
        have HE2 : Hid (oddF row word = false) := hid' (by rw [HE.out]; simpa using ho)
        clear ho
        go_wp2_with fail
        go_ret
        exact ⟨by rw [HE2.out]; rfl, rfl⟩

set_option maxHeartbeats 8000000 in
theorem muns_any (w : World) (g n : Nat) (rows : List (List Int)) (wv : Value) (word : List Int) (h : GR w g (cksTo rows n rows.length) (atTo rows n rows.length 0)) (hR : BitRows n rows) (hw : SI w wv word) (hn : word.length = n) (hb : Bit word) (hn2 : n ≤ 256) (hr2 : rows.length ≤ 256) :
    Calls Try.prog 50 #[.pointer (some ⟨g, 0, none⟩), wv] w (RetO w (unsTo rows word rows.length)) := by
  obtain ⟨cv, gA, h0, h1, hs, he⟩ := h
  obtain ⟨CA, cc, rfl, hs⟩ := hs
  have HSS := Lib.hid (show SS w (.slice CA (cksTo rows n rows.length).length cc) (cksTo rows n rows.length) from ⟨CA, cc, rfl, hs⟩); clear hs
  rw [cksTo_len] at h0 HSS
  have HW := Lib.hid hw; have HBW := Lib.hid hb; have HR := Lib.hid hR; have HN := Lib.hid hn
  generalize hrr : rows.length = r at *
  have HRR := Lib.hid hrr
  clear he h1 hw hb hR hn hrr
  have HO0 : Hid (OI w.heap.size w (.slice none 0 0) (unsTo rows word 0)) := OI.nil _ _
  go_enter Try.func50, Try.ntmps50
  go_wp2_with fail
  go_loopw [5, 13] (fun u i wr => ∃ (k : Nat) (A : Option Addr) (m c : Nat), k ≤ r ∧ i = .int .i64 (k : Int) ∧ u = .slice A m c ∧ Hid (m = (unsTo rows word k).length) ∧ Hid (OI w.heap.size wr u (unsTo rows word k)) ∧ Hid (Below w.heap.size w wr)) (fun _ i _ => r - (intOf i).toNat)
  case atStart => exact ⟨0, none, 0, 0, Nat.zero_le _, rfl, rfl, rfl, HO0, bl_refl _⟩
  case round =>
    clear HO0
    obtain ⟨k, A, m, c, hk, rfl, rfl, HML, HO, HB⟩ := hrel
    by_cases hlt : k < r
    · obtain ⟨ad, Ak, ck, x, rfl, hc0, HX, HXE⟩ := HSS.out.eltA (k := k) (by rw [cksTo_len]; exact hlt)
      have hc := cell_below HB.out hc0
      rw [cksTo_getD hlt] at HXE
      obtain rfl := HXE.out
      clear hc0 HXE
      obtain ⟨hx1, hx2⟩ := HR.out k (by rw [HRR.out]; exact hlt)
      have HXL := Lib.hid hx1; have HXB := Lib.hid hx2; clear hx1 hx2
      have HOD : ∀ b, oddF (rows.getD k []) word = b → Hid (oddF (rows.getD k []) word = b) := fun b h => h
      have HXS := Lib.hid (HX.out.si.below HB.out (Nat.le_refl _))
      have HWS := Lib.hid (HW.out.below HB.out (Nat.le_refl _))
      generalize (onesTo (rows.getD k []) n).length = xl at *
      go_wp2_with fail
      refine (modd_any _ _ wv (rows.getD k []) word n HXS.out HWS.out HN.out HXL.out HXB.out HBW.out hn2).mono ?_
      rintro e w3 ⟨rfl, rfl⟩
      cases ho : oddF (rows.getD k []) word
      · have HU : Hid (unsTo rows word (k + 1) = unsTo rows word k) := unsTo_no ho
        clear ho HOD
        go_wp2_with fail
        exact ⟨⟨k + 1, A, m, c, by omega, by push_cast; rfl, rfl, by rw [HU.out]; exact HML, by rw [HU.out]; exact HO, HB⟩, by simp only [intOf]; omega⟩
      · have HU : Hid (unsTo rows word (k + 1) = unsTo rows word k ++ [(k : Int)]) := unsTo_yes ho
        clear ho HOD
        have hul := unsTo_len rows word k
        have HP := Lib.hid (PushI.mk' (w0 := w) HO.out HB.out HB.out.size (k : Int))
        go_wp2_with (at_builtin; refine wpList_pushI rfl _ _ rfl w.heap.size _ (unsTo rows word k) rfl HP.out.own wr.heap.size 1 (k : Int) rfl HP.out.box (by omega) HP.out.up ?_; (intro v1 w5 ho hg); (rw [← HU.out] at ho; have HO5 := Lib.hid ho; have HB5 := Lib.hid (HP.out.below (Nat.le_refl _) hg); clear ho hg))
        obtain ⟨A5, c5, rfl⟩ := HO5.out.form'
        exact ⟨⟨k + 1, A5, _, c5, by omega, by push_cast; rfl, rfl, rfl, HO5, HB5⟩, by simp only [intOf]; omega⟩
    · obtain rfl : r = k := by omega
      go_wp2_with fail
      go_ret
      exact ⟨_, rfl, HO.out, HB.out⟩

/-- the error of a word of bits -/
noncomputable def wordE (n : Int) (word : List Int) : Int := if (word.length : Int) = n then entriesF 2 word else 4
theorem wordE_ok {n : Int} {word : List Int} (h : wordE n word = 0) : (word.length : Int) = n ∧ Bit word := by
  unfold wordE at h
  split at h
  case isFalse => cases h
  rename_i hl
  refine ⟨hl, fun k => ?_⟩
  unfold entriesF at h
  split at h
  case isFalse => cases h
  rename_i h2
  by_cases hk : k < word.length
  · have := h2 k hk; omega
  · rw [getD_len (by omega)]; omega

set_option maxHeartbeats 8000000 in
theorem bitsOf_any (w : World) (cols : Int) (rv wv : Value) (word : List Int) (hw : SI w wv word) (RA : Option Addr) (rn rc : Nat) (hrv : rv = .slice RA rn rc) :
    Calls Try.prog 49 #[.agg #[.int .i64 cols, rv], wv] w (RetI w (wordE cols word)) := by
  obtain ⟨A, c, rfl, hw⟩ := hw
  subst hrv
  have hwl := hw.len
  have HF := Lib.hid (MBox.mk' w cols (.slice RA rn rc))
  have HW := Lib.hid (hw.below HF.out.bel (Nat.le_refl _)); clear hw
  by_cases hl : (word.length : Int) = cols
  · have hb : ((word.length : Int) != cols) = false := by rw [bne_eq_false_iff_eq]; exact hl
    have HE : Hid (wordE cols word = entriesF 2 word) := by show _ = _; unfold wordE; rw [if_pos hl]
    clear hl
    go_enter Try.func49, Try.ntmps49
    go_wp2_with fail
    generalize hw0 : w.alloc (.cells #[.int .i64 cols, .slice RA rn rc] 24) = w0 at *
    clear hw0
    have d0 := HF.out.d0; have d1 := HF.out.d1
    go_wp2_with fail
    go_loop [14] (fun i => ∃ k : Nat, k ≤ word.length ∧ i = .int .i64 (k : Int) ∧ Hid (∀ j, j < k → 0 ≤ word.getD j 0 ∧ word.getD j 0 < 2)) (fun i => word.length - (intOf i).toNat)
    case atStart => exact ⟨0, Nat.zero_le _, rfl, hid' fun j hj => absurd hj (by omega)⟩
    case round =>
      obtain ⟨k, hk, rfl, HK⟩ := hrel
      by_cases hlt : k < word.length
      · obtain ⟨ad, x, rfl, hc, _, HX⟩ := HW.out.elt hlt
        by_cases hx : x = 0
        · have b0 : (x != 0) = false := by rw [bne_eq_false_iff_eq]; exact hx
          have HXX := Lib.hid hx; clear hx
          go_wp2_with fail
          go_round
          case rel => exact ⟨k + 1, by omega, by go_num, hid' fun j hj => by
            by_cases e : j = k
            · subst e; rw [HX.out, HXX.out]; omega
            · exact HK.out j (by omega)⟩
          case measure => simp [intOf]; omega
        · have b0 : (x != 0) = true := by rw [bne_iff_ne]; exact hx
          by_cases hx1 : x = 1
          · have b1 : (x != 1) = false := by rw [bne_eq_false_iff_eq]; exact hx1
            have HXX := Lib.hid hx1; clear hx hx1
            go_wp2_with fail
            go_round
            case rel => exact ⟨k + 1, by omega, by go_num, hid' fun j hj => by
              by_cases e : j = k
              · subst e; rw [HX.out, HXX.out]; omega
              · exact HK.out j (by omega)⟩
            case measure => simp [intOf]; omega
          · have b1 : (x != 1) = true := by rw [bne_iff_ne]; exact hx1
            have HE2 : Hid (entriesF 2 word = 2) := entriesF_bad hlt (by rw [HX.out]; omega)
            clear hx hx1
            go_wp2_with fail
            go_ret
            exact ⟨by rw [HE.out, HE2.out]; rfl, HF.out.bel⟩
      · obtain rfl : word.length = k := by omega
        have HE2 : Hid (entriesF 2 word = 0) := entriesF_ok HK.out
        go_wp2_with fail
        go_ret
        exact ⟨by rw [HE.out, HE2.out]; rfl, HF.out.bel⟩
  · have hb : ((word.length : Int) != cols) = true := by rw [bne_iff_ne]; exact hl
    have HE : Hid (wordE cols word = 4) := by show _ = _; unfold wordE; rw [if_neg hl]
    clear hl
    go_enter Try.func49, Try.ntmps49
    go_wp2_with fail
    generalize hw0 : w.alloc (.cells #[.int .i64 cols, .slice RA rn rc] 24) = w0 at *
    clear hw0
    have d0 := HF.out.d0; have d1 := HF.out.d1
    go_wp2_with fail
    go_ret
    exact ⟨by rw [HE.out]; rfl, HF.out.bel⟩
end Go.Proofs.Ytgabhlalamnbgaa

/- (*graph).worst. -/
namespace Go.Proofs.Ytgabhlalamnbgaa
open Go.RowKit
set_option linter.unusedVariables false
set_option maxRecDepth 100000

theorem Blk.on2 {w w' : World} {g : Nat} {t : TypeId} {cs : List Value} (h : Blk w g t cs) (hb : Below w.heap.size w w') : Blk w' g t cs := h.belowS hb

set_option maxHeartbeats 8000000 in
theorem mworst_any (w : World) (g n : Nat) (rows : List (List Int)) (gb : Nat) (bad : List Bool) (h : GR w g (cksTo rows n rows.length) (atTo rows n rows.length 0)) (hb : RB w gb bad) (hbl : bad.length = rows.length) (hn2 : n ≤ 256) (hr2 : rows.length ≤ 256) :
    Calls Try.prog 51 #[.pointer (some ⟨g, 0, none⟩), .slice (some ⟨gb, 0, none⟩) rows.length rows.length] w (RetI w (nextI rows n bad)) := by
  obtain ⟨cv, gA, h0, h1, hs, he⟩ := h
  rw [atTo_len] at h1
  have HE := Lib.hid he; have HB := Lib.hid hb; have HBL := Lib.hid hbl
  generalize hrr : rows.length = r at *
  have HRR := Lib.hid hrr
  clear he hb hs h0 hbl hrr
  have HN0 : Hid (nextI rows n bad = nxF rows bad n 0) := rfl
  go_enter Try.func51, Try.ntmps51
  go_wp2_with fail
  go_loopw [15] (fun i wr => ∃ k : Nat, k ≤ n ∧ i = .int .i64 (k : Int) ∧ Hid (nextI rows n bad = nxF rows bad (n - k) k) ∧ Hid (Below w.heap.size w wr)) (fun i _ => n - (intOf i).toNat)
  case atStart => exact ⟨0, Nat.zero_le _, rfl, HN0, bl_refl _⟩
  case round =>
    clear HN0
    obtain ⟨p, hp, rfl, HNX, HW⟩ := hrel
    by_cases hlt : p < n
    · have HEb : EEat wr gA (atTo rows n r 0) := HE.out.keep fun q hq => HW.out.cell hq
      obtain ⟨EA, ec, es, hc, HES, HEE⟩ := HEb.elt (p := p) (by rw [atTo_len]; exact hlt)
      rw [atTo_getD hlt, if_neg (by omega)] at HEE
      have HFST := Lib.hid (fun k => @edges_fst rows p r k)
      have hel := edgesTo_len rows p r
      rw [HEE.out] at HFST hel
      have HSC : Hid (scoreE bad es = scoreTo rows bad p r) := hid' (by show _ = _; rw [← HEE.out, scoreE_edges])
      have HES0 := HES
      clear HEE HEb
      go_wp2_with fail
      obtain ⟨wo, hwo⟩ : ∃ wo, wo = wr := ⟨_, rfl⟩
      have HES1 : Hid (EI wo (.slice EA es.length ec) es) := by rw [hwo]; exact HES
      have HW1 : Hid (Below w.heap.size w wo) := by rw [hwo]; exact HW
      rw [← hwo]
      clear hwo HES HES0 hc HW
      generalize hem : es.length = em at *
      have HEM := Lib.hid hem; clear hem
      go_loopw [7, 22] (fun s i wr => ∃ k : Nat, k ≤ em ∧ i = .int .i64 (k : Int) ∧ s = .int .i64 (scoreE bad (es.take k)) ∧ Hid (Below wo.heap.size wo wr)) (fun _ i _ => em - (intOf i).toNat)
      case atStart => exact ⟨0, Nat.zero_le _, rfl, rfl, bl_refl _⟩
      case round =>
        obtain ⟨k, hk, rfl, rfl, HW⟩ := hrel
        have hsb := scoreE_bd bad (es.take k)
        have htl : (es.take k).length ≤ k := List.length_take_le _ _
        by_cases hkl : k < em
        · obtain ⟨ad, x, y, hEA, hc0, hc1, HXY⟩ := HES1.out.elt (k := k) (by rw [HEM.out]; exact hkl)
          subst hEA
          obtain ⟨j, hj, hje⟩ := HFST.out k hkl
          rw [HXY.out] at hje
          have hje2 : x = (j : Int) := hje
          subst hje2
          clear hje
          have d0 := cell_below HW.out hc0
          have d1 := cell_below HW.out hc1
          have hbc := (HB.out.below (bl_trans HW1.out HW.out) HB.out.lt).cell j (by rw [HBL.out]; exact hj)
          have HS : Hid (scoreE bad (es.take (k + 1)) = scoreE bad (es.take k) + (if bad.getD j false = true then 1 else -1)) := hid' (by show _ = _; rw [take_snocE es k (by rw [HEM.out]; exact hkl), scoreE_snoc, HXY.out]; rfl)
          have HBX := Lib.hid (bl_trans HW.out (bl_alloc wr (.cells #[.int .i64 (j : Int), .int .i64 y] 81)))
          have hbc2 := cell_below (bl_alloc wr (.cells #[.int .i64 (j : Int), .int .i64 y] 81)) hbc
          clear hc0 hc1
          generalize scoreE bad (es.take k) = s at *
          obtain ⟨hs0, hs1⟩ := hsb
          generalize hbj : bad.getD j false = bj at hbc hbc2 HS
          clear hbj
          cases bj
          · have HS2 : Hid (scoreE bad (es.take (k + 1)) = s - 1) := hid' (by rw [HS.out]; rfl)
            clear HS
            go_wp2_with fail
            exact ⟨⟨k + 1, by omega, by push_cast; rfl, by rw [HS2.out], HBX⟩, by simp only [intOf]; omega⟩
          · have HS2 : Hid (scoreE bad (es.take (k + 1)) = s + 1) := hid' (by rw [HS.out]; rfl)
            clear HS
            go_wp2_with fail
            exact ⟨⟨k + 1, by omega, by push_cast; rfl, by rw [HS2.out], HBX⟩, by simp only [intOf]; omega⟩
        · obtain rfl : em = k := by omega
          have HT : Hid (scoreE bad (es.take em) = scoreTo rows bad p r) := hid' (by show _ = _; rw [← HEM.out, List.take_of_length_le (Nat.le_refl _), HSC.out])
          rw [HT.out] at hsb ⊢
          have HNS : Hid (nextI rows n bad = if 0 < scoreTo rows bad p r then (p : Int) else nxF rows bad (n - (p + 1)) (p + 1)) := hid' (by
            show _ = _
            rw [HNX.out, show n - p = (n - (p + 1)) + 1 by omega, nxF, HRR.out])
          clear hkl
          generalize scoreTo rows bad p r = s at *
          by_cases hs : 0 < s
          · have HZ : Hid (nextI rows n bad = (p : Int)) := hid' (by rw [HNS.out, if_pos hs])
            go_wp2_with fail
            go_ret
            exact ⟨by rw [HZ.out]; rfl, bl_trans HW1.out HW.out⟩
          · have HZ : Hid (nextI rows n bad = nxF rows bad (n - (p + 1)) (p + 1)) := hid' (by rw [HNS.out, if_neg hs])
            go_wp2_with fail
            exact ⟨⟨p + 1, by omega, by push_cast; rfl, HZ, bl_trans HW1.out HW.out⟩, by simp only [intOf]; omega⟩
    · obtain rfl : n = p := by omega
      have HZ : Hid (nextI rows n bad = -1) := hid' (by show _ = _; rw [HNX.out, Nat.sub_self]; rfl)
      go_wp2_with fail
      go_ret
      exact ⟨by rw [HZ.out]; rfl, HW.out⟩
end Go.Proofs.Ytgabhlalamnbgaa
