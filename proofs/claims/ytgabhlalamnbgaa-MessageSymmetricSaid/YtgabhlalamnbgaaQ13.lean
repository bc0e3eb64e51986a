/- Texts of a claim, merged: words, plain facts and walks that the last of its texts uses. -/
import Derived.Test.YtgabhlalamnbgaaQ1
import Derived.Test.YtgabhlalamnbgaaQ5
import Derived.Test.YtgabhlalamnbgaaQ9
import Derived.Test.YtgabhlalamnbgaaQ11
import Derived.Laws.StructEq
set_option linter.unusedSimpArgs false
set_option linter.unusedVariables false

/- The first set of a size with few odd checks, in lexicographic order. No program in sight. -/
namespace Go.Proofs.Ytgabhlalamnbgaa
set_option linter.unusedVariables false

/-- the first of f low, f (low + 1), .. (c of them) that is something -/
def firstF {α : Type} (f : Nat → Option α) : Nat → Nat → Option α
  | _, 0 => none
  | low, c + 1 => match f low with
    | some x => some x
    | none => firstF f (low + 1) c
theorem firstF_some {α : Type} {f : Nat → Option α} : ∀ {c low : Nat} {x : α}, firstF f low c = some x → ∃ p, low ≤ p ∧ p < low + c ∧ f p = some x
  | 0, low, x, h => by cases h
  | c + 1, low, x, h => by
    rw [firstF] at h
    cases hf : f low with
    | some y => rw [hf] at h; exact ⟨low, Nat.le_refl _, by omega, by rw [hf]; exact h⟩
    | none =>
      rw [hf] at h
      obtain ⟨p, h1, h2, h3⟩ := firstF_some h
      exact ⟨p, by omega, by omega, h3⟩
theorem firstF_none {α : Type} {f : Nat → Option α} : ∀ {c low : Nat}, firstF f low c = none → ∀ p, low ≤ p → p < low + c → f p = none
  | 0, low, h, p, h1, h2 => by omega
  | c + 1, low, h, p, h1, h2 => by
    rw [firstF] at h
    cases hf : f low with
    | some y => rw [hf] at h; cases h
    | none =>
      rw [hf] at h
      by_cases e : p = low
      · rw [e]; exact hf
      · exact firstF_none h p (by omega) (by omega)
/-- the first set that begins with ch and has size more positions from low on, with at most b odd checks -/
def sF (rows : List (List Int)) (n : Nat) (b : Int) : Nat → Nat → List Int → Option (List Int)
  | 0, low, ch => if ((cntB (parS rows ch) 256 : Nat) : Int) ≤ b then some ch else none
  | size + 1, low, ch => firstF (fun p => sF rows n b size (p + 1) (ch ++ [(p : Int)])) low (n - size - low)
/-- the loop at p -/
def sL (rows : List (List Int)) (n : Nat) (b : Int) (size p : Nat) (ch : List Int) : Option (List Int) := firstF (fun p => sF rows n b size (p + 1) (ch ++ [(p : Int)])) p (n - size - p)
theorem sL_start (rows : List (List Int)) (n : Nat) (b : Int) (size low : Nat) (ch : List Int) : sF rows n b (size + 1) low ch = sL rows n b size low ch := rfl
theorem sL_out {rows : List (List Int)} {n : Nat} {b : Int} {size p : Nat} {ch : List Int} (h : ¬ p + (size + 1) ≤ n) : sL rows n b size p ch = none := by
  unfold sL
  rw [show n - size - p = 0 by omega]; rfl
theorem sL_some {rows : List (List Int)} {n : Nat} {b : Int} {size p : Nat} {ch l : List Int} (h : p + (size + 1) ≤ n) (hf : sF rows n b size (p + 1) (ch ++ [(p : Int)]) = some l) : sL rows n b size p ch = some l := by
  unfold sL
  rw [show n - size - p = (n - size - (p + 1)) + 1 by omega, firstF, hf]
theorem sL_none {rows : List (List Int)} {n : Nat} {b : Int} {size p : Nat} {ch : List Int} (h : p + (size + 1) ≤ n) (hf : sF rows n b size (p + 1) (ch ++ [(p : Int)]) = none) : sL rows n b size p ch = sL rows n b size (p + 1) ch := by
  unfold sL
  rw [show n - size - p = (n - size - (p + 1)) + 1 by omega, firstF, hf]
theorem sF_len {rows : List (List Int)} {n : Nat} {b : Int} : ∀ {size low : Nat} {ch l : List Int}, sF rows n b size low ch = some l → l.length = ch.length + size
  | 0, low, ch, l, h => by
    rw [sF] at h
    split at h
    · injection h with h; rw [h]; rfl
    · cases h
  | size + 1, low, ch, l, h => by
    rw [sF] at h
    obtain ⟨p, _, _, hp⟩ := firstF_some h
    have := sF_len hp
    rw [this, List.length_append]
    show ch.length + 1 + size = _
    omega
/-- a right list, all of it below low -/
def okC (n : Nat) (ch : List Int) (low : Nat) : Prop := (∀ i, i < ch.length → okS n ch i) ∧ lastS ch ch.length < low
theorem okC_nil (n : Nat) : okC n [] 0 := ⟨fun i hi => absurd hi (Nat.not_lt_zero _), by show (-1 : Int) < 0; omega⟩
theorem lastS_snoc_old (ch : List Int) (p : Int) : ∀ i, i ≤ ch.length → lastS (ch ++ [p]) i = lastS ch i
  | 0, _ => rfl
  | i + 1, h => by
    show (ch ++ [p]).getD i 0 = ch.getD i 0
    simp [List.getD, List.getElem?_append_left (show i < ch.length by omega)]
theorem okC.mono {n : Nat} {ch : List Int} {low low' : Nat} (h : okC n ch low) (hl : low ≤ low') : okC n ch low' := ⟨h.1, by have := h.2; omega⟩
theorem okC.snoc {n : Nat} {ch : List Int} {p : Nat} (h : okC n ch p) (hp : p < n) : okC n (ch ++ [(p : Int)]) (p + 1) := by
  have hg : ∀ i, i < ch.length → (ch ++ [(p : Int)]).getD i 0 = ch.getD i 0 := fun i hi => by simp [List.getD, List.getElem?_append_left hi]
  have hl : (ch ++ [(p : Int)]).getD ch.length 0 = (p : Int) := by simp [List.getD]
  have hn : (ch ++ [(p : Int)]).length = ch.length + 1 := by simp
  refine ⟨fun i hi => ?_, ?_⟩
  · by_cases e : i = ch.length
    · subst e
      unfold okS
      rw [hl, lastS_snoc_old ch p _ (Nat.le_refl _)]
      have := h.2
      exact ⟨by omega, by omega⟩
    · have hi2 : i < ch.length := by omega
      unfold okS
      rw [hg i hi2, lastS_snoc_old ch p i (by omega)]
      exact h.1 i hi2
  · rw [hn]
    show (ch ++ [(p : Int)]).getD ch.length 0 < ((p + 1 : Nat) : Int)
    rw [hl]; omega
theorem okC_bd {n : Nat} {ch : List Int} {low : Nat} (h : okC n ch low) (i : Nat) : 0 ≤ ch.getD i 0 ∧ ch.getD i 0 ≤ n := by
  by_cases hi : i < ch.length
  · have h1 := (lastS_ge (n := n) (set := ch) i fun j hj => h.1 j (by omega)).1
    obtain ⟨h2, h3⟩ := h.1 i hi
    omega
  · have : ch.getD i 0 = 0 := by simp [List.getD, List.getElem?_eq_none (show ch.length ≤ i by omega)]
    rw [this]; omega
theorem okC_len {n : Nat} {ch : List Int} {low : Nat} (h : okC n ch low) (hl : low ≤ n) : ch.length ≤ low := by
  have : ∀ i, i ≤ ch.length → ((i : Int) ≤ lastS ch i + 1) := by
    intro i
    induction i with
    | zero => intro _; show (0 : Int) ≤ -1 + 1; omega
    | succ i ih =>
      intro hi
      have h1 := ih (by omega)
      have h2 := (h.1 i (by omega)).1
      show ((i + 1 : Nat) : Int) ≤ ch.getD i 0 + 1
      omega
  have h1 := this ch.length (Nat.le_refl _)
  have h2 := h.2
  omega
/-- the smallest set -/
def smF (rows : List (List Int)) (n : Nat) (b : Int) : Option (List Int) := firstF (fun size => sF rows n b size 0 []) 1 n
end Go.Proofs.Ytgabhlalamnbgaa

/- ref45.search. -/
namespace Go.Proofs.Ytgabhlalamnbgaa
open Go.RowKit
set_option linter.unusedVariables false
set_option maxRecDepth 100000

def RetSe (w : World) (o : Option (List Int)) (e : Ending) (w' : World) : Prop := ∃ u, e = .returned u ∧ SI w' u (o.getD []) ∧ Below w.heap.size w w'
def SrchAt (size : Nat) : Prop := ∀ (w : World) (n low : Nat) (b : Int) (rv v : Value) (rows : List (List Int)) (ch : List Int), SS w rv rows → SI w v ch → MR n rows → okC n ch low → low ≤ n →
    Calls Try.prog 54 #[.agg #[.int .i64 (n : Int), rv], .int .i64 b, .int .i64 (low : Int), .int .i64 (size : Int), v] w (RetSe w (sF rows n b size low ch))
theorem okC_wf {n : Nat} {ch : List Int} {low : Nat} (h : okC n ch low) (hn : n ≤ 256) : ∀ k, I64 (ch.getD k 0) := fun k => by
  have := okC_bd h k
  exact I64.of_small (by omega) (by omega)

set_option maxHeartbeats 8000000 in
theorem srch_zero : SrchAt 0 := by
  intro w n low b rv v rows ch hv hc hm ho hl
  have HV := Lib.hid hv; have HC := Lib.hid hc; have HM := Lib.hid hm
  have HOA : Hid (okAll n ch) := hid' ho.1
  clear hv hc hm ho
  obtain ⟨RA, rc, rfl, _⟩ := HV.out
  have HF := Lib.hid (MBox.mk' w n (.slice RA rows.length rc))
  by_cases hle : ((cntB (parS rows ch) 256 : Nat) : Int) ≤ b
  · have HE : Hid (sF rows n b 0 low ch = some ch) := hid' (by show _ = _; rw [sF, if_pos hle])
    rw [HE.out]
    have hd : decide (((cntB (parS rows ch) 256 : Nat) : Int) ≤ b) = true := decide_eq_true hle
    go_enter Try.func54, Try.ntmps54
    go_wp2_with fail
    generalize hw0 : w.alloc (.cells #[.int .i64 (n : Int), .slice RA rows.length rc] 24) = w0 at *
    clear hw0
    have d0 := HF.out.d0; have d1 := HF.out.d1
    go_wp2_with fail
    refine (rTrap_any _ n (.slice RA rows.length rc) v rows ch (HV.out.below HF.out.bel (Nat.le_refl _)) (HC.out.below HF.out.bel (Nat.le_refl _)) HM.out HOA.out).mono ?_
    rintro e w1 ⟨rfl, hb1⟩
    have HB1 := Lib.hid (bl_trans HF.out.bel hb1); clear hb1 d0 d1
    go_wp2_with fail
    go_ret
    exact ⟨_, rfl, HC.out.below HB1.out (Nat.le_refl _), HB1.out⟩
  · have HE : Hid (sF rows n b 0 low ch = none) := hid' (by show _ = _; rw [sF, if_neg hle])
    rw [HE.out]
    have hd : decide (((cntB (parS rows ch) 256 : Nat) : Int) ≤ b) = false := decide_eq_false hle
    go_enter Try.func54, Try.ntmps54
    go_wp2_with fail
    generalize hw0 : w.alloc (.cells #[.int .i64 (n : Int), .slice RA rows.length rc] 24) = w0 at *
    clear hw0
    have d0 := HF.out.d0; have d1 := HF.out.d1
    go_wp2_with fail
    refine (rTrap_any _ n (.slice RA rows.length rc) v rows ch (HV.out.below HF.out.bel (Nat.le_refl _)) (HC.out.below HF.out.bel (Nat.le_refl _)) HM.out HOA.out).mono ?_
    rintro e w1 ⟨rfl, hb1⟩
    have HB1 := Lib.hid (bl_trans HF.out.bel hb1); clear hb1 d0 d1
    go_wp2_with fail
    go_ret
    exact ⟨_, rfl, SI.none_ _, HB1.out⟩

set_option maxHeartbeats 16000000 in
theorem srch_succ (size : Nat) (hs : size < 1000) (ih : SrchAt size) : SrchAt (size + 1) := by
  intro w n low b rv v rows ch hv hc hm ho hl
  have HV := Lib.hid hv; have HC := Lib.hid hc; have HM := Lib.hid hm; have HO := Lib.hid ho; have IH := Lib.hid ih
  have hnn := hm.nn
  clear hv hc hm ho ih
  obtain ⟨RA, rc, rfl, _⟩ := HV.out
  obtain ⟨CA, cc, rfl, _⟩ := HC.out
  have HF := Lib.hid (MBox.mk' w n (.slice RA rows.length rc))
  have hcl : ch.length ≤ 256 := by have := okC_len HO.out hl; omega
  have HE : Hid (sF rows n b (size + 1) low ch = sL rows n b size low ch) := rfl
  rw [HE.out]
  generalize hr : rows.length = r at HF HV ⊢
  clear hr
  generalize hcm : ch.length = cm at HC hcl ⊢
  have HCM := Lib.hid hcm; clear hcm
  have hsz : ((size + 1 : Nat) : Int) = (size : Int) + 1 := by push_cast; rfl
  rw [hsz]
  go_enter Try.func54, Try.ntmps54
  go_wp2_with fail
  generalize hw0 : w.alloc (.cells #[.int .i64 (n : Int), .slice RA r rc] 24) = w0 at *
  clear hw0
  go_wp2_with fail
  go_loopw [11] (fun i wr => ∃ p : Nat, low ≤ p ∧ p ≤ n ∧ i = .int .i64 (p : Int) ∧ Hid (sL rows n b size low ch = sL rows n b size p ch) ∧ Hid (MBox w wr n (.slice RA r rc))) (fun i _ => n - (intOf i).toNat)
  case atStart => exact ⟨low, Nat.le_refl _, hl, rfl, rfl, HF⟩
  case round =>
    clear HF
    obtain ⟨p, hp0, hp, rfl, HQ, HFr⟩ := hrel
    have d0 := HFr.out.d0; have d1 := HFr.out.d1
    by_cases hlt : p + (size + 1) ≤ n
    · have hpn : p < n := by omega
      have HO1 := Lib.hid ((HO.out.mono hp0).snoc hpn)
      have HL1 : Hid ((ch ++ [(p : Int)]).length = cm + 1) := hid' (by show _ = _; rw [List.length_append, HCM.out]; rfl)
      have HIP : Hid (∀ k, I64 (([(p : Int)] : List Int).getD k 0)) := hid' (fun k => by
        match k with
        | 0 => exact I64.of_small (by show -1000000000000000 ≤ (p : Int); omega) (by show (p : Int) ≤ 1000000000000000; omega)
        | k + 1 => exact I64.zero)
      have HWP : Hid (IntKind.i64.wrap ((p : Int) + 1) = ((p + 1 : Nat) : Int)) := hid' (by show _ = _; rw [IntWalk.i64_in _ (by omega)]; push_cast; rfl)
      have HWS : Hid (IntKind.i64.wrap (size : Int) = (size : Int)) := hid' (IntWalk.i64_in _ (by omega))
      go_upto_region 8 with fail
      go_cut [12] from 22 to 46 (fun t12 wc => ∃ A l c, t12 = .slice A l c ∧ Hid (((sF rows n b size (p + 1) (ch ++ [(p : Int)])).getD []).length = l) ∧ Hid (SI wc (.slice A l c) ((sF rows n b size (p + 1) (ch ++ [(p : Int)])).getD [])) ∧ Hid (Below wr.heap.size wr wc))
      case first =>
        refine Kept.start (S := fun w' => w'.cell? ⟨w.heap.size, 0, none⟩ = some (.int .i64 (n : Int)) ∧ w'.cell? ⟨w.heap.size, 1, none⟩ = some (.slice RA r rc)) (by kernel_rfl) (⟨d0, d1⟩) (fun hHeld => ?_)
        change Kept _ _ _ _ 14 _ _ _
        have hdrew := bl_drew wr
        generalize wr.drew = wq1 at hdrew hHeld ⊢
        have HB := Lib.hid hdrew
        clear d0 d1
        clear hdrew
        refine Kept.take (i := 0) (v := ?_) rfl (by kernel_rfl) (by kernel_rfl) (by kernel_rfl) (fun _ _ _ h => h) (Or.inl ⟨by kernel_rfl, ?_⟩) hHeld ?_
        rotate_left
        · intro w' hSw; (try dsimp only at hSw); first | (go_simp; done) | (go_simp; with_reducible rfl)
        try simp only [List.getElem_toArray, List.getElem_cons_zero, List.getElem_cons_succ, Act.put, List.setIfInBounds_toArray, List.set_cons_zero, List.set_cons_succ]
        refine Kept.take (i := 1) (v := ?_) rfl (by kernel_rfl) (by kernel_rfl) (by kernel_rfl) (fun _ _ _ h => h) (Or.inl ⟨by kernel_rfl, ?_⟩) hHeld ?_
        rotate_left
        · intro w' hSw; (try dsimp only at hSw); first | (go_simp; done) | (go_simp; with_reducible rfl)
        try simp only [List.getElem_toArray, List.getElem_cons_zero, List.getElem_cons_succ, Act.put, List.setIfInBounds_toArray, List.set_cons_zero, List.set_cons_succ]
        refine Kept.take (i := 2) (v := ?_) rfl (by kernel_rfl) (by kernel_rfl) (by kernel_rfl) (fun _ _ _ h => h) (Or.inl ⟨by kernel_rfl, ?_⟩) hHeld ?_
        rotate_left
        · intro w' hSw; (try dsimp only at hSw); first | (go_simp; done) | (go_simp; with_reducible rfl)
        try simp only [List.getElem_toArray, List.getElem_cons_zero, List.getElem_cons_succ, Act.put, List.setIfInBounds_toArray, List.set_cons_zero, List.set_cons_succ]
        refine Kept.take (i := 3) (v := ?_) rfl (by kernel_rfl) (by kernel_rfl) (by kernel_rfl) (fun _ _ _ h => h) (Or.inl ⟨by kernel_rfl, ?_⟩) hHeld ?_
        rotate_left
        · intro w' hSw; (try dsimp only at hSw); first | (go_simp; done) | (go_simp; with_reducible rfl)
        try simp only [List.getElem_toArray, List.getElem_cons_zero, List.getElem_cons_succ, Act.put, List.setIfInBounds_toArray, List.set_cons_zero, List.set_cons_succ]
        refine Kept.take (i := 4) (v := ?_) rfl (by kernel_rfl) (by kernel_rfl) (by kernel_rfl) (fun _ _ _ h => h) (Or.inl ⟨by kernel_rfl, ?_⟩) hHeld ?_
        rotate_left
        · intro w' hSw; (try dsimp only at hSw); first | (go_simp; done) | (go_simp; with_reducible rfl)
        try simp only [List.getElem_toArray, List.getElem_cons_zero, List.getElem_cons_succ, Act.put, List.setIfInBounds_toArray, List.set_cons_zero, List.set_cons_succ]
        refine Kept.take (i := 5) (v := ?_) rfl (by kernel_rfl) (by kernel_rfl) (by kernel_rfl) (fun _ _ _ h => h) (Or.inl ⟨by kernel_rfl, ?_⟩) hHeld ?_
        rotate_left
        · intro w' hSw; (try dsimp only at hSw); first | (go_simp; done) | (go_simp; with_reducible rfl)
        try simp only [List.getElem_toArray, List.getElem_cons_zero, List.getElem_cons_succ, Act.put, List.setIfInBounds_toArray, List.set_cons_zero, List.set_cons_succ]
        refine Kept.take (i := 7) (v := ?_) rfl (by kernel_rfl) (by kernel_rfl) (by kernel_rfl) (fun _ _ _ h => h) (Or.inl ⟨by kernel_rfl, ?_⟩) hHeld ?_
        rotate_left
        · intro w' hSw; (try dsimp only at hSw); first | (go_simp; done) | (go_simp; with_reducible rfl)
        try simp only [List.getElem_toArray, List.getElem_cons_zero, List.getElem_cons_succ, Act.put, List.setIfInBounds_toArray, List.set_cons_zero, List.set_cons_succ]
        refine Kept.take (i := 9) (v := ?_) rfl (by kernel_rfl) (by kernel_rfl) (by kernel_rfl) (fun _ _ _ h => h) (Or.inl ⟨by kernel_rfl, ?_⟩) hHeld ?_
        rotate_left
        · intro w' hSw; (try dsimp only at hSw); first | (go_simp; done) | (go_simp; with_reducible rfl)
        try simp only [List.getElem_toArray, List.getElem_cons_zero, List.getElem_cons_succ, Act.put, List.setIfInBounds_toArray, List.set_cons_zero, List.set_cons_succ]
        refine Kept.two (i := 6) (j := 10) (oi := ?opa2) (oj := ?opb2) (by kernel_rfl) ?hoa2 ?hob2 (fun K hK => ?way12) (fun K hK => ?way22)
        case hoa2 => (conv => lhs; simp only [List.getElem?_toArray, List.getElem?_cons_succ, List.getElem?_cons_zero])
        case hob2 => (conv => lhs; simp only [List.getElem?_toArray, List.getElem?_cons_succ, List.getElem?_cons_zero])
        case way12 =>
          go_simp
          obtain ⟨wq3, gE, e1, e2, hX, hb⟩ := mk_empty wq1
          rw [e1, e2]
          have HE0 := Lib.hid (hX.mono (B' := wr.heap.size) (by have := HB.out.size; omega))
          
          
          replace HB := Lib.hid (bl_trans HB.out hb)
          clear e1 e2 hX hb
          refine hK.out _ _ ((fun h => ⟨h.d0, h.d1⟩) (HFr.out.on HB.out)) (fun hHeld2 => ?_)
          clear hK K
          replace hHeld := hHeld2
          clear hHeld2
          try simp only [List.getElem_toArray, List.getElem_cons_zero, List.getElem_cons_succ, Act.put, List.setIfInBounds_toArray, List.set_cons_zero, List.set_cons_succ]
          refine Kept.two (i := 8) (j := 10) (oi := ?opa4) (oj := ?opb4) (by kernel_rfl) ?hoa4 ?hob4 (fun K hK => ?way14) (fun K hK => ?way24)
          case hoa4 => (conv => lhs; simp only [List.getElem?_toArray, List.getElem?_cons_succ, List.getElem?_cons_zero])
          case hob4 => (conv => lhs; simp only [List.getElem?_toArray, List.getElem?_cons_succ, List.getElem?_cons_zero])
          case way14 =>
            refine step_catI rfl _ _ rfl wr.heap.size _ _ rfl HE0.out _ ch rfl ((HC.out.below HFr.out.bel (Nat.le_refl _)).below HB.out (Nat.le_refl _)) (by rw [HCM.out]; simp; omega) HB.out.size ?_
            intro v2 wq5 ho hg hv2
            rw [List.nil_append] at ho
            obtain ⟨A2, k2, rfl⟩ := ho.form'
            rw [HCM.out] at ho hv2 ⊢
            
            
            have HA := Lib.hid ho
            replace HB := Lib.hid (HE0.out.bgrown HB.out HB.out.size hg)
            clear ho hg hv2 HE0 
            refine hK.out _ _ ((fun h => ⟨h.d0, h.d1⟩) (HFr.out.on HB.out)) (fun hHeld2 => ?_)
            clear hK K
            replace hHeld := hHeld2
            clear hHeld2
            try simp only [List.getElem_toArray, List.getElem_cons_zero, List.getElem_cons_succ, Act.put, List.setIfInBounds_toArray, List.set_cons_zero, List.set_cons_succ]
            refine Kept.only (i := 10) (o := ?op6) (by kernel_rfl) ?ho6 (fun K hK => ?_)
            case ho6 => (conv => lhs; simp only [List.getElem?_toArray, List.getElem?_cons_succ, List.getElem?_cons_zero])
            go_simp
            obtain ⟨wq7, gX, e1, e2, hX, hb⟩ := mk_box wq5 3 [.int .i64 (p : Int)]
            rw [e1, e2]
            have HX : Hid (RI wq7 gX [(p : Int)]) := hid' hX
             
            replace HA := Lib.hid (HA.out.below hb (Nat.le_refl _)) 
             
            replace HB := Lib.hid (bl_trans HB.out hb)
            clear e1 e2 hX hb
            refine hK.out _ _ ((fun h => ⟨h.d0, h.d1⟩) (HFr.out.on HB.out)) (fun hHeld2 => ?_)
            clear hK K
            replace hHeld := hHeld2
            clear hHeld2
            try simp only [List.getElem_toArray, List.getElem_cons_zero, List.getElem_cons_succ, Act.put, List.setIfInBounds_toArray, List.set_cons_zero, List.set_cons_succ]
            refine Kept.only (i := 11) (o := ?op8) (by kernel_rfl) ?ho8 (fun K hK => ?_)
            case ho8 => (conv => lhs; simp only [List.getElem?_toArray, List.getElem?_cons_succ, List.getElem?_cons_zero])
            refine step_catI rfl _ _ rfl wr.heap.size _ _ rfl HA.out _ [(p : Int)] rfl (RI.si (xs := [(p : Int)]) HX.out (by simp) HIP.out) (by rw [HCM.out]; simp; omega) HB.out.size ?_
            intro v4 wq9 ho4 hg4 hv4
            obtain ⟨A4, k4, rfl⟩ := ho4.form'
            rw [HL1.out] at ho4 hv4 ⊢
            have HP := Lib.hid ho4
            replace HB := Lib.hid (HA.out.bgrown HB.out HB.out.size hg4)
            clear ho4 hg4 hv4
            refine hK.out _ _ ((fun h => ⟨h.d0, h.d1⟩) (HFr.out.on HB.out)) (fun hHeld2 => ?_)
            clear hK K
            replace hHeld := hHeld2
            clear hHeld2
            try simp only [List.getElem_toArray, List.getElem_cons_zero, List.getElem_cons_succ, Act.put, List.setIfInBounds_toArray, List.set_cons_zero, List.set_cons_succ]
            refine Kept.only (i := 12) (o := ?op10) (by kernel_rfl) ?ho10 (fun K hK => ?_)
            case ho10 => (conv => lhs; simp only [List.getElem?_toArray, List.getElem?_cons_succ, List.getElem?_cons_zero])
            go_simp
            rw [HWP.out, HWS.out]
            refine (IH.out _ n (p + 1) b (.slice RA r rc) (.slice A4 (cm + 1) k4) rows (ch ++ [(p : Int)]) (HV.out.below (HFr.out.on HB.out).bel (Nat.le_refl _)) (HP.out.si (by rw [HL1.out]; omega) (okC_wf HO1.out hnn)) HM.out HO1.out hpn).mono ?_
            rintro e wq11 ⟨u, rfl, hu, hb⟩
            obtain ⟨UA, uc, rfl, _⟩ := id hu
            have HU := Lib.hid hu
            replace HB := Lib.hid (bl_trans HB.out hb)
            clear hu hb
            refine hK.out _ _ ((fun h => ⟨h.d0, h.d1⟩) (HFr.out.on HB.out)) (fun hHeld2 => ?_)
            clear hK K
            replace hHeld := hHeld2
            clear hHeld2
            try simp only [List.getElem_toArray, List.getElem_cons_zero, List.getElem_cons_succ, Act.put, List.setIfInBounds_toArray, List.set_cons_zero, List.set_cons_succ]
            refine Kept.only (i := 13) (by kernel_rfl) rfl (fun K hK => ?_)
            go_simp
            refine hK.out _ _ hHeld (fun hHeld2 => ?_)
            clear hK K
            clear hHeld2
            refine Kept.done (by kernel_rfl) ?_
            try simp only [List.getElem_toArray, List.getElem_cons_zero, List.getElem_cons_succ, Act.put, List.setIfInBounds_toArray, List.set_cons_zero, List.set_cons_succ]
            clear hHeld
            go_wp2_with fail
            go_meet
            exact ⟨_, _, _, rfl, rfl, HU, HB⟩
          case way24 =>
            go_simp
            obtain ⟨wq12, gX, e1, e2, hX, hb⟩ := mk_box wq3 3 [.int .i64 (p : Int)]
            rw [e1, e2]
            have HX : Hid (RI wq12 gX [(p : Int)]) := hid' hX
            have HNE : Hid (∀ g, (Value.slice (some ⟨gE, 0, none⟩) 0 0).ownBlock = some g → g ≠ gX) := hid' fun g hg => (by have h1 := (HE0.out.lt hg).2; omega)  
            
            replace HE0 := Lib.hid (HE0.out.below hb (Nat.le_refl _))  
            replace HB := Lib.hid (bl_trans HB.out hb)
            clear e1 e2 hX hb
            refine hK.out _ _ ((fun h => ⟨h.d0, h.d1⟩) (HFr.out.on HB.out)) (fun hHeld2 => ?_)
            clear hK K
            replace hHeld := hHeld2
            clear hHeld2
            try simp only [List.getElem_toArray, List.getElem_cons_zero, List.getElem_cons_succ, Act.put, List.setIfInBounds_toArray, List.set_cons_zero, List.set_cons_succ]
            refine Kept.only (i := 8) (o := ?op13) (by kernel_rfl) ?ho13 (fun K hK => ?_)
            case ho13 => (conv => lhs; simp only [List.getElem?_toArray, List.getElem?_cons_succ, List.getElem?_cons_zero])
            refine step_catI rfl _ _ rfl wr.heap.size _ _ rfl HE0.out _ ch rfl ((HC.out.below HFr.out.bel (Nat.le_refl _)).below HB.out (Nat.le_refl _)) (by rw [HCM.out]; simp; omega) HB.out.size ?_
            intro v2 wq14 ho hg hv2
            rw [List.nil_append] at ho
            obtain ⟨A2, k2, rfl⟩ := ho.form'
            rw [HCM.out] at ho hv2 ⊢
            have hne0 : some gX ≠ (Value.slice (some ⟨gE, 0, none⟩) 0 0).ownBlock := fun e => HNE.out gX e.symm rfl 
            replace HX := Lib.hid (HX.out.grown hg hne0) 
            have HA := Lib.hid ho
            replace HB := Lib.hid (HE0.out.bgrown HB.out HB.out.size hg)
            clear ho hg hv2 HE0 hne0 
            refine hK.out _ _ ((fun h => ⟨h.d0, h.d1⟩) (HFr.out.on HB.out)) (fun hHeld2 => ?_)
            clear hK K
            replace hHeld := hHeld2
            clear hHeld2
            try simp only [List.getElem_toArray, List.getElem_cons_zero, List.getElem_cons_succ, Act.put, List.setIfInBounds_toArray, List.set_cons_zero, List.set_cons_succ]
            refine Kept.only (i := 11) (o := ?op15) (by kernel_rfl) ?ho15 (fun K hK => ?_)
            case ho15 => (conv => lhs; simp only [List.getElem?_toArray, List.getElem?_cons_succ, List.getElem?_cons_zero])
            refine step_catI rfl _ _ rfl wr.heap.size _ _ rfl HA.out _ [(p : Int)] rfl (RI.si (xs := [(p : Int)]) HX.out (by simp) HIP.out) (by rw [HCM.out]; simp; omega) HB.out.size ?_
            intro v4 wq16 ho4 hg4 hv4
            obtain ⟨A4, k4, rfl⟩ := ho4.form'
            rw [HL1.out] at ho4 hv4 ⊢
            have HP := Lib.hid ho4
            replace HB := Lib.hid (HA.out.bgrown HB.out HB.out.size hg4)
            clear ho4 hg4 hv4
            refine hK.out _ _ ((fun h => ⟨h.d0, h.d1⟩) (HFr.out.on HB.out)) (fun hHeld2 => ?_)
            clear hK K
            replace hHeld := hHeld2
            clear hHeld2
            try simp only [List.getElem_toArray, List.getElem_cons_zero, List.getElem_cons_succ, Act.put, List.setIfInBounds_toArray, List.set_cons_zero, List.set_cons_succ]
            refine Kept.only (i := 12) (o := ?op17) (by kernel_rfl) ?ho17 (fun K hK => ?_)
            case ho17 => (conv => lhs; simp only [List.getElem?_toArray, List.getElem?_cons_succ, List.getElem?_cons_zero])
            go_simp
            rw [HWP.out, HWS.out]
            refine (IH.out _ n (p + 1) b (.slice RA r rc) (.slice A4 (cm + 1) k4) rows (ch ++ [(p : Int)]) (HV.out.below (HFr.out.on HB.out).bel (Nat.le_refl _)) (HP.out.si (by rw [HL1.out]; omega) (okC_wf HO1.out hnn)) HM.out HO1.out hpn).mono ?_
            rintro e wq18 ⟨u, rfl, hu, hb⟩
            obtain ⟨UA, uc, rfl, _⟩ := id hu
            have HU := Lib.hid hu
            replace HB := Lib.hid (bl_trans HB.out hb)
            clear hu hb
            refine hK.out _ _ ((fun h => ⟨h.d0, h.d1⟩) (HFr.out.on HB.out)) (fun hHeld2 => ?_)
            clear hK K
            replace hHeld := hHeld2
            clear hHeld2
            try simp only [List.getElem_toArray, List.getElem_cons_zero, List.getElem_cons_succ, Act.put, List.setIfInBounds_toArray, List.set_cons_zero, List.set_cons_succ]
            refine Kept.only (i := 13) (by kernel_rfl) rfl (fun K hK => ?_)
            go_simp
            refine hK.out _ _ hHeld (fun hHeld2 => ?_)
            clear hK K
            clear hHeld2
            refine Kept.done (by kernel_rfl) ?_
            try simp only [List.getElem_toArray, List.getElem_cons_zero, List.getElem_cons_succ, Act.put, List.setIfInBounds_toArray, List.set_cons_zero, List.set_cons_succ]
            clear hHeld
            go_wp2_with fail
            go_meet
            exact ⟨_, _, _, rfl, rfl, HU, HB⟩
        case way22 =>
          go_simp
          obtain ⟨wq19, gX, e1, e2, hX, hb⟩ := mk_box wq1 3 [.int .i64 (p : Int)]
          rw [e1, e2]
          have HX : Hid (RI wq19 gX [(p : Int)]) := hid' hX
          
          
          
          replace HB := Lib.hid (bl_trans HB.out hb)
          clear e1 e2 hX hb
          refine hK.out _ _ ((fun h => ⟨h.d0, h.d1⟩) (HFr.out.on HB.out)) (fun hHeld2 => ?_)
          clear hK K
          replace hHeld := hHeld2
          clear hHeld2
          try simp only [List.getElem_toArray, List.getElem_cons_zero, List.getElem_cons_succ, Act.put, List.setIfInBounds_toArray, List.set_cons_zero, List.set_cons_succ]
          refine Kept.only (i := 6) (o := ?op20) (by kernel_rfl) ?ho20 (fun K hK => ?_)
          case ho20 => (conv => lhs; simp only [List.getElem?_toArray, List.getElem?_cons_succ, List.getElem?_cons_zero])
          go_simp
          obtain ⟨wq21, gE, e1, e2, hX, hb⟩ := mk_empty wq19
          rw [e1, e2]
          have HE0 := Lib.hid (hX.mono (B' := wr.heap.size) (by have := HB.out.size; omega))
          have HNE : Hid (∀ g, (Value.slice (some ⟨gE, 0, none⟩) 0 0).ownBlock = some g → g ≠ gX) := hid' fun g hg => (by have h1 := HX.out.lt; simp [Value.ownBlock] at hg; omega) 
          replace HX := Lib.hid (HX.out.belowS hb) 
          replace HB := Lib.hid (bl_trans HB.out hb)
          clear e1 e2 hX hb
          refine hK.out _ _ ((fun h => ⟨h.d0, h.d1⟩) (HFr.out.on HB.out)) (fun hHeld2 => ?_)
          clear hK K
          replace hHeld := hHeld2
          clear hHeld2
          try simp only [List.getElem_toArray, List.getElem_cons_zero, List.getElem_cons_succ, Act.put, List.setIfInBounds_toArray, List.set_cons_zero, List.set_cons_succ]
          refine Kept.only (i := 8) (o := ?op22) (by kernel_rfl) ?ho22 (fun K hK => ?_)
          case ho22 => (conv => lhs; simp only [List.getElem?_toArray, List.getElem?_cons_succ, List.getElem?_cons_zero])
          refine step_catI rfl _ _ rfl wr.heap.size _ _ rfl HE0.out _ ch rfl ((HC.out.below HFr.out.bel (Nat.le_refl _)).below HB.out (Nat.le_refl _)) (by rw [HCM.out]; simp; omega) HB.out.size ?_
          intro v2 wq23 ho hg hv2
          rw [List.nil_append] at ho
          obtain ⟨A2, k2, rfl⟩ := ho.form'
          rw [HCM.out] at ho hv2 ⊢
          have hne0 : some gX ≠ (Value.slice (some ⟨gE, 0, none⟩) 0 0).ownBlock := fun e => HNE.out gX e.symm rfl 
          replace HX := Lib.hid (HX.out.grown hg hne0) 
          have HA := Lib.hid ho
          replace HB := Lib.hid (HE0.out.bgrown HB.out HB.out.size hg)
          clear ho hg hv2 HE0 hne0 
          refine hK.out _ _ ((fun h => ⟨h.d0, h.d1⟩) (HFr.out.on HB.out)) (fun hHeld2 => ?_)
          clear hK K
          replace hHeld := hHeld2
          clear hHeld2
          try simp only [List.getElem_toArray, List.getElem_cons_zero, List.getElem_cons_succ, Act.put, List.setIfInBounds_toArray, List.set_cons_zero, List.set_cons_succ]
          refine Kept.only (i := 11) (o := ?op24) (by kernel_rfl) ?ho24 (fun K hK => ?_)
          case ho24 => (conv => lhs; simp only [List.getElem?_toArray, List.getElem?_cons_succ, List.getElem?_cons_zero])
          refine step_catI rfl _ _ rfl wr.heap.size _ _ rfl HA.out _ [(p : Int)] rfl (RI.si (xs := [(p : Int)]) HX.out (by simp) HIP.out) (by rw [HCM.out]; simp; omega) HB.out.size ?_
          intro v4 wq25 ho4 hg4 hv4
          obtain ⟨A4, k4, rfl⟩ := ho4.form'
          rw [HL1.out] at ho4 hv4 ⊢
          have HP := Lib.hid ho4
          replace HB := Lib.hid (HA.out.bgrown HB.out HB.out.size hg4)
          clear ho4 hg4 hv4
          refine hK.out _ _ ((fun h => ⟨h.d0, h.d1⟩) (HFr.out.on HB.out)) (fun hHeld2 => ?_)
          clear hK K
          replace hHeld := hHeld2
          clear hHeld2
          try simp only [List.getElem_toArray, List.getElem_cons_zero, List.getElem_cons_succ, Act.put, List.setIfInBounds_toArray, List.set_cons_zero, List.set_cons_succ]
          refine Kept.only (i := 12) (o := ?op26) (by kernel_rfl) ?ho26 (fun K hK => ?_)
          case ho26 => (conv => lhs; simp only [List.getElem?_toArray, List.getElem?_cons_succ, List.getElem?_cons_zero])
          go_simp
          rw [HWP.out, HWS.out]
          refine (IH.out _ n (p + 1) b (.slice RA r rc) (.slice A4 (cm + 1) k4) rows (ch ++ [(p : Int)]) (HV.out.below (HFr.out.on HB.out).bel (Nat.le_refl _)) (HP.out.si (by rw [HL1.out]; omega) (okC_wf HO1.out hnn)) HM.out HO1.out hpn).mono ?_
          rintro e wq27 ⟨u, rfl, hu, hb⟩
          obtain ⟨UA, uc, rfl, _⟩ := id hu
          have HU := Lib.hid hu
          replace HB := Lib.hid (bl_trans HB.out hb)
          clear hu hb
          refine hK.out _ _ ((fun h => ⟨h.d0, h.d1⟩) (HFr.out.on HB.out)) (fun hHeld2 => ?_)
          clear hK K
          replace hHeld := hHeld2
          clear hHeld2
          try simp only [List.getElem_toArray, List.getElem_cons_zero, List.getElem_cons_succ, Act.put, List.setIfInBounds_toArray, List.set_cons_zero, List.set_cons_succ]
          refine Kept.only (i := 13) (by kernel_rfl) rfl (fun K hK => ?_)
          go_simp
          refine hK.out _ _ hHeld (fun hHeld2 => ?_)
          clear hK K
          clear hHeld2
          refine Kept.done (by kernel_rfl) ?_
          try simp only [List.getElem_toArray, List.getElem_cons_zero, List.getElem_cons_succ, Act.put, List.setIfInBounds_toArray, List.set_cons_zero, List.set_cons_succ]
          clear hHeld
          go_wp2_with fail
          go_meet
          exact ⟨_, _, _, rfl, rfl, HU, HB⟩
      case rest =>
        clear d0 d1
        obtain ⟨UA, ul, uc, rfl, HUL, HU, HB⟩ := hcut
        have HFc := Lib.hid (HFr.out.on HB.out)
        cases hsf : sF rows n b size (p + 1) (ch ++ [(p : Int)]) with
        | some l =>
          rw [hsf] at HUL HU
          have hll := sF_len hsf
          have HSQ := Lib.hid (sL_some hlt hsf)
          have hul : ul = l.length := HUL.out.symm
          have hpos : 0 < ul := by rw [hul, hll, List.length_append]; show 0 < ch.length + 1 + size; omega
          clear hsf hll hul
          go_wp2_with fail
          go_ret
          rw [HQ.out, HSQ.out]
          exact ⟨_, rfl, HU.out, HFc.out.bel⟩
        | none =>
          rw [hsf] at HUL
          have HSQ := Lib.hid (sL_none hlt hsf)
          have hul : ul = 0 := HUL.out.symm
          subst hul
          clear hsf
          go_wp2_with fail
          exact ⟨⟨p + 1, by omega, by omega, by push_cast; rfl, hid' (HQ.out.trans HSQ.out), HFc⟩, by simp only [intOf]; omega⟩
    · have HE2 := Lib.hid (sL_out (rows := rows) (b := b) (ch := ch) hlt)
      go_wp2_with fail
      go_ret
      rw [HQ.out, HE2.out]
      exact ⟨_, rfl, SI.none_ _, HFr.out.bel⟩
theorem srch_any : ∀ size, size ≤ 1000 → SrchAt size
  | 0, _ => srch_zero
  | size + 1, h => srch_succ size (by omega) (srch_any size (by omega))
end Go.Proofs.Ytgabhlalamnbgaa

/- message.within. -/
namespace Go.Proofs.Ytgabhlalamnbgaa
open Go.RowKit
set_option linter.unusedVariables false
set_option maxRecDepth 100000

theorem SI.at_ {w : World} {A : Option Addr} {n c : Nat} {xs : List Int} (h : SI w (.slice A n c) xs) : n = xs.length ∧ SIat w A c xs := by
  obtain ⟨A2, c2, e, h2⟩ := h
  injection e with e1 e2 e3
  subst e1 e2 e3
  exact ⟨rfl, h2⟩
/-- the cells of a sum and of a column -/
theorem wi_cells {wr w' : World} {g gC n p : Nat} {a : Nat → Bool} {f : Nat → Nat → Bool} (hk : Blk wr g 69 (colL a)) (hc : RC wr gC n f) (hp : p < n) (hb : Below wr.heap.size wr w') :
    w'.cell? ⟨g, 0, none⟩ = some (.int .u64 (cwN a 0 : Nat)) ∧ w'.cell? ⟨g, 1, none⟩ = some (.int .u64 (cwN a 1 : Nat)) ∧ w'.cell? ⟨g, 2, none⟩ = some (.int .u64 (cwN a 2 : Nat)) ∧ w'.cell? ⟨g, 3, none⟩ = some (.int .u64 (cwN a 3 : Nat)) ∧
    w'.cell? ⟨gC, p * 4, none⟩ = some (.int .u64 (cwN (f p) 0 : Nat)) ∧ w'.cell? ⟨gC, p * 4 + 1, none⟩ = some (.int .u64 (cwN (f p) 1 : Nat)) ∧ w'.cell? ⟨gC, p * 4 + 2, none⟩ = some (.int .u64 (cwN (f p) 2 : Nat)) ∧ w'.cell? ⟨gC, p * 4 + 3, none⟩ = some (.int .u64 (cwN (f p) 3 : Nat)) := by
  have h1 := hk.belowS hb; have h2 := hc.on hb
  exact ⟨h1.cell 0, h1.cell 1, h1.cell 2, h1.cell 3, h2.cell hp (k := 0) (by omega), h2.cell hp (k := 1) (by omega), h2.cell hp (k := 2) (by omega), h2.cell hp (k := 3) (by omega)⟩
/-- all words of a sum are 0: nothing is counted -/
theorem cnt_zero {b : Nat → Bool} (h0 : cwN b 0 = 0) (h1 : cwN b 1 = 0) (h2 : cwN b 2 = 0) (h3 : cwN b 3 = 0) : cntB b 256 = 0 := by
  rw [← cwN_pop, h0, h1, h2, h3]; decide
theorem Try.infoU64 : (Try.prog.info? 67).map (fun i => (i.zero, i.size, i.bytes)) = some (some (.int .u64 0), 1, 8) := by kernel_rfl
theorem col_part (x0 x1 x2 x3 : Int) (w : World) : (part 67 #[.int .u64 x0, .int .u64 x1, .int .u64 x2, .int .u64 x3] 0).run Try.prog w = .ok (.int .u64 x0) w ∧ (part 67 #[.int .u64 x0, .int .u64 x1, .int .u64 x2, .int .u64 x3] 1).run Try.prog w = .ok (.int .u64 x1) w ∧ (part 67 #[.int .u64 x0, .int .u64 x1, .int .u64 x2, .int .u64 x3] 2).run Try.prog w = .ok (.int .u64 x2) w ∧ (part 67 #[.int .u64 x0, .int .u64 x1, .int .u64 x2, .int .u64 x3] 3).run Try.prog w = .ok (.int .u64 x3) w :=
  ⟨by kernel_rfl, by kernel_rfl, by kernel_rfl, by kernel_rfl⟩
theorem col_eqd (d : Nat) (x0 x1 x2 x3 : Int) (w : World) : (Op.equalIn (d + 1 + 1) 69 (.agg #[.int .u64 x0, .int .u64 x1, .int .u64 x2, .int .u64 x3]) (.agg #[.int .u64 0, .int .u64 0, .int .u64 0, .int .u64 0])).run Try.prog w = .ok (x0 == 0 && (x1 == 0 && (x2 == 0 && x3 == 0))) w := by
  obtain ⟨i0, hi, hz0, hz1, hz2⟩ := info_parts Try.infoU64
  have h1 : ∀ (x y : Int) (w : World), (Op.equalIn (d + 1) 67 (.int .u64 x) (.int .u64 y)).run Try.prog w = .ok (x == y) w := fun x y w => run_equalIn_int w d 67 .u64 .u64 x y Try.underlying67
  generalize hd : d + 1 = e at *
  have hs : (sizeOf 67).run Try.prog w = .ok 1 w := by simp [sizeOf, typeInfo, hi, hz1]
  have p1 := fun w => (col_part x0 x1 x2 x3 w).1; have p2 := fun w => (col_part x0 x1 x2 x3 w).2.1; have p3 := fun w => (col_part x0 x1 x2 x3 w).2.2.1; have p4 := fun w => (col_part x0 x1 x2 x3 w).2.2.2
  have q1 := fun w => (col_part 0 0 0 0 w).1; have q2 := fun w => (col_part 0 0 0 0 w).2.1; have q3 := fun w => (col_part 0 0 0 0 w).2.2.1; have q4 := fun w => (col_part 0 0 0 0 w).2.2.2
  rw [Op.equalIn]
  simp only [Sem.run_bind, run_underlying Try.underlying69, Result.andThen_ok, hs]
  have hr : List.range' 0 4 1 = [0, 1, 2, 3] := by decide
  cases h0 : x0 == 0 <;> cases hh1 : x1 == 0 <;> cases h2 : x2 == 0 <;> cases h3 : x3 == 0 <;> simp [Sem.run_bind, p1, p2, p3, p4, q1, q2, q3, q4, h1, List.range', h0, hh1, h2, h3]
theorem col_eq (a b c d : Int) (w : World) : (Op.equalIn 10000 69 (.agg #[.int .u64 a, .int .u64 b, .int .u64 c, .int .u64 d]) (.agg #[.int .u64 0, .int .u64 0, .int .u64 0, .int .u64 0])).run Try.prog w = .ok (a == 0 && (b == 0 && (c == 0 && d == 0))) w := by
  rw [show (10000 : Nat) = 9998 + 1 + 1 from rfl]
  exact col_eqd 9998 a b c d w
def RetWi (w : World) (o : Option (List Int)) (e : Ending) (w' : World) : Prop := ∃ u, e = .returned (.tuple #[u, .bool o.isSome]) ∧ (∀ l, o = some l → SI w' u l) ∧ Below w.heap.size w w'
def WiAt (size : Nat) : Prop := ∀ (w : World) (gC n low : Nat) (b : Int) (v : Value) (rows : List (List Int)) (ch : List Int), RC w gC n (fun q => colB rows rows.length q) → SI w v ch → MR n rows → okC n ch low → low ≤ n → 0 ≤ b →
    Calls Try.prog 53 #[.slice (some ⟨gC, 0, none⟩) n n, .int .i64 b, .int .i64 (size : Int), .int .i64 (low : Int), colV (parS rows ch), v] w (RetWi w (sF rows n b size low ch))

set_option maxHeartbeats 8000000 in
theorem wi_zero : WiAt 0 := by
  intro w gC n low b v rows ch hC hc hm ho hl hb0
  have HC := Lib.hid hC; have HCH := Lib.hid hc; have HM := Lib.hid hm
  clear hC hc hm ho hl
  have HPS := Lib.hid (show parS rows ch = parS rows ch from rfl)
  have HK := Lib.hid (Blk.new w 69 (colL (parS rows ch)))
  have HB := Lib.hid (bl_alloc w (.cells #[.int .u64 (cwN (parS rows ch) 0 : Nat), .int .u64 (cwN (parS rows ch) 1 : Nat), .int .u64 (cwN (parS rows ch) 2 : Nat), .int .u64 (cwN (parS rows ch) 3 : Nat)] 69))
  unfold colV
  rw [sF]
  generalize hps : parS rows ch = ps at *
  clear hps
  have HSI : Hid (SI (w.alloc (.cells #[.int .u64 (cwN ps 0 : Nat), .int .u64 (cwN ps 1 : Nat), .int .u64 (cwN ps 2 : Nat), .int .u64 (cwN ps 3 : Nat)] 69)) v ch) := hid' (HCH.out.below HB.out (Nat.le_refl _))
  have k0 := HK.out.cell 0; have k1 := HK.out.cell 1; have k2 := HK.out.cell 2; have k3 := HK.out.cell 3
  have heq := col_eq (cwN ps 0 : Nat) (cwN ps 1 : Nat) (cwN ps 2 : Nat) (cwN ps 3 : Nat)
  cases hz : ((cwN ps 0 : Nat) : Int) == 0 && (((cwN ps 1 : Nat) : Int) == 0 && (((cwN ps 2 : Nat) : Int) == 0 && ((cwN ps 3 : Nat) : Int) == 0))
  · rw [hz] at heq
    clear hz
    by_cases hle : ((cntB ps 256 : Nat) : Int) ≤ b
    · rw [if_pos hle]
      have hd : decide (((cntB ps 256 : Nat) : Int) ≤ b) = true := decide_eq_true hle
      go_enter Try.func53, Try.ntmps53
      go_wp2_with fail
      refine (csize_any _ ps).mono ?_
      rintro e w1 ⟨rfl, hb1⟩
      have HB1 := Lib.hid (bl_trans HB.out hb1); clear hb1 heq k0 k1 k2 k3
      go_wp2_with fail
      go_ret2
      exact ⟨_, rfl, fun l hl => by cases hl; exact HCH.out.below HB1.out (Nat.le_refl _), HB1.out⟩
    · rw [if_neg hle]
      have hd : decide (((cntB ps 256 : Nat) : Int) ≤ b) = false := decide_eq_false hle
      go_enter Try.func53, Try.ntmps53
      go_wp2_with fail
      refine (csize_any _ ps).mono ?_
      rintro e w1 ⟨rfl, hb1⟩
      have HB1 := Lib.hid (bl_trans HB.out hb1); clear hb1 heq k0 k1 k2 k3
      go_wp2_with fail
      go_ret2
      exact ⟨_, rfl, (fun l hl => nomatch hl), HB1.out⟩
  · rw [hz] at heq
    simp only [Bool.and_eq_true, beq_iff_eq] at hz
    obtain ⟨z0, z1, z2, z3⟩ := hz
    have hc0 := cnt_zero (b := ps) (by omega) (by omega) (by omega) (by omega)
    rw [if_pos (by rw [hc0]; exact hb0)]
    clear hc0 z0 z1 z2 z3
    go_enter Try.func53, Try.ntmps53
    go_wp2_with fail
    go_ret2
    exact ⟨_, rfl, fun l hl => by cases hl; exact HSI.out, HB.out⟩

set_option maxHeartbeats 16000000 in
theorem wi_succ (size : Nat) (hs : size < 1000) (ih : WiAt size) : WiAt (size + 1) := by
  intro w gC n low b v rows ch hC hc hm ho hl hb0
  have HC := Lib.hid hC; have HCH := Lib.hid hc; have HM := Lib.hid hm; have HO := Lib.hid ho; have IH := Lib.hid ih; have HB0 := Lib.hid hb0
  have hnn := hm.nn
  have hgC := hC.lt
  clear hC hc hm ho ih hb0
  obtain ⟨CA, cc, rfl, hsa⟩ := id HCH.out
  have hccp := hsa.cap
  clear hsa
  have HK := Lib.hid (Blk.new w 69 (colL (parS rows ch)))
  have HB := Lib.hid (bl_alloc w (.cells (colL (parS rows ch)).toArray 69))
  have HC1 := Lib.hid (HC.out.on HB.out)
  have hcl : ch.length ≤ 256 := by have := okC_len HO.out hl; omega
  have HE : Hid (sF rows n b (size + 1) low ch = sL rows n b size low ch) := rfl
  rw [HE.out]
  generalize hcm : ch.length = cm at HCH hcl hccp ⊢
  have HCM := Lib.hid hcm; clear hcm
  have hsz : ((size + 1 : Nat) : Int) = (size : Int) + 1 := by push_cast; rfl
  rw [hsz]
  have HNS : Hid (IntKind.i64.wrap ((n : Int) - ((size : Int) + 1)) = (n : Int) - ((size : Int) + 1)) := hid' (IntWalk.i64_in _ (by omega))
  unfold colV
  unfold colL at HK HB HC1
  go_enter Try.func53, Try.ntmps53
  go_wp2_with fail
  generalize w.alloc (.cells #[.int .u64 (cwN (parS rows ch) 0 : Nat), .int .u64 (cwN (parS rows ch) 1 : Nat), .int .u64 (cwN (parS rows ch) 2 : Nat), .int .u64 (cwN (parS rows ch) 3 : Nat)] 69) = w0 at *
  go_wp2_with fail
  go_loopw [14] (fun i wr => ∃ p : Nat, low ≤ p ∧ p ≤ n ∧ i = .int .i64 (p : Int) ∧ Hid (sL rows n b size low ch = sL rows n b size p ch) ∧ Hid (Blk wr w.heap.size 69 (colL (parS rows ch))) ∧ Hid (RC wr gC n (fun q => colB rows rows.length q)) ∧ Hid (Below w.heap.size w wr)) (fun i _ => n - (intOf i).toNat)
  case atStart => exact ⟨low, Nat.le_refl _, hl, rfl, rfl, HK, HC1, HB⟩
  case round =>
    clear HK HC1 HB
    obtain ⟨p, hp0, hp, rfl, HQ, HK, HCr, HBr⟩ := hrel
    by_cases hlt : p + (size + 1) ≤ n
    · have hpn : p < n := by omega
      have hd : decide ((p : Int) ≤ (n : Int) - ((size : Int) + 1)) = true := by simp; omega
      have HO1 := Lib.hid ((HO.out.mono hp0).snoc hpn)
      have HL1 : Hid ((ch ++ [(p : Int)]).length = cm + 1) := hid' (by show _ = _; rw [List.length_append, HCM.out]; rfl)
      have HWP : Hid (IntKind.i64.wrap ((p : Int) + 1) = ((p + 1 : Nat) : Int)) := hid' (by show _ = _; rw [IntWalk.i64_in _ (by omega)]; push_cast; rfl)
      have HWS : Hid (IntKind.i64.wrap (size : Int) = (size : Int)) := hid' (IntWalk.i64_in _ (by omega))
      have HTK : Hid ((fun j => parS rows ch j ^^ colB rows rows.length p j) = parS rows (ch ++ [(p : Int)])) := hid' (by show _ = _; rw [parS_snoc, Int.toNat_natCast])
      have hc8 := wi_cells HK.out HCr.out hpn (bl_drew wr)
      go_upto_region 6 with fail
      go_cut [15, 16] from 30 to 64 (fun t15 t16 wc => t16 = .bool (sF rows n b size (p + 1) (ch ++ [(p : Int)])).isSome ∧ Hid (∀ l, sF rows n b size (p + 1) (ch ++ [(p : Int)]) = some l → SI wc t15 l) ∧ Hid (Below wr.heap.size wr wc))
      case first =>
        refine Kept.start (S := fun w' => w'.cell? ⟨w.heap.size, 0, none⟩ = some (.int .u64 (cwN (parS rows ch) 0 : Nat)) ∧ w'.cell? ⟨w.heap.size, 1, none⟩ = some (.int .u64 (cwN (parS rows ch) 1 : Nat)) ∧ w'.cell? ⟨w.heap.size, 2, none⟩ = some (.int .u64 (cwN (parS rows ch) 2 : Nat)) ∧ w'.cell? ⟨w.heap.size, 3, none⟩ = some (.int .u64 (cwN (parS rows ch) 3 : Nat)) ∧ w'.cell? ⟨gC, p * 4, none⟩ = some (.int .u64 (cwN (colB rows rows.length p) 0 : Nat)) ∧ w'.cell? ⟨gC, p * 4 + 1, none⟩ = some (.int .u64 (cwN (colB rows rows.length p) 1 : Nat)) ∧ w'.cell? ⟨gC, p * 4 + 2, none⟩ = some (.int .u64 (cwN (colB rows rows.length p) 2 : Nat)) ∧ w'.cell? ⟨gC, p * 4 + 3, none⟩ = some (.int .u64 (cwN (colB rows rows.length p) 3 : Nat))) (by kernel_rfl) (hc8) (fun hHeld => ?_)
        change Kept _ _ _ _ 27 _ _ _
        have hdrew := bl_drew wr
        generalize wr.drew = wq1 at hdrew hHeld ⊢
        have HB := Lib.hid hdrew
        clear hc8
        clear hdrew
        refine Kept.take (i := 0) (v := ?_) rfl (by kernel_rfl) (by kernel_rfl) (by kernel_rfl) (fun _ _ _ h => h) (Or.inl ⟨by kernel_rfl, ?_⟩) hHeld ?_
        rotate_left
        · intro w' hSw; (try dsimp only at hSw); first | (go_simp; done) | (go_simp; with_reducible rfl)
        try simp only [List.getElem_toArray, List.getElem_cons_zero, List.getElem_cons_succ, Act.put, List.setIfInBounds_toArray, List.set_cons_zero, List.set_cons_succ]
        refine Kept.take (i := 1) (v := ?_) rfl (by kernel_rfl) (by kernel_rfl) (by kernel_rfl) (fun _ _ _ h => h) (Or.inl ⟨by kernel_rfl, ?_⟩) hHeld ?_
        rotate_left
        · intro w' hSw; (try dsimp only at hSw); first | (go_simp; done) | (go_simp; with_reducible rfl)
        try simp only [List.getElem_toArray, List.getElem_cons_zero, List.getElem_cons_succ, Act.put, List.setIfInBounds_toArray, List.set_cons_zero, List.set_cons_succ]
        refine Kept.take (i := 2) (v := ?_) rfl (by kernel_rfl) (by kernel_rfl) (by kernel_rfl) (fun _ _ _ h => h) (Or.inl ⟨by kernel_rfl, ?_⟩) hHeld ?_
        rotate_left
        · intro w' hSw; (try dsimp only at hSw); first | (go_simp; done) | (go_simp; with_reducible rfl)
        try simp only [List.getElem_toArray, List.getElem_cons_zero, List.getElem_cons_succ, Act.put, List.setIfInBounds_toArray, List.set_cons_zero, List.set_cons_succ]
        refine Kept.take (i := 3) (v := ?_) rfl (by kernel_rfl) (by kernel_rfl) (by kernel_rfl) (fun _ _ _ h => h) (Or.inl ⟨by kernel_rfl, ?_⟩) hHeld ?_
        rotate_left
        · intro w' hSw; (try dsimp only at hSw); first | (go_simp; done) | (go_simp; with_reducible rfl)
        try simp only [List.getElem_toArray, List.getElem_cons_zero, List.getElem_cons_succ, Act.put, List.setIfInBounds_toArray, List.set_cons_zero, List.set_cons_succ]
        refine Kept.take (i := 4) (v := ?_) rfl (by kernel_rfl) (by kernel_rfl) (by kernel_rfl) (fun _ _ _ h => h) (Or.inl ⟨by kernel_rfl, ?_⟩) hHeld ?_
        rotate_left
        · intro w' hSw; (try dsimp only at hSw); first | (go_simp; done) | (go_simp; with_reducible rfl)
        try simp only [List.getElem_toArray, List.getElem_cons_zero, List.getElem_cons_succ, Act.put, List.setIfInBounds_toArray, List.set_cons_zero, List.set_cons_succ]
        refine Kept.take (i := 5) (v := ?_) rfl (by kernel_rfl) (by kernel_rfl) (by kernel_rfl) (fun _ _ _ h => h) (Or.inl ⟨by kernel_rfl, ?_⟩) hHeld ?_
        rotate_left
        · intro w' hSw; (try dsimp only at hSw); first | (go_simp; done) | (go_simp; with_reducible rfl)
        try simp only [List.getElem_toArray, List.getElem_cons_zero, List.getElem_cons_succ, Act.put, List.setIfInBounds_toArray, List.set_cons_zero, List.set_cons_succ]
        refine Kept.take (i := 6) (v := ?_) rfl (by kernel_rfl) (by kernel_rfl) (by kernel_rfl) (fun _ _ _ h => h) (Or.inl ⟨by kernel_rfl, ?_⟩) hHeld ?_
        rotate_left
        · intro w' hSw; (try dsimp only at hSw); first | (go_simp; done) | (go_simp; with_reducible rfl)
        try simp only [List.getElem_toArray, List.getElem_cons_zero, List.getElem_cons_succ, Act.put, List.setIfInBounds_toArray, List.set_cons_zero, List.set_cons_succ]
        refine Kept.take (i := 7) (v := ?_) rfl (by kernel_rfl) (by kernel_rfl) (by kernel_rfl) (fun _ _ _ h => h) (Or.inl ⟨by kernel_rfl, ?_⟩) hHeld ?_
        rotate_left
        · intro w' hSw; (try dsimp only at hSw); first | (go_simp; done) | (go_simp; with_reducible rfl)
        try simp only [List.getElem_toArray, List.getElem_cons_zero, List.getElem_cons_succ, Act.put, List.setIfInBounds_toArray, List.set_cons_zero, List.set_cons_succ]
        refine Kept.take (i := 8) (v := ?_) rfl (by kernel_rfl) (by kernel_rfl) (by kernel_rfl) (fun _ _ _ h => h) (Or.inl ⟨by kernel_rfl, ?_⟩) hHeld ?_
        rotate_left
        · intro w' hSw; (try dsimp only at hSw); first | (go_simp; done) | (go_simp; with_reducible rfl)
        try simp only [List.getElem_toArray, List.getElem_cons_zero, List.getElem_cons_succ, Act.put, List.setIfInBounds_toArray, List.set_cons_zero, List.set_cons_succ]
        refine Kept.take (i := 9) (v := ?_) rfl (by kernel_rfl) (by kernel_rfl) (by kernel_rfl) (fun _ _ _ h => h) (Or.inl ⟨by kernel_rfl, ?_⟩) hHeld ?_
        rotate_left
        · intro w' hSw; (try dsimp only at hSw); first | (go_simp; done) | (go_simp; with_reducible rfl)
        try simp only [List.getElem_toArray, List.getElem_cons_zero, List.getElem_cons_succ, Act.put, List.setIfInBounds_toArray, List.set_cons_zero, List.set_cons_succ]
        refine Kept.take (i := 10) (v := ?_) rfl (by kernel_rfl) (by kernel_rfl) (by kernel_rfl) (fun _ _ _ h => h) (Or.inl ⟨by kernel_rfl, ?_⟩) hHeld ?_
        rotate_left
        · intro w' hSw; (try dsimp only at hSw); first | (go_simp; done) | (go_simp; with_reducible rfl)
        try simp only [List.getElem_toArray, List.getElem_cons_zero, List.getElem_cons_succ, Act.put, List.setIfInBounds_toArray, List.set_cons_zero, List.set_cons_succ]
        refine Kept.take (i := 12) (v := ?_) rfl (by kernel_rfl) (by kernel_rfl) (by kernel_rfl) (fun _ _ _ h => h) (Or.inl ⟨by kernel_rfl, ?_⟩) hHeld ?_
        rotate_left
        · intro w' hSw; (try dsimp only at hSw); first | (go_simp; done) | (go_simp; with_reducible rfl)
        try simp only [List.getElem_toArray, List.getElem_cons_zero, List.getElem_cons_succ, Act.put, List.setIfInBounds_toArray, List.set_cons_zero, List.set_cons_succ]
        refine Kept.take (i := 13) (v := ?_) rfl (by kernel_rfl) (by kernel_rfl) (by kernel_rfl) (fun _ _ _ h => h) (Or.inl ⟨by kernel_rfl, ?_⟩) hHeld ?_
        rotate_left
        · intro w' hSw; (try dsimp only at hSw); first | (go_simp; done) | (go_simp; with_reducible rfl)
        try simp only [List.getElem_toArray, List.getElem_cons_zero, List.getElem_cons_succ, Act.put, List.setIfInBounds_toArray, List.set_cons_zero, List.set_cons_succ]
        refine Kept.take (i := 14) (v := ?_) rfl (by kernel_rfl) (by kernel_rfl) (by kernel_rfl) (fun _ _ _ h => h) (Or.inl ⟨by kernel_rfl, ?_⟩) hHeld ?_
        rotate_left
        · intro w' hSw; (try dsimp only at hSw); first | (go_simp; done) | (go_simp; with_reducible rfl)
        try simp only [List.getElem_toArray, List.getElem_cons_zero, List.getElem_cons_succ, Act.put, List.setIfInBounds_toArray, List.set_cons_zero, List.set_cons_succ]
        refine Kept.take (i := 15) (v := ?_) rfl (by kernel_rfl) (by kernel_rfl) (by kernel_rfl) (fun _ _ _ h => h) (Or.inl ⟨by kernel_rfl, ?_⟩) hHeld ?_
        rotate_left
        · intro w' hSw; (try dsimp only at hSw); first | (go_simp; done) | (go_simp; with_reducible rfl)
        try simp only [List.getElem_toArray, List.getElem_cons_zero, List.getElem_cons_succ, Act.put, List.setIfInBounds_toArray, List.set_cons_zero, List.set_cons_succ]
        refine Kept.take (i := 16) (v := ?_) rfl (by kernel_rfl) (by kernel_rfl) (by kernel_rfl) (fun _ _ _ h => h) (Or.inl ⟨by kernel_rfl, ?_⟩) hHeld ?_
        rotate_left
        · intro w' hSw; (try dsimp only at hSw); first | (go_simp; done) | (go_simp; with_reducible rfl)
        try simp only [List.getElem_toArray, List.getElem_cons_zero, List.getElem_cons_succ, Act.put, List.setIfInBounds_toArray, List.set_cons_zero, List.set_cons_succ]
        refine Kept.take (i := 17) (v := ?_) rfl (by kernel_rfl) (by kernel_rfl) (by kernel_rfl) (fun _ _ _ h => h) (Or.inl ⟨by kernel_rfl, ?_⟩) hHeld ?_
        rotate_left
        · intro w' hSw; (try dsimp only at hSw); first | (go_simp; done) | (go_simp; with_reducible rfl)
        try simp only [List.getElem_toArray, List.getElem_cons_zero, List.getElem_cons_succ, Act.put, List.setIfInBounds_toArray, List.set_cons_zero, List.set_cons_succ]
        refine Kept.take (i := 18) (v := ?_) rfl (by kernel_rfl) (by kernel_rfl) (by kernel_rfl) (fun _ _ _ h => h) (Or.inl ⟨by kernel_rfl, ?_⟩) hHeld ?_
        rotate_left
        · intro w' hSw; (try dsimp only at hSw); first | (go_simp; done) | (go_simp; with_reducible rfl)
        try simp only [List.getElem_toArray, List.getElem_cons_zero, List.getElem_cons_succ, Act.put, List.setIfInBounds_toArray, List.set_cons_zero, List.set_cons_succ]
        refine Kept.two (i := 11) (j := 19) (oi := ?opa2) (oj := ?opb2) (by kernel_rfl) ?hoa2 ?hob2 (fun K hK => ?way12) (fun K hK => ?way22)
        case hoa2 => (conv => lhs; simp only [List.getElem?_toArray, List.getElem?_cons_succ, List.getElem?_cons_zero])
        case hob2 => (conv => lhs; simp only [List.getElem?_toArray, List.getElem?_cons_succ, List.getElem?_cons_zero])
        case way12 =>
          go_simp
          refine (cplus_any _ (parS rows ch) (colB rows rows.length p)).mono ?_
          rintro e wq3 ⟨rfl, hb⟩
          rw [HTK.out]
          
          replace HB := Lib.hid (bl_trans HB.out hb)
          clear hb
          refine hK.out _ _ (wi_cells HK.out HCr.out hpn HB.out) (fun hHeld2 => ?_)
          clear hK K
          replace hHeld := hHeld2
          clear hHeld2
          try simp only [List.getElem_toArray, List.getElem_cons_zero, List.getElem_cons_succ, Act.put, List.setIfInBounds_toArray, List.set_cons_zero, List.set_cons_succ]
          refine Kept.only (i := 19) (o := ?op4) (by kernel_rfl) ?ho4 (fun K hK => ?_)
          case ho4 => (conv => lhs; simp only [List.getElem?_toArray, List.getElem?_cons_succ, List.getElem?_cons_zero])
          go_simp
          obtain ⟨wq5, gX, e1, e2, hX, hb⟩ := mk_box wq3 3 [.int .i64 (p : Int)]
          rw [e1, e2]
          have HX : Hid (RI wq5 gX [(p : Int)]) := hid' hX
          replace HB := Lib.hid (bl_trans HB.out hb)
          clear e1 e2 hX hb
          refine hK.out _ _ (wi_cells HK.out HCr.out hpn HB.out) (fun hHeld2 => ?_)
          clear hK K
          replace hHeld := hHeld2
          clear hHeld2
          try simp only [List.getElem_toArray, List.getElem_cons_zero, List.getElem_cons_succ, Act.put, List.setIfInBounds_toArray, List.set_cons_zero, List.set_cons_succ]
          refine Kept.only (i := 20) (o := ?op6) (by kernel_rfl) ?ho6 (fun K hK => ?_)
          case ho6 => (conv => lhs; simp only [List.getElem?_toArray, List.getElem?_cons_succ, List.getElem?_cons_zero])
          refine step_growI rfl _ _ rfl CA cm cc ch rfl HCM.out.symm (((HCH.out.below HBr.out (Nat.le_refl _)).below HB.out (Nat.le_refl _)).at_).2 gX _ (p : Int) rfl (HX.out.cell 0 (by simp)) (by rw [HCM.out]; omega) ?_
          intro v4 wq7 ho4 hg4
          have HP := Lib.hid ho4
          replace HB := Lib.hid ((OI.nil wr.heap.size _).bgrown HB.out HB.out.size hg4)
          clear ho4 hg4
          refine hK.out _ _ (wi_cells HK.out HCr.out hpn HB.out) (fun hHeld2 => ?_)
          clear hK K
          replace hHeld := hHeld2
          clear hHeld2
          try simp only [List.getElem_toArray, List.getElem_cons_zero, List.getElem_cons_succ, Act.put, List.setIfInBounds_toArray, List.set_cons_zero, List.set_cons_succ]
          refine Kept.only (i := 21) (o := ?op8) (by kernel_rfl) ?ho8 (fun K hK => ?_)
          case ho8 => (conv => lhs; simp only [List.getElem?_toArray, List.getElem?_cons_succ, List.getElem?_cons_zero])
          go_simp
          rw [HWP.out, HWS.out]
          refine (IH.out _ gC n (p + 1) b v4 rows (ch ++ [(p : Int)]) (HCr.out.on HB.out) (HP.out.si (by rw [HL1.out]; omega) (okC_wf HO1.out hnn)) HM.out HO1.out hpn HB0.out).mono ?_
          rintro e wq9 ⟨u, rfl, hu, hb⟩
          have HU := Lib.hid hu
          replace HB := Lib.hid (bl_trans HB.out hb)
          clear hu hb
          refine hK.out _ _ (wi_cells HK.out HCr.out hpn HB.out) (fun hHeld2 => ?_)
          clear hK K
          replace hHeld := hHeld2
          clear hHeld2
          try simp only [List.getElem_toArray, List.getElem_cons_zero, List.getElem_cons_succ, Act.put, List.setIfInBounds_toArray, List.set_cons_zero, List.set_cons_succ]
          refine Kept.take (i := 22) (v := ?_) rfl (by kernel_rfl) (by kernel_rfl) (by kernel_rfl) (fun _ _ _ h => h) (Or.inl ⟨by kernel_rfl, ?_⟩) hHeld ?_
          rotate_left
          · intro w' hSw; (try dsimp only at hSw); first | (go_simp; done) | (go_simp; with_reducible rfl)
          try simp only [List.getElem_toArray, List.getElem_cons_zero, List.getElem_cons_succ, Act.put, List.setIfInBounds_toArray, List.set_cons_zero, List.set_cons_succ]
          refine Kept.take (i := 23) (v := ?_) rfl (by kernel_rfl) (by kernel_rfl) (by kernel_rfl) (fun _ _ _ h => h) (Or.inl ⟨by kernel_rfl, ?_⟩) hHeld ?_
          rotate_left
          · intro w' hSw; (try dsimp only at hSw); first | (go_simp; done) | (go_simp; with_reducible rfl)
          try simp only [List.getElem_toArray, List.getElem_cons_zero, List.getElem_cons_succ, Act.put, List.setIfInBounds_toArray, List.set_cons_zero, List.set_cons_succ]
          refine Kept.take (i := 24) (v := ?_) rfl (by kernel_rfl) (by kernel_rfl) (by kernel_rfl) (fun _ _ _ h => h) (Or.inl ⟨by kernel_rfl, ?_⟩) hHeld ?_
          rotate_left
          · intro w' hSw; (try dsimp only at hSw); first | (go_simp; done) | (go_simp; with_reducible rfl)
          try simp only [List.getElem_toArray, List.getElem_cons_zero, List.getElem_cons_succ, Act.put, List.setIfInBounds_toArray, List.set_cons_zero, List.set_cons_succ]
          refine Kept.take (i := 25) (v := ?_) rfl (by kernel_rfl) (by kernel_rfl) (by kernel_rfl) (fun _ _ _ h => h) (Or.inl ⟨by kernel_rfl, ?_⟩) hHeld ?_
          rotate_left
          · intro w' hSw; (try dsimp only at hSw); first | (go_simp; done) | (go_simp; with_reducible rfl)
          try simp only [List.getElem_toArray, List.getElem_cons_zero, List.getElem_cons_succ, Act.put, List.setIfInBounds_toArray, List.set_cons_zero, List.set_cons_succ]
          refine Kept.only (i := 26) (by kernel_rfl) rfl (fun K hK => ?_)
          go_simp
          refine hK.out _ _ hHeld (fun hHeld2 => ?_)
          clear hK K
          clear hHeld2
          refine Kept.done (by kernel_rfl) ?_
          try simp only [List.getElem_toArray, List.getElem_cons_zero, List.getElem_cons_succ, Act.put, List.setIfInBounds_toArray, List.set_cons_zero, List.set_cons_succ]
          clear hHeld
          go_wp2_with fail
          go_meet
          exact ⟨rfl, HU, HB⟩
        case way22 =>
          go_simp
          obtain ⟨wq10, gX, e1, e2, hX, hb⟩ := mk_box wq1 3 [.int .i64 (p : Int)]
          rw [e1, e2]
          have HX : Hid (RI wq10 gX [(p : Int)]) := hid' hX
          replace HB := Lib.hid (bl_trans HB.out hb)
          clear e1 e2 hX hb
          refine hK.out _ _ (wi_cells HK.out HCr.out hpn HB.out) (fun hHeld2 => ?_)
          clear hK K
          replace hHeld := hHeld2
          clear hHeld2
          try simp only [List.getElem_toArray, List.getElem_cons_zero, List.getElem_cons_succ, Act.put, List.setIfInBounds_toArray, List.set_cons_zero, List.set_cons_succ]
          refine Kept.only (i := 11) (o := ?op11) (by kernel_rfl) ?ho11 (fun K hK => ?_)
          case ho11 => (conv => lhs; simp only [List.getElem?_toArray, List.getElem?_cons_succ, List.getElem?_cons_zero])
          go_simp
          refine (cplus_any _ (parS rows ch) (colB rows rows.length p)).mono ?_
          rintro e wq12 ⟨rfl, hb⟩
          rw [HTK.out]
          replace HX := Lib.hid (HX.out.belowS hb) 
          replace HB := Lib.hid (bl_trans HB.out hb)
          clear hb
          refine hK.out _ _ (wi_cells HK.out HCr.out hpn HB.out) (fun hHeld2 => ?_)
          clear hK K
          replace hHeld := hHeld2
          clear hHeld2
          try simp only [List.getElem_toArray, List.getElem_cons_zero, List.getElem_cons_succ, Act.put, List.setIfInBounds_toArray, List.set_cons_zero, List.set_cons_succ]
          refine Kept.only (i := 20) (o := ?op13) (by kernel_rfl) ?ho13 (fun K hK => ?_)
          case ho13 => (conv => lhs; simp only [List.getElem?_toArray, List.getElem?_cons_succ, List.getElem?_cons_zero])
          refine step_growI rfl _ _ rfl CA cm cc ch rfl HCM.out.symm (((HCH.out.below HBr.out (Nat.le_refl _)).below HB.out (Nat.le_refl _)).at_).2 gX _ (p : Int) rfl (HX.out.cell 0 (by simp)) (by rw [HCM.out]; omega) ?_
          intro v4 wq14 ho4 hg4
          have HP := Lib.hid ho4
          replace HB := Lib.hid ((OI.nil wr.heap.size _).bgrown HB.out HB.out.size hg4)
          clear ho4 hg4
          refine hK.out _ _ (wi_cells HK.out HCr.out hpn HB.out) (fun hHeld2 => ?_)
          clear hK K
          replace hHeld := hHeld2
          clear hHeld2
          try simp only [List.getElem_toArray, List.getElem_cons_zero, List.getElem_cons_succ, Act.put, List.setIfInBounds_toArray, List.set_cons_zero, List.set_cons_succ]
          refine Kept.only (i := 21) (o := ?op15) (by kernel_rfl) ?ho15 (fun K hK => ?_)
          case ho15 => (conv => lhs; simp only [List.getElem?_toArray, List.getElem?_cons_succ, List.getElem?_cons_zero])
          go_simp
          rw [HWP.out, HWS.out]
          refine (IH.out _ gC n (p + 1) b v4 rows (ch ++ [(p : Int)]) (HCr.out.on HB.out) (HP.out.si (by rw [HL1.out]; omega) (okC_wf HO1.out hnn)) HM.out HO1.out hpn HB0.out).mono ?_
          rintro e wq16 ⟨u, rfl, hu, hb⟩
          have HU := Lib.hid hu
          replace HB := Lib.hid (bl_trans HB.out hb)
          clear hu hb
          refine hK.out _ _ (wi_cells HK.out HCr.out hpn HB.out) (fun hHeld2 => ?_)
          clear hK K
          replace hHeld := hHeld2
          clear hHeld2
          try simp only [List.getElem_toArray, List.getElem_cons_zero, List.getElem_cons_succ, Act.put, List.setIfInBounds_toArray, List.set_cons_zero, List.set_cons_succ]
          refine Kept.take (i := 22) (v := ?_) rfl (by kernel_rfl) (by kernel_rfl) (by kernel_rfl) (fun _ _ _ h => h) (Or.inl ⟨by kernel_rfl, ?_⟩) hHeld ?_
          rotate_left
          · intro w' hSw; (try dsimp only at hSw); first | (go_simp; done) | (go_simp; with_reducible rfl)
          try simp only [List.getElem_toArray, List.getElem_cons_zero, List.getElem_cons_succ, Act.put, List.setIfInBounds_toArray, List.set_cons_zero, List.set_cons_succ]
          refine Kept.take (i := 23) (v := ?_) rfl (by kernel_rfl) (by kernel_rfl) (by kernel_rfl) (fun _ _ _ h => h) (Or.inl ⟨by kernel_rfl, ?_⟩) hHeld ?_
          rotate_left
          · intro w' hSw; (try dsimp only at hSw); first | (go_simp; done) | (go_simp; with_reducible rfl)
          try simp only [List.getElem_toArray, List.getElem_cons_zero, List.getElem_cons_succ, Act.put, List.setIfInBounds_toArray, List.set_cons_zero, List.set_cons_succ]
          refine Kept.take (i := 24) (v := ?_) rfl (by kernel_rfl) (by kernel_rfl) (by kernel_rfl) (fun _ _ _ h => h) (Or.inl ⟨by kernel_rfl, ?_⟩) hHeld ?_
          rotate_left
          · intro w' hSw; (try dsimp only at hSw); first | (go_simp; done) | (go_simp; with_reducible rfl)
          try simp only [List.getElem_toArray, List.getElem_cons_zero, List.getElem_cons_succ, Act.put, List.setIfInBounds_toArray, List.set_cons_zero, List.set_cons_succ]
          refine Kept.take (i := 25) (v := ?_) rfl (by kernel_rfl) (by kernel_rfl) (by kernel_rfl) (fun _ _ _ h => h) (Or.inl ⟨by kernel_rfl, ?_⟩) hHeld ?_
          rotate_left
          · intro w' hSw; (try dsimp only at hSw); first | (go_simp; done) | (go_simp; with_reducible rfl)
          try simp only [List.getElem_toArray, List.getElem_cons_zero, List.getElem_cons_succ, Act.put, List.setIfInBounds_toArray, List.set_cons_zero, List.set_cons_succ]
          refine Kept.only (i := 26) (by kernel_rfl) rfl (fun K hK => ?_)
          go_simp
          refine hK.out _ _ hHeld (fun hHeld2 => ?_)
          clear hK K
          clear hHeld2
          refine Kept.done (by kernel_rfl) ?_
          try simp only [List.getElem_toArray, List.getElem_cons_zero, List.getElem_cons_succ, Act.put, List.setIfInBounds_toArray, List.set_cons_zero, List.set_cons_succ]
          clear hHeld
          go_wp2_with fail
          go_meet
          exact ⟨rfl, HU, HB⟩
      case rest =>
        clear hc8
        obtain ⟨rfl, HU, HB⟩ := hcut
        have HBc := Lib.hid (bl_trans HBr.out HB.out)
        have HKc := Lib.hid (HK.out.belowS HB.out)
        have HCc := Lib.hid (HCr.out.on HB.out)
        clear HB HK HCr HBr
        cases hsf : sF rows n b size (p + 1) (ch ++ [(p : Int)]) with
        | some l =>
          rw [hsf] at HU
          have HSQ := Lib.hid (sL_some hlt hsf)
          clear hsf
          go_wp2_with fail
          go_ret2
          rw [HQ.out, HSQ.out]
          exact ⟨_, rfl, HU.out, HBc.out⟩
        | none =>
          have HSQ := Lib.hid (sL_none hlt hsf)
          clear hsf HU
          go_wp2_with fail
          exact ⟨⟨p + 1, by omega, by omega, by push_cast; rfl, hid' (HQ.out.trans HSQ.out), HKc, HCc, HBc⟩, by simp only [intOf]; omega⟩
    · have HE2 := Lib.hid (sL_out (rows := rows) (b := b) (ch := ch) hlt)
      have hd : decide ((p : Int) ≤ (n : Int) - ((size : Int) + 1)) = false := by simp; omega
      go_wp2_with fail
      go_ret2
      rw [HQ.out, HE2.out]
      exact ⟨_, rfl, (fun l hl => nomatch hl), HBr.out⟩
theorem wi_any : ∀ size, size ≤ 1000 → WiAt size
  | 0, _ => wi_zero
  | size + 1, h => wi_succ size (by omega) (wi_any size (by omega))
end Go.Proofs.Ytgabhlalamnbgaa

/- message.Smallest, ref45.Smallest. -/
namespace Go.Proofs.Ytgabhlalamnbgaa
open Go.RowKit
set_option linter.unusedVariables false
set_option maxRecDepth 100000

/-- a list and an error code, wherever the list lies -/
def RetSm (w : World) (xs : List Int) (er : Int) (e : Ending) (w' : World) : Prop := ∃ u, e = .returned (.tuple #[u, .int .i64 er]) ∧ SI w' u xs ∧ Below w.heap.size w w'
noncomputable def smE (cols : Int) (rows : List (List Int)) (b : Int) : Int := if bitE cols rows ≠ 0 then bitE cols rows else if b < 0 then 6 else if 16 < cols then 8 else 0
def smR (o : Option (List Int)) : Int := match o with | some _ => 0 | none => 11
/-- the first size that has a set -/
def smT (rows : List (List Int)) (n : Nat) (b : Int) (s : Nat) : Option (List Int) := firstF (fun size => sF rows n b size 0 []) s (n + 1 - s)
theorem smT_out {rows : List (List Int)} {n : Nat} {b : Int} {s : Nat} (h : ¬ s ≤ n) : smT rows n b s = none := by
  unfold smT; rw [show n + 1 - s = 0 by omega]; rfl
theorem smT_some {rows : List (List Int)} {n : Nat} {b : Int} {s : Nat} {l : List Int} (h : s ≤ n) (hf : sF rows n b s 0 [] = some l) : smT rows n b s = some l := by
  unfold smT; rw [show n + 1 - s = (n - s) + 1 by omega, firstF, hf]
theorem smT_none {rows : List (List Int)} {n : Nat} {b : Int} {s : Nat} (h : s ≤ n) (hf : sF rows n b s 0 [] = none) : smT rows n b s = smT rows n b (s + 1) := by
  unfold smT; rw [show n + 1 - s = (n - s) + 1 by omega, firstF, hf, show n + 1 - (s + 1) = n - s by omega]
theorem smT_start (rows : List (List Int)) (n : Nat) (b : Int) : smF rows n b = smT rows n b 1 := rfl

set_option maxHeartbeats 8000000 in
theorem mSml_bit (w : World) (cols b : Int) (rv : Value) (rows : List (List Int)) (hv : SS w rv rows) (hE : bitE cols rows ≠ 0) :
    Calls Try.prog 28 #[.agg #[.int .i64 cols, rv], .int .i64 b] w (RetSm w [] (bitE cols rows)) := by
  have HV := Lib.hid hv; clear hv
  obtain ⟨RA, rc, rfl, _⟩ := HV.out
  have HF := Lib.hid (MBox.mk' w cols (.slice RA rows.length rc))
  have HBN := Lib.hid hE
  have hbb : (bitE cols rows != 0) = true := by rw [bne_iff_ne]; exact hE
  clear hE
  go_enter Try.func28, Try.ntmps28
  go_wp2_with fail
  generalize hw0 : w.alloc (.cells #[.int .i64 cols, .slice RA rows.length rc] 24) = w0 at *
  clear hw0
  have d0 := HF.out.d0; have d1 := HF.out.d1
  go_wp2_with fail
  refine (build_no _ cols _ rows (HV.out.below HF.out.bel (Nat.le_refl _)) HBN.out).mono ?_
  rintro e w1 ⟨rfl, hb1⟩
  have HB1 := Lib.hid (bl_trans HF.out.bel hb1); clear hb1
  go_wp2_with fail
  go_ret2
  exact ⟨_, rfl, SI.none_ _, HB1.out⟩

set_option maxHeartbeats 8000000 in
theorem mSml_no (w : World) (n : Nat) (b : Int) (rv : Value) (rows : List (List Int)) (hv : SS w rv rows) (hE : bitE n rows = 0) (hm : MR n rows) (hb : b < 0) :
    Calls Try.prog 28 #[.agg #[.int .i64 (n : Int), rv], .int .i64 b] w (RetSm w [] 6) := by
  have HV := Lib.hid hv; have HM := Lib.hid hm; have HB := Lib.hid hE; clear hv hm hE
  obtain ⟨RA, rc, rfl, _⟩ := HV.out
  have HF := Lib.hid (MBox.mk' w n (.slice RA rows.length rc))
  have hd : decide (b < 0) = true := decide_eq_true hb
  go_enter Try.func28, Try.ntmps28
  go_wp2_with fail
  generalize hw0 : w.alloc (.cells #[.int .i64 (n : Int), .slice RA rows.length rc] 24) = w0 at *
  clear hw0
  have d0 := HF.out.d0; have d1 := HF.out.d1
  go_wp2_with fail
  refine (build_ok _ n _ rows (HV.out.below HF.out.bel (Nat.le_refl _)) HB.out).mono ?_
  rintro e w1 ⟨g, rfl, hg1, hb1⟩
  have HB1 := Lib.hid (bl_trans HF.out.bel hb1); clear hb1 d0 d1 hg1
  go_wp2_with fail
  go_ret2
  exact ⟨_, rfl, SI.none_ _, HB1.out⟩

set_option maxHeartbeats 8000000 in
theorem mSml_big (w : World) (n : Nat) (b : Int) (rv : Value) (rows : List (List Int)) (hv : SS w rv rows) (hE : bitE n rows = 0) (hm : MR n rows) (hb : 0 ≤ b) (hn : 16 < n) :
    Calls Try.prog 28 #[.agg #[.int .i64 (n : Int), rv], .int .i64 b] w (RetSm w [] 8) := by
  have HV := Lib.hid hv; have HM := Lib.hid hm; have HB := Lib.hid hE; clear hv hm hE
  obtain ⟨RA, rc, rfl, _⟩ := HV.out
  have HF := Lib.hid (MBox.mk' w n (.slice RA rows.length rc))
  have hd : decide (b < 0) = false := by simp; omega
  by_cases h62 : 62 < n
  · have hd2 : decide (62 < (n : Int)) = true := by simp; omega
    go_enter Try.func28, Try.ntmps28
    go_wp2_with fail
    generalize hw0 : w.alloc (.cells #[.int .i64 (n : Int), .slice RA rows.length rc] 24) = w0 at *
    clear hw0
    have d0 := HF.out.d0; have d1 := HF.out.d1
    go_wp2_with fail
    refine (build_ok _ n _ rows (HV.out.below HF.out.bel (Nat.le_refl _)) HB.out).mono ?_
    rintro e w1 ⟨g, rfl, hg1, hb1⟩
    have HF1 := Lib.hid (HF.out.on hb1); clear hb1 d0 d1 hg1
    have d0 := HF1.out.d0; have d1 := HF1.out.d1
    go_wp2_with fail
    go_ret2
    exact ⟨_, rfl, SI.none_ _, HF1.out.bel⟩
  · have hd2 : decide (62 < (n : Int)) = false := by simp; omega
    obtain ⟨s, hs1, hs2⟩ : ∃ s : Int, IntKind.i64.wrap ((2 : Int) ^ n) = s ∧ 65536 < s := by
      refine ⟨_, rfl, ?_⟩
      have h1 : 2 ^ n < 2 ^ 63 := Nat.pow_lt_pow_right (by omega) (by omega)
      have h2 : 2 ^ 17 ≤ 2 ^ n := Nat.pow_le_pow_right (by omega) (by omega)
      have hc : (2 : Int) ^ n = ((2 ^ n : Nat) : Int) := by push_cast; rfl
      rw [hc, IntWalk.i64_in _ (by omega)]; omega
    have hd3 : decide (65536 < s) = true := by simp; omega
    go_enter Try.func28, Try.ntmps28
    go_wp2_with fail
    generalize hw0 : w.alloc (.cells #[.int .i64 (n : Int), .slice RA rows.length rc] 24) = w0 at *
    clear hw0
    have d0 := HF.out.d0; have d1 := HF.out.d1
    go_wp2_with fail
    refine (build_ok _ n _ rows (HV.out.below HF.out.bel (Nat.le_refl _)) HB.out).mono ?_
    rintro e w1 ⟨g, rfl, hg1, hb1⟩
    have HF1 := Lib.hid (HF.out.on hb1); clear hb1 d0 d1 hg1
    have d0 := HF1.out.d0; have d1 := HF1.out.d1
    go_wp2_with fail
    go_ret2
    exact ⟨_, rfl, SI.none_ _, HF1.out.bel⟩

set_option maxHeartbeats 8000000 in
theorem mSml_ok (w : World) (n : Nat) (b : Int) (rv : Value) (rows : List (List Int)) (hv : SS w rv rows) (hE : bitE n rows = 0) (hm : MR n rows) (hb : 0 ≤ b) (hn : n ≤ 16) :
    Calls Try.prog 28 #[.agg #[.int .i64 (n : Int), rv], .int .i64 b] w (RetSm w ((smF rows n b).getD []) (smR (smF rows n b))) := by
  have HV := Lib.hid hv; have HM := Lib.hid hm; have HB := Lib.hid hE; have HB0 := Lib.hid hb; clear hv hm hE
  have HQ0 := Lib.hid (smT_start rows n b)
  rw [HQ0.out]
  obtain ⟨RA, rc, rfl, _⟩ := HV.out
  have HF := Lib.hid (MBox.mk' w n (.slice RA rows.length rc))
  have hd : decide (b < 0) = false := by simp; omega
  have hd2 : decide (62 < (n : Int)) = false := by simp; omega
  obtain ⟨s, hs1, hs2⟩ : ∃ s : Int, IntKind.i64.wrap ((2 : Int) ^ n) = s ∧ s ≤ 65536 := by
    refine ⟨_, rfl, ?_⟩
    have h2 : 2 ^ n ≤ 2 ^ 16 := Nat.pow_le_pow_right (by omega) (by omega)
    have h0 : 0 < 2 ^ n := Nat.two_pow_pos n
    have hc : (2 : Int) ^ n = ((2 ^ n : Nat) : Int) := by push_cast; rfl
    rw [hc, IntWalk.i64_in _ (by omega)]; omega
  have hd3 : decide (65536 < s) = false := by simp; omega
  go_enter Try.func28, Try.ntmps28
  go_wp2_with fail
  generalize hw0 : w.alloc (.cells #[.int .i64 (n : Int), .slice RA rows.length rc] 24) = w0 at *
  clear hw0
  have d0 := HF.out.d0; have d1 := HF.out.d1
  go_wp2_with fail
  refine (build_ok _ n _ rows (HV.out.below HF.out.bel (Nat.le_refl _)) HB.out).mono ?_
  rintro e w1 ⟨g, rfl, hg1, hb1⟩
  rw [Int.toNat_natCast] at hg1
  have HG1 := Lib.hid hg1.out
  have HF1 := Lib.hid (HF.out.on hb1); clear hb1 d0 d1 hg1
  have d0 := HF1.out.d0; have d1 := HF1.out.d1
  go_wp2_with fail
  refine (columns_any _ g n rows HG1.out HM.out.nn HM.out.rl).mono ?_
  rintro e w2 ⟨gC, rfl, hgC, hC2, hb2⟩
  have HF2 := Lib.hid (HF1.out.on hb2)
  have HC2 := Lib.hid hC2
  clear hb2 hC2 d0 d1 hd hd2 hd3 hs1 hs2
  go_wp2_with fail
  go_loopw [9] (fun i wr => ∃ t : Nat, 1 ≤ t ∧ t ≤ n + 1 ∧ i = .int .i64 (t : Int) ∧ Hid (smT rows n b 1 = smT rows n b t) ∧ Hid (RC wr gC n (fun q => colB rows rows.length q)) ∧ Hid (MBox w wr n (.slice RA rows.length rc))) (fun i _ => n + 1 - (intOf i).toNat)
  case atStart => exact ⟨1, by omega, by omega, rfl, rfl, HC2, HF2⟩
  case round =>
    clear HC2 HF2
    obtain ⟨t, ht1, ht2, rfl, HQ, HC, HFr⟩ := hrel
    have d0 := HFr.out.d0; have d1 := HFr.out.d1
    by_cases hlt : t ≤ n
    · have HZ : Hid (Value.agg #[.int .u64 0, .int .u64 0, .int .u64 0, .int .u64 0] = colV (parS rows [])) := hid' (by
        show _ = colV (fun _ => false)
        unfold colV
        rw [cwN_none, cwN_none, cwN_none, cwN_none]; rfl)
      go_wp2_with fail
      rw [HZ.out]
      refine (wi_any t (by omega) _ gC n 0 b (.slice none 0 0) rows [] HC.out (SI.none_ _) HM.out (okC_nil n) (Nat.zero_le _) HB0.out).mono ?_
      rintro e w3 ⟨u, rfl, hu, hb3⟩
      have HU := Lib.hid hu
      have HC3 := Lib.hid (HC.out.on hb3)
      have HF3 := Lib.hid (HFr.out.on hb3)
      clear hu hb3 d0 d1
      cases hsf : sF rows n b t 0 [] with
      | some l =>
        rw [hsf] at HU
        have HSQ := Lib.hid (smT_some hlt hsf)
        clear hsf
        go_wp2_with fail
        go_ret2
        rw [HQ.out, HSQ.out]
        exact ⟨_, rfl, HU.out l rfl, HF3.out.bel⟩
      | none =>
        have HSQ := Lib.hid (smT_none hlt hsf)
        clear hsf HU
        go_wp2_with fail
        exact ⟨⟨t + 1, by omega, by omega, by push_cast; rfl, hid' (HQ.out.trans HSQ.out), HC3, HF3⟩, by simp only [intOf]; omega⟩
    · have HE2 := Lib.hid (smT_out (rows := rows) (b := b) hlt)
      go_wp2_with fail
      go_ret2
      rw [HQ.out, HE2.out]
      exact ⟨_, rfl, SI.none_ _, HFr.out.bel⟩

set_option maxHeartbeats 8000000 in
theorem rSml_any (w : World) (n : Nat) (b : Int) (rv : Value) (rows : List (List Int)) (hv : SS w rv rows) (hm : MR n rows) :
    Calls Try.prog 29 #[.agg #[.int .i64 (n : Int), rv], .int .i64 b] w (RetSm w ((smF rows n b).getD []) (smR (smF rows n b))) := by
  have HV := Lib.hid hv; have HM := Lib.hid hm
  have hnn := hm.nn
  clear hv hm
  have HQ0 := Lib.hid (smT_start rows n b)
  rw [HQ0.out]
  obtain ⟨RA, rc, rfl, _⟩ := HV.out
  have HF := Lib.hid (MBox.mk' w n (.slice RA rows.length rc))
  go_enter Try.func29, Try.ntmps29
  go_wp2_with fail
  generalize hw0 : w.alloc (.cells #[.int .i64 (n : Int), .slice RA rows.length rc] 24) = w0 at *
  clear hw0
  go_loopw [6, 7] (fun i _ wr => ∃ t : Nat, 1 ≤ t ∧ t ≤ n + 1 ∧ i = .int .i64 (t : Int) ∧ Hid (smT rows n b 1 = smT rows n b t) ∧ Hid (MBox w wr n (.slice RA rows.length rc))) (fun i _ _ => n + 1 - (intOf i).toNat)
  case atStart => exact ⟨1, by omega, by omega, rfl, rfl, HF⟩
  case round =>
    clear HF
    obtain ⟨t, ht1, ht2, rfl, HQ, HFr⟩ := hrel
    have d0 := HFr.out.d0; have d1 := HFr.out.d1
    by_cases hlt : t ≤ n
    · go_wp2_with fail
      refine (srch_any t (by omega) _ n 0 b (.slice RA rows.length rc) (.slice none 0 0) rows [] (HV.out.below HFr.out.bel (Nat.le_refl _)) (SI.none_ _) HM.out (okC_nil n) (Nat.zero_le _)).mono ?_
      rintro e w3 ⟨u, rfl, hu, hb3⟩
      obtain ⟨UA, ul, uc, rfl, HUL, HU⟩ : ∃ UA ul uc, u = .slice UA ul uc ∧ Hid (((sF rows n b t 0 []).getD []).length = ul) ∧ Hid (SI w3 (.slice UA ul uc) ((sF rows n b t 0 []).getD [])) := by
        obtain ⟨UA, uc, rfl, _⟩ := id hu
        exact ⟨UA, _, uc, rfl, rfl, hu⟩
      have HF3 := Lib.hid (HFr.out.on hb3)
      clear hu hb3 d0 d1
      cases hsf : sF rows n b t 0 [] with
      | some l =>
        rw [hsf] at HUL HU
        have hll := sF_len hsf
        have HSQ := Lib.hid (smT_some hlt hsf)
        have hul : ul = l.length := HUL.out.symm
        have hpos : 0 < ul := by rw [hul, hll]; show 0 < 0 + t; omega
        clear hsf hll hul
        go_wp2_with fail
        go_ret2
        rw [HQ.out, HSQ.out]
        exact ⟨_, rfl, HU.out, HF3.out.bel⟩
      | none =>
        rw [hsf] at HUL
        have HSQ := Lib.hid (smT_none hlt hsf)
        have hul : ul = 0 := HUL.out.symm
        subst hul
        clear hsf HU HUL
        go_wp2_with fail
        exact ⟨⟨t + 1, by omega, by omega, by push_cast; rfl, hid' (HQ.out.trans HSQ.out), HF3⟩, by simp only [intOf]; omega⟩
    · have HE2 := Lib.hid (smT_out (rows := rows) (b := b) hlt)
      go_wp2_with fail
      go_ret2
      rw [HQ.out, HE2.out]
      exact ⟨_, rfl, SI.none_ _, HFr.out.bel⟩
end Go.Proofs.Ytgabhlalamnbgaa

/- The law MessageSmallest returns true for every input. -/
namespace Go.Proofs.Ytgabhlalamnbgaa
open Go.RowKit
set_option linter.unusedVariables false
set_option maxRecDepth 100000

set_option maxHeartbeats 16000000 in
theorem lawSmallest (w : World) {hv : Value} (hh : ∃ cols rv rows, hv = .agg #[.int .i64 cols, rv] ∧ SS w rv rows) (b : Int) :
    Calls Try.prog 6 #[hv, .int .i64 b] w (RetB w true) := by
  obtain ⟨cols, rv, rows, rfl, hv⟩ := hh
  have HV := Lib.hid hv; clear hv
  obtain ⟨RA, rc, rfl, _⟩ := HV.out
  have HF := Lib.hid (MBox.mk' w cols (.slice RA rows.length rc))
  have HM : Hid (matE 2 1 [] cols rows = bitE cols rows) := rfl
  generalize hr : rows.length = r at HF HV ⊢
  have HRR := Lib.hid hr; clear hr
  cases hf9 : few09 2000 cols rows
  · have HF9 := Lib.hid hf9; clear hf9
    go_enter Try.func6, Try.ntmps6
    go_wp2_with fail
    generalize hw0 : w.alloc (.cells #[.int .i64 cols, .slice RA r rc] 24) = w0 at *
    clear hw0
    have d0 := HF.out.d0; have d1 := HF.out.d1
    go_wp2_with fail
    refine (few09_any _ cols (.slice RA r rc) rows (HV.out.below HF.out.bel (Nat.le_refl _))).mono ?_
    rintro e w1 ⟨rfl, hb1⟩
    rw [HF9.out]
    have HB1 := Lib.hid (bl_trans HF.out.bel hb1); clear hb1
    go_wp2_with fail
    go_ret
    exact ⟨rfl, HB1.out⟩
  have HF9 := Lib.hid hf9; clear hf9
  by_cases hb : bitE cols rows = 0
  case neg =>
    have HBN := Lib.hid hb
    have hbb : (bitE cols rows != 0) = true := by rw [bne_iff_ne]; exact hb
    have hbe : (bitE cols rows == 0) = false := by rw [beq_eq_false_iff_ne]; exact hb
    have hee : (bitE cols rows == bitE cols rows) = true := by simp
    clear hb
    go_enter Try.func6, Try.ntmps6
    go_wp2_with fail
    generalize hw0 : w.alloc (.cells #[.int .i64 cols, .slice RA r rc] 24) = w0 at *
    clear hw0
    have d0 := HF.out.d0; have d1 := HF.out.d1
    go_wp2_with fail
    refine (few09_any _ cols (.slice RA r rc) rows (HV.out.below HF.out.bel (Nat.le_refl _))).mono ?_
    rintro e w1 ⟨rfl, hb1⟩
    rw [HF9.out]
    have HF1 := Lib.hid (HF.out.on hb1); clear hb1 d0 d1
    have d0 := HF1.out.d0; have d1 := HF1.out.d1
    go_wp2_with fail
    refine Kept.start (S := fun w' => w'.cell? ⟨w.heap.size, 0, none⟩ = some (.int .i64 cols) ∧ w'.cell? ⟨w.heap.size, 1, none⟩ = some (.slice RA r rc)) (by kernel_rfl) (⟨d0, d1⟩) (fun hHeld => ?_)
    change Kept _ _ _ _ 4 _ _ _
    refine Kept.take (i := 1) (v := ?_) rfl (by kernel_rfl) (by kernel_rfl) (by kernel_rfl) (fun _ _ _ h => h) (Or.inl ⟨by kernel_rfl, ?_⟩) hHeld ?_
    rotate_left
    · intro w' hSw; (try dsimp only at hSw); first | (go_simp; done) | (go_simp; with_reducible rfl)
    try simp only [List.getElem_toArray, List.getElem_cons_zero, List.getElem_cons_succ, Act.put, List.setIfInBounds_toArray, List.set_cons_zero, List.set_cons_succ]
    refine Kept.only (i := 0) (by kernel_rfl) rfl (fun K hK => ?_)
    go_simp
    refine (rTwo45_any _).mono ?_; rintro e w3 ⟨rfl, hb3⟩; have HF3 := Lib.hid ((HF1.out.on (bl_drew _)).on hb3); clear hb3; have e0 := HF3.out.d0; have e1 := HF3.out.d1
    refine hK.out _ _ (⟨e0, e1⟩) (fun hHeld2 => ?_)
    clear hK K
    replace hHeld := hHeld2
    clear hHeld2
    try simp only [List.getElem_toArray, List.getElem_cons_zero, List.getElem_cons_succ, Act.put, List.setIfInBounds_toArray, List.set_cons_zero, List.set_cons_succ]
    refine Kept.only (i := 2) (by kernel_rfl) rfl (fun K hK => ?_)
    go_simp
    refine (rMCheck_any _ 2 1 cols (.slice none 0 0) (.slice RA r rc) [] rows (SI.none_ _) (HV.out.below HF3.out.bel (Nat.le_refl _))).mono ?_; rintro e w4 ⟨rfl, hb4⟩; rw [HM.out]; have HF4 := Lib.hid (HF3.out.on hb4); clear hb4; have f0 := HF4.out.d0; have f1 := HF4.out.d1
    refine hK.out _ _ (⟨f0, f1⟩) (fun hHeld2 => ?_)
    clear hK K
    replace hHeld := hHeld2
    clear hHeld2
    try simp only [List.getElem_toArray, List.getElem_cons_zero, List.getElem_cons_succ, Act.put, List.setIfInBounds_toArray, List.set_cons_zero, List.set_cons_succ]
    refine Kept.only (i := 3) (by kernel_rfl) rfl (fun K hK => ?_)
    go_simp
    refine hK.out _ _ hHeld (fun hHeld2 => ?_)
    clear hK K
    clear hHeld2
    refine Kept.done (by kernel_rfl) ?_
    try simp only [List.getElem_toArray, List.getElem_cons_zero, List.getElem_cons_succ, Act.put, List.setIfInBounds_toArray, List.set_cons_zero, List.set_cons_succ]
    clear hHeld
    clear d0 d1 e0 e1
    go_wp2_with fail
    refine (mSml_bit _ cols b (.slice RA r rc) rows (HV.out.below HF4.out.bel (Nat.le_refl _)) HBN.out).mono ?_
    rintro e w5 ⟨u5, rfl, hu5, hb5⟩
    obtain ⟨A5, c5, rfl, _⟩ := hu5
    have HB5 := Lib.hid (bl_trans HF4.out.bel hb5); clear hb5 f0 f1
    rw [List.length_nil]
    go_wp2_with fail
    go_ret
    exact ⟨rfl, HB5.out⟩
  obtain ⟨n, hcn, hm⟩ := mr_of hb
  subst hcn
  have HB := Lib.hid hb; have HMR := Lib.hid hm
  clear hb hm
  rw [HB.out] at HM
  by_cases hb0 : b < 0
  · have hd : decide (b < 0) = true := decide_eq_true hb0
    go_enter Try.func6, Try.ntmps6
    go_wp2_with fail
    generalize hw0 : w.alloc (.cells #[.int .i64 n, .slice RA r rc] 24) = w0 at *
    clear hw0
    have d0 := HF.out.d0; have d1 := HF.out.d1
    go_wp2_with fail
    refine (few09_any _ n (.slice RA r rc) rows (HV.out.below HF.out.bel (Nat.le_refl _))).mono ?_
    rintro e w1 ⟨rfl, hb1⟩
    rw [HF9.out]
    have HF1 := Lib.hid (HF.out.on hb1); clear hb1 d0 d1
    have d0 := HF1.out.d0; have d1 := HF1.out.d1
    go_wp2_with fail
    refine Kept.start (S := fun w' => w'.cell? ⟨w.heap.size, 0, none⟩ = some (.int .i64 n) ∧ w'.cell? ⟨w.heap.size, 1, none⟩ = some (.slice RA r rc)) (by kernel_rfl) (⟨d0, d1⟩) (fun hHeld => ?_)
    change Kept _ _ _ _ 4 _ _ _
    refine Kept.take (i := 1) (v := ?_) rfl (by kernel_rfl) (by kernel_rfl) (by kernel_rfl) (fun _ _ _ h => h) (Or.inl ⟨by kernel_rfl, ?_⟩) hHeld ?_
    rotate_left
    · intro w' hSw; (try dsimp only at hSw); first | (go_simp; done) | (go_simp; with_reducible rfl)
    try simp only [List.getElem_toArray, List.getElem_cons_zero, List.getElem_cons_succ, Act.put, List.setIfInBounds_toArray, List.set_cons_zero, List.set_cons_succ]
    refine Kept.only (i := 0) (by kernel_rfl) rfl (fun K hK => ?_)
    go_simp
    refine (rTwo45_any _).mono ?_; rintro e w3 ⟨rfl, hb3⟩; have HF3 := Lib.hid ((HF1.out.on (bl_drew _)).on hb3); clear hb3; have e0 := HF3.out.d0; have e1 := HF3.out.d1
    refine hK.out _ _ (⟨e0, e1⟩) (fun hHeld2 => ?_)
    clear hK K
    replace hHeld := hHeld2
    clear hHeld2
    try simp only [List.getElem_toArray, List.getElem_cons_zero, List.getElem_cons_succ, Act.put, List.setIfInBounds_toArray, List.set_cons_zero, List.set_cons_succ]
    refine Kept.only (i := 2) (by kernel_rfl) rfl (fun K hK => ?_)
    go_simp
    refine (rMCheck_any _ 2 1 n (.slice none 0 0) (.slice RA r rc) [] rows (SI.none_ _) (HV.out.below HF3.out.bel (Nat.le_refl _))).mono ?_; rintro e w4 ⟨rfl, hb4⟩; rw [HM.out]; have HF4 := Lib.hid (HF3.out.on hb4); clear hb4; have f0 := HF4.out.d0; have f1 := HF4.out.d1
    refine hK.out _ _ (⟨f0, f1⟩) (fun hHeld2 => ?_)
    clear hK K
    replace hHeld := hHeld2
    clear hHeld2
    try simp only [List.getElem_toArray, List.getElem_cons_zero, List.getElem_cons_succ, Act.put, List.setIfInBounds_toArray, List.set_cons_zero, List.set_cons_succ]
    refine Kept.only (i := 3) (by kernel_rfl) rfl (fun K hK => ?_)
    go_simp
    refine hK.out _ _ hHeld (fun hHeld2 => ?_)
    clear hK K
    clear hHeld2
    refine Kept.done (by kernel_rfl) ?_
    try simp only [List.getElem_toArray, List.getElem_cons_zero, List.getElem_cons_succ, Act.put, List.setIfInBounds_toArray, List.set_cons_zero, List.set_cons_succ]
    clear hHeld
    clear d0 d1 e0 e1
    go_wp2_with fail
    refine (mSml_no _ n b (.slice RA r rc) rows (HV.out.below HF4.out.bel (Nat.le_refl _)) HB.out HMR.out hb0).mono ?_
    rintro e w5 ⟨u5, rfl, hu5, hb5⟩
    obtain ⟨A5, c5, rfl, _⟩ := hu5
    have HB5 := Lib.hid (bl_trans HF4.out.bel hb5); clear hb5 f0 f1
    rw [List.length_nil]
    go_wp2_with fail
    go_ret
    exact ⟨rfl, HB5.out⟩
  have hd : decide (b < 0) = false := decide_eq_false hb0
  by_cases hn : 16 < n
  · have hd2 : decide (16 < (n : Int)) = true := by simp; omega
    go_enter Try.func6, Try.ntmps6
    go_wp2_with fail
    generalize hw0 : w.alloc (.cells #[.int .i64 n, .slice RA r rc] 24) = w0 at *
    clear hw0
    have d0 := HF.out.d0; have d1 := HF.out.d1
    go_wp2_with fail
    refine (few09_any _ n (.slice RA r rc) rows (HV.out.below HF.out.bel (Nat.le_refl _))).mono ?_
    rintro e w1 ⟨rfl, hb1⟩
    rw [HF9.out]
    have HF1 := Lib.hid (HF.out.on hb1); clear hb1 d0 d1
    have d0 := HF1.out.d0; have d1 := HF1.out.d1
    go_wp2_with fail
    refine Kept.start (S := fun w' => w'.cell? ⟨w.heap.size, 0, none⟩ = some (.int .i64 n) ∧ w'.cell? ⟨w.heap.size, 1, none⟩ = some (.slice RA r rc)) (by kernel_rfl) (⟨d0, d1⟩) (fun hHeld => ?_)
    change Kept _ _ _ _ 4 _ _ _
    refine Kept.take (i := 1) (v := ?_) rfl (by kernel_rfl) (by kernel_rfl) (by kernel_rfl) (fun _ _ _ h => h) (Or.inl ⟨by kernel_rfl, ?_⟩) hHeld ?_
    rotate_left
    · intro w' hSw; (try dsimp only at hSw); first | (go_simp; done) | (go_simp; with_reducible rfl)
    try simp only [List.getElem_toArray, List.getElem_cons_zero, List.getElem_cons_succ, Act.put, List.setIfInBounds_toArray, List.set_cons_zero, List.set_cons_succ]
    refine Kept.only (i := 0) (by kernel_rfl) rfl (fun K hK => ?_)
    go_simp
    refine (rTwo45_any _).mono ?_; rintro e w3 ⟨rfl, hb3⟩; have HF3 := Lib.hid ((HF1.out.on (bl_drew _)).on hb3); clear hb3; have e0 := HF3.out.d0; have e1 := HF3.out.d1
    refine hK.out _ _ (⟨e0, e1⟩) (fun hHeld2 => ?_)
    clear hK K
    replace hHeld := hHeld2
    clear hHeld2
    try simp only [List.getElem_toArray, List.getElem_cons_zero, List.getElem_cons_succ, Act.put, List.setIfInBounds_toArray, List.set_cons_zero, List.set_cons_succ]
    refine Kept.only (i := 2) (by kernel_rfl) rfl (fun K hK => ?_)
    go_simp
    refine (rMCheck_any _ 2 1 n (.slice none 0 0) (.slice RA r rc) [] rows (SI.none_ _) (HV.out.below HF3.out.bel (Nat.le_refl _))).mono ?_; rintro e w4 ⟨rfl, hb4⟩; rw [HM.out]; have HF4 := Lib.hid (HF3.out.on hb4); clear hb4; have f0 := HF4.out.d0; have f1 := HF4.out.d1
    refine hK.out _ _ (⟨f0, f1⟩) (fun hHeld2 => ?_)
    clear hK K
    replace hHeld := hHeld2
    clear hHeld2
    try simp only [List.getElem_toArray, List.getElem_cons_zero, List.getElem_cons_succ, Act.put, List.setIfInBounds_toArray, List.set_cons_zero, List.set_cons_succ]
    refine Kept.only (i := 3) (by kernel_rfl) rfl (fun K hK => ?_)
    go_simp
    refine hK.out _ _ hHeld (fun hHeld2 => ?_)
    clear hK K
    clear hHeld2
    refine Kept.done (by kernel_rfl) ?_
    try simp only [List.getElem_toArray, List.getElem_cons_zero, List.getElem_cons_succ, Act.put, List.setIfInBounds_toArray, List.set_cons_zero, List.set_cons_succ]
    clear hHeld
    clear d0 d1 e0 e1
    go_wp2_with fail
    refine (mSml_big _ n b (.slice RA r rc) rows (HV.out.below HF4.out.bel (Nat.le_refl _)) HB.out HMR.out (by omega) hn).mono ?_
    rintro e w5 ⟨u5, rfl, hu5, hb5⟩
    obtain ⟨A5, c5, rfl, _⟩ := hu5
    have HB5 := Lib.hid (bl_trans HF4.out.bel hb5); clear hb5 f0 f1
    rw [List.length_nil]
    go_wp2_with fail
    go_ret
    exact ⟨rfl, HB5.out⟩
  have hd2 : decide (16 < (n : Int)) = false := by simp; omega
  go_enter Try.func6, Try.ntmps6
  go_wp2_with fail
  generalize hw0 : w.alloc (.cells #[.int .i64 n, .slice RA r rc] 24) = w0 at *
  clear hw0
  have d0 := HF.out.d0; have d1 := HF.out.d1
  go_wp2_with fail
  refine (few09_any _ n (.slice RA r rc) rows (HV.out.below HF.out.bel (Nat.le_refl _))).mono ?_
  rintro e w1 ⟨rfl, hb1⟩
  rw [HF9.out]
  have HF1 := Lib.hid (HF.out.on hb1); clear hb1 d0 d1
  have d0 := HF1.out.d0; have d1 := HF1.out.d1
  go_wp2_with fail
  refine Kept.start (S := fun w' => w'.cell? ⟨w.heap.size, 0, none⟩ = some (.int .i64 n) ∧ w'.cell? ⟨w.heap.size, 1, none⟩ = some (.slice RA r rc)) (by kernel_rfl) (⟨d0, d1⟩) (fun hHeld => ?_)
  change Kept _ _ _ _ 4 _ _ _
  refine Kept.take (i := 1) (v := ?_) rfl (by kernel_rfl) (by kernel_rfl) (by kernel_rfl) (fun _ _ _ h => h) (Or.inl ⟨by kernel_rfl, ?_⟩) hHeld ?_
  rotate_left
  · intro w' hSw; (try dsimp only at hSw); first | (go_simp; done) | (go_simp; with_reducible rfl)
  try simp only [List.getElem_toArray, List.getElem_cons_zero, List.getElem_cons_succ, Act.put, List.setIfInBounds_toArray, List.set_cons_zero, List.set_cons_succ]
  refine Kept.only (i := 0) (by kernel_rfl) rfl (fun K hK => ?_)
  go_simp
  refine (rTwo45_any _).mono ?_; rintro e w3 ⟨rfl, hb3⟩; have HF3 := Lib.hid ((HF1.out.on (bl_drew _)).on hb3); clear hb3; have e0 := HF3.out.d0; have e1 := HF3.out.d1
  refine hK.out _ _ (⟨e0, e1⟩) (fun hHeld2 => ?_)
  clear hK K
  replace hHeld := hHeld2
  clear hHeld2
  try simp only [List.getElem_toArray, List.getElem_cons_zero, List.getElem_cons_succ, Act.put, List.setIfInBounds_toArray, List.set_cons_zero, List.set_cons_succ]
  refine Kept.only (i := 2) (by kernel_rfl) rfl (fun K hK => ?_)
  go_simp
  refine (rMCheck_any _ 2 1 n (.slice none 0 0) (.slice RA r rc) [] rows (SI.none_ _) (HV.out.below HF3.out.bel (Nat.le_refl _))).mono ?_; rintro e w4 ⟨rfl, hb4⟩; rw [HM.out]; have HF4 := Lib.hid (HF3.out.on hb4); clear hb4; have f0 := HF4.out.d0; have f1 := HF4.out.d1
  refine hK.out _ _ (⟨f0, f1⟩) (fun hHeld2 => ?_)
  clear hK K
  replace hHeld := hHeld2
  clear hHeld2
  try simp only [List.getElem_toArray, List.getElem_cons_zero, List.getElem_cons_succ, Act.put, List.setIfInBounds_toArray, List.set_cons_zero, List.set_cons_succ]
  refine Kept.only (i := 3) (by kernel_rfl) rfl (fun K hK => ?_)
  go_simp
  refine hK.out _ _ hHeld (fun hHeld2 => ?_)
  clear hK K
  clear hHeld2
  refine Kept.done (by kernel_rfl) ?_
  try simp only [List.getElem_toArray, List.getElem_cons_zero, List.getElem_cons_succ, Act.put, List.setIfInBounds_toArray, List.set_cons_zero, List.set_cons_succ]
  clear hHeld
  clear d0 d1 e0 e1
  go_wp2_with fail
  refine (few45_any _ 10 10 n (.slice RA r rc) rows (HV.out.below HF4.out.bel (Nat.le_refl _))).mono ?_
  rintro e w7 ⟨rfl, hb7⟩
  have HF7 := Lib.hid (HF4.out.on hb7)
  clear hb7 f0 f1
  have d0 := HF7.out.d0; have d1 := HF7.out.d1
  cases few45 10 10 n rows
  · go_wp2_with fail
    go_ret
    exact ⟨rfl, HF7.out.bel⟩
  · go_wp2_with fail
    refine (mSml_ok _ n b (.slice RA r rc) rows (HV.out.below HF7.out.bel (Nat.le_refl _)) HB.out HMR.out (by omega) (by omega)).mono ?_
    rintro e w8 ⟨u8, rfl, hs8, hb8⟩
    have HS8 := Lib.hid hs8
    have HF8 := Lib.hid (HF7.out.on hb8)
    clear hb8 hs8 d0 d1
    have d0 := HF8.out.d0; have d1 := HF8.out.d1
    go_wp2_with fail
    refine (rSml_any _ n b (.slice RA r rc) rows (HV.out.below HF8.out.bel (Nat.le_refl _)) HMR.out).mono ?_
    rintro e w9 ⟨u9, rfl, hs9, hb9⟩
    have HS9 := Lib.hid hs9
    have HS89 := Lib.hid (HS8.out.below hb9 (Nat.le_refl _))
    have HB9 := Lib.hid (bl_trans HF8.out.bel hb9)
    clear hb9 hs9 d0 d1 HS8
    generalize smR (smF rows n b) = er at *
    go_wp2_with fail
    refine (rSameInts_any _ _ _ _ _ HS89.out HS9.out).mono ?_
    rintro e w10 ⟨rfl, hb10⟩
    rw [decide_eq_true (rfl : (smF rows n b).getD [] = (smF rows n b).getD [])]
    have HB10 := Lib.hid (bl_trans HB9.out hb10)
    clear hb10
    go_wp2_with fail
    go_ret
    exact ⟨rfl, HB10.out⟩
end Go.Proofs.Ytgabhlalamnbgaa

/- MessageSmallest: the law returns true for every input; each argument reads behind the call as it read before. The walk is in LSmall. -/
namespace Go.Proofs.Ytgabhlalamnbgaa.messageSmallest
open Go.ChangeShapes Go.WideShapes Go.ChangeAt Go.RowKit
set_option linter.unusedVariables false

set_option maxRecDepth 100000 in
theorem lifted (os : Os) (started : os.Started) (H : Type) (enc : TypeId × Value → H) :
    ReturnsInHanded {} Try.checked os 6 .any (Rows.messageSmallestSpec.pre6 enc Try.prog Try.f6 Rows.messageSmallestRow.domain false) (Rows.messageSmallestSpec.post enc Try.prog Try.f6 false true false false) := by
  refine returnsInHanded_of_change_sized (C := Try.checked) own started (by kernel_rfl) Try.func6
    (ChangeSpec.witness6 (enc := enc) (C := Try.checked) false ⟨#[], #[.agg #[.int .i64 0, .slice none 0 0], .int .i64 0], []⟩ 8 (by kernel_rfl) (by kernel_rfl) (by kernel_rfl) (by kernel_rfl)) ?_
  intro W base args ds gs before hval0 hW _ hsz0 _
  have hsz : (DataW.weightsEach Try.prog (Try.f6.params.toList ++ Rows.messageSmallestSpec.plain.varTypes Try.prog) (ds ++ gs)).all (· ≤ reachBytes) = true := hsz0
  have hval : ∀ (j : Nat) t v, Try.f6.params[j]? = some t → args[j]? = some v → Value.okWide Try.prog W .any base t v := hval0
  have hW' := hW
  obtain ⟨p, q, hA0, hV, rfl, hfz, hnd⟩ := hW
  have hA : DataW.TrodAll enc Try.prog W 0 (fun _ => true) true Try.f6.params.toList args.toList ds p := hA0
  rw [Try.params6] at hA hval hsz
  obtain ⟨v0, vs0, d0, ds0, p0, q0, hargs, rfl, rfl, h0, r0'⟩ := trodAll_cons hA
  obtain ⟨v1, vs1, d1, ds1, p1, q1, rfl, rfl, rfl, h1, r1'⟩ := trodAll_cons r0'
  obtain ⟨rfl, rfl, rfl⟩ := trodAll_nil r1'
  obtain rfl : args = #[v0, v1] := by cases args; simp_all
  obtain ⟨rfl, rfl⟩ := trodVars_none hV
  have k0 := h0
  have r0 := open_Matrix h0 (hval 0 24 v0 rfl rfl) (weigh hsz 0 rfl rfl)
  obtain ⟨a1, rfl, rfl, rfl, w1⟩ := open_int Try.underlying3 (hval 1 3 v1 rfl rfl) h1
  clear hA0 hval0
  refine (lawSmallest W r0 a1).mono fun e W' ⟨he, bel⟩ => ?_
  subst he
  exact ⟨_, rfl, _, _, _, [], _, [], hW', trodAll_mk1 (shut_bool Try.underlying4 _), (trodAll_cons_mk (Below.trod laidOut (by kernel_rfl) (of_decide_eq_true (by kernel_rfl)) k0 bel (lt_of_trod k0)) (trodAll_cons_mk (shut_int Try.underlying3 w1) trodAll_mk0)), rfl, bel.frame _, fun h => by cases h⟩

theorem proved : Rows.MessageSmallestSaid :=
  OpenClaim.holds_of_wide 6 Try.f6 rfl rfl rfl rfl rfl rfl rfl ⟨rfl, rfl, rfl, rfl, rfl⟩ rfl rfl rfl rfl rfl (by kernel_rfl) Try.func6 (by kernel_rfl)
    (of_decide_eq_true (by kernel_rfl)) (by unfold Func.isWrapper; first | (rw [if_pos (by decide +kernel)]; kernel_rfl) | (rw [if_neg (by decide +kernel)]; exact ⟨rfl, rfl⟩))
    (fun os started H enc _ => lifted os started H enc)
#print axioms proved
end Go.Proofs.Ytgabhlalamnbgaa.messageSmallest
