/- Texts of a claim, merged: words, plain facts and walks that the last of its texts uses. -/
import Derived.Test.YtdbpbmehcifjpaaQ1
import Derived.Test.YtdbpbmehcifjpaaQ7
import Derived.Test.YtdbpbmehcifjpaaQ11
import Derived.Test.YtdbpbmehcifjpaaQ12
import Derived.Deep.RegionHeld3
import Derived.Deep.RegionLaw
import Derived.Deep.DeepMust
import Derived.Laws.EntriesVeiled
import Derived.StillTailTactics
import Derived.Deep.QuietTactic
import Derived.BigQuiet
set_option linter.unusedSimpArgs false
set_option linter.unusedVariables false

/- classic.Monomials: the closure that adds variables calls itself; contract by induction. -/
namespace Go.Proofs.Ytdbpbmehcifjpaa
open Go.RowKit
set_option linter.unusedVariables false
set_option maxRecDepth 100000

/-- two blocks alone may have turned -/
structure Two (w w' : World) (b : Nat) (row : Option Nat) : Prop where
  os : w'.os = w.os
  tape : w'.tape = w.tape
  output : w'.output = w.output
  size : w.heap.size ≤ w'.heap.size
  block : ∀ k, k < w.heap.size → k ≠ b → some k ≠ row → w'.heap[k]? = w.heap[k]?
theorem Two.refl (w : World) (b : Nat) (row : Option Nat) : Two w w b row := ⟨rfl, rfl, rfl, Nat.le_refl _, fun _ _ _ _ => rfl⟩
theorem Two.grown {w0 w w' : World} {b : Nat} {row r2 : Option Nat} (h : Two w0 w b row) (hg : w.grownBy w' r2) (hr : ∀ g, r2 = some g → g < w0.heap.size → g = b ∨ row = some g) : Two w0 w' b row :=
  ⟨hg.os.trans h.os, hg.tape.trans h.tape, hg.output.trans h.output, Nat.le_trans h.size hg.size, fun k hk hb hne => (hg.block k (Nat.lt_of_lt_of_le hk h.size) (fun e => by
    rcases hr k e.symm hk with e2 | e2
    · exact hb e2
    · exact hne e2.symm)).trans (h.block k hk hb hne)⟩
theorem Two.trans {w0 w w' : World} {b : Nat} {row r2 : Option Nat} (h : Two w0 w b row) (hg : Two w w' b r2) (hr : ∀ g, r2 = some g → g < w0.heap.size → row = some g) : Two w0 w' b row :=
  ⟨hg.os.trans h.os, hg.tape.trans h.tape, hg.output.trans h.output, Nat.le_trans h.size hg.size, fun k hk hb hne => (hg.block k (Nat.lt_of_lt_of_le hk h.size) hb (fun e => hne (hr k e.symm hk).symm)).trans (h.block k hk hb hne)⟩
theorem Two.below {w0 w : World} {b B : Nat} {row : Option Nat} {a : World} (h : Two w0 w b row) (ha : Below B a w0) (hb : B ≤ b) (hB : B ≤ w0.heap.size) (hr : ∀ g, row = some g → B ≤ g) : Below B a w :=
  ha.trans ⟨h.os, h.tape, h.output, h.size, fun k hk => h.block k (by omega) (by omega) (fun e => by have := hr k e.symm; omega)⟩

/-- what the closure's captured variables hold -/
structure MI (w : World) (Bs Bo Bm Ba B : Nat) (size m : Nat) (v : Value) (outs : List (List Int)) : Prop where
  s : Blk w Bs 3 [.int .i64 (size : Int)]
  m : Blk w Bm 3 [.int .i64 (m : Int)]
  a : Blk w Ba 75 [.func (.func 60) #[] #[.pointer (some ⟨Bs, 0, none⟩), .pointer (some ⟨Bo, 0, none⟩), .pointer (some ⟨Bm, 0, none⟩), .pointer (some ⟨Ba, 0, none⟩)]]
  o : Blk w Bo 25 [v]
  os : OS B (fun g => g = Bo) w v outs
theorem OS.ne_blk {B : Nat} {X : Nat → Prop} {w : World} {v : Value} {xss : List (List Int)} (h : OS B X w v xss) {g : Nat} {t : TypeId} {cs : List Value} (hb : Blk w g t cs) (ht : t ≠ 22) : v.ownBlock ≠ some g := by
  obtain ⟨us, ho, _⟩ := h
  intro e
  rcases ho.2 with ⟨rfl, _⟩ | ⟨g', cap, cur, rfl, _, hh, _⟩
  · simp [Value.ownBlock] at e
  · simp [Value.ownBlock] at e
    subst e
    unfold Blk at hb
    rw [hh] at hb
    injection hb with hb
    injection hb with _ hb2
    exact ht hb2.symm
theorem Blk.ne_blk {w : World} {g g' : Nat} {t t' : TypeId} {cs cs' : List Value} (h : Blk w g t cs) (h' : Blk w g' t' cs') (ht : t ≠ t') : g ≠ g' := by
  rintro rfl
  unfold Blk at h h'
  rw [h] at h'
  injection h' with h'
  injection h' with _ h2
  exact ht h2

/-- what the closure leaves -/
def MonoPost (w : World) (Bs Bo Bm Ba B : Nat) (size m : Nat) (v : Value) (outs : List (List Int)) (e : Ending) (w' : World) : Prop :=
  ∃ v', e = .returned (.tuple #[]) ∧ MI w' Bs Bo Bm Ba B size m v' outs ∧ (v'.ownBlock = v.ownBlock ∨ ∃ g, v'.ownBlock = some g ∧ w.heap.size ≤ g) ∧ Two w w' Bo v.ownBlock

theorem si_wf {w : World} {v : Value} {xs : List Int} (h : SI w v xs) : ∀ k, I64 (xs.getD k 0) := by
  obtain ⟨_, _, _, h⟩ := h
  exact h.wf
theorem push_cell {w w' : World} {o : Obj} {b : Nat} {t : TypeId} {v : Value} {row : Option Nat} (h : Blk w b t [v]) (hg : (w.alloc o).grownBy w' row) (hne : row ≠ some b) : w'.cell? ⟨b, 0, none⟩ = some v :=
  ((h.alloc o).grown hg (fun e => hne e.symm)).cell 0
theorem push_frozen {w w' : World} {o : Obj} {b : Nat} {t : TypeId} {v : Value} {row : Option Nat} (h : Blk w b t [v]) (hg : (w.alloc o).grownBy w' row) (hne : row ≠ some b) : w'.frozen? ⟨b, 0, none⟩ = false :=
  ((h.alloc o).grown hg (fun e => hne e.symm)).frozen 0
theorem clone_apart {w w1 : World} {B Bo : Nat} {v u : Value} {vars : List Int} {outs : List (List Int)} (hu : OI w.heap.size w1 u vars) (ho : OS B (fun g => g = Bo) w v outs) (hb : Bo < w.heap.size) :
    ∀ g, u.ownBlock = some g → v.ownBlock ≠ some g ∧ ¬ (g = Bo) := fun g hg => by
  have h1 := (hu.lt hg).1
  exact ⟨fun e => by have := (ho.lt e).2; omega, by omega⟩

theorem mono_push {w w1 w2 : World} {Bs Bo Bm Ba B size m : Nat} {v v1 : Value} {outs outs' : List (List Int)} {ob : Obj} (H : MI w Bs Bo Bm Ba B size m v outs) (hb : Below w.heap.size w w1)
    (hg : (w1.alloc ob).grownBy w2 v.ownBlock) (ho : OS B (fun g => g = Bo) w2 v1 outs') (hv1 : v1.ownBlock = v.ownBlock ∨ v1.ownBlock = some (w1.alloc ob).heap.size) :
    MI (w2.setCell ⟨Bo, 0, none⟩ v1) Bs Bo Bm Ba B size m v1 outs' ∧ (v1.ownBlock = v.ownBlock ∨ ∃ g, v1.ownBlock = some g ∧ w.heap.size ≤ g) ∧ Two w (w2.setCell ⟨Bo, 0, none⟩ v1) Bo v.ownBlock := by
  have bo2 : Blk w2 Bo 25 [v] := ((H.o.belowS hb).alloc ob).grown hg (fun e => H.os.ne_blk H.o (by decide) e.symm)
  have hset : w2.grownBy (w2.setCell ⟨Bo, 0, none⟩ v1) (some Bo) := gr_setCell (World.grownBy.refl _ _) (.inl rfl) _
  refine ⟨⟨?_, ?_, ?_, ?_, ?_⟩, ?_, ?_⟩
  · exact (((H.s.belowS hb).alloc ob).grown hg (fun e => H.os.ne_blk H.s (by decide) e.symm)).far (H.s.ne_blk H.o (by decide)) _
  · exact (((H.m.belowS hb).alloc ob).grown hg (fun e => H.os.ne_blk H.m (by decide) e.symm)).far (H.m.ne_blk H.o (by decide)) _
  · exact (((H.a.belowS hb).alloc ob).grown hg (fun e => H.os.ne_blk H.a (by decide) e.symm)).far (H.a.ne_blk H.o (by decide)) _
  · exact bo2.set_ 0 v1
  · exact ho.grown hset (fun g hg' => by injection hg' with hg'; subst hg'; exact ⟨ho.ne_blk bo2 (by decide), rfl⟩)
  · rcases hv1 with h | h
    · exact .inl h
    · exact .inr ⟨_, h, by have := hb.size; simp; omega⟩
  · have h1 : Two w w1 Bo v.ownBlock := (Two.refl w Bo _).grown (gr_below hb none) (fun g hg' => by cases hg')
    have h2 : Two w (w1.alloc ob) Bo v.ownBlock := h1.grown (World.grownBy_alloc w1 ob none) (fun g hg' => by cases hg')
    have h3 : Two w w2 Bo v.ownBlock := h2.grown hg (fun g hg' _ => .inr hg')
    exact h3.grown hset (fun g hg' _ => .inl (by injection hg' with hg'; exact hg'.symm))

set_option maxHeartbeats 8000000 in
theorem mono1_leaf (w : World) (Bs Bo Bm Ba B : Nat) (size m lo : Nat) (vv v : Value) (vars : List Int) (outs : List (List Int)) (h : MI w Bs Bo Bm Ba B size m v outs) (hB : B ≤ w.heap.size) (hv : SI w vv vars)
    (hl : vars.length = size) (hs : size ≤ 6) (hm : m ≤ 6) (hout : outs.length ≤ 100000000) :
    Calls Try.prog 60 #[.int .i64 (lo : Int), vv, .pointer (some ⟨Bs, 0, none⟩), .pointer (some ⟨Bo, 0, none⟩), .pointer (some ⟨Bm, 0, none⟩), .pointer (some ⟨Ba, 0, none⟩)] w
      (MonoPost w Bs Bo Bm Ba B size m v (outs ++ [vars])) := by
  have HV := Lib.hid hv
  obtain ⟨VA, vc, rfl, hv⟩ := hv
  clear hv
  have cs : w.cell? ⟨Bs, 0, none⟩ = some (.int .i64 (size : Int)) := h.s.cell 0
  have co : w.cell? ⟨Bo, 0, none⟩ = some v := h.o.cell 0
  have hsz : (((vars.length : Nat) : Int) == ((size : Nat) : Int)) = true := by simp [hl]
  have H := Lib.hid h; clear h
  have hvl : vars.length ≤ 6 := by omega
  have HL := Lib.hid hl; clear hl
  go_enter Try.func60, Try.ntmps60
  go_wp2_with fail
  have hne : v.ownBlock ≠ some Bo := H.out.os.ne_blk H.out.o (by decide)
  go_region_law (first
    | (refine step_pushS rfl _ _ rfl B (fun g => g = Bo) v outs rfl (HOS1.out.alloc _) _ 1 _ vars rfl (by simp [go_sem]) HU.out (HUX.out) (by omega) (by simp; omega) ?_; intro v1 w2 ho hg hv1; obtain ⟨A1, c1, rfl⟩ := ho.form; have c3 := push_cell (H.out.o.belowS HB1.out) hg hne; have f3 := push_frozen (H.out.o.belowS HB1.out) hg hne)
    | (go_simp; go_at_call 61; go_must (refine (clone_any _ _ vars (HV.out.below (bl_drew _) (Nat.le_refl _))).mono ?_; rintro e w1 ⟨u, rfl, hu, hb⟩; have HB1 := Lib.hid (bl_trans (bl_drew _) hb); have co1 := cell_below HB1.out co; have co2 := fun (o : Obj) => cell_below (bl_alloc w1 o) co1; have HOS1 := Lib.hid (H.out.os.below HB1.out); have hsu := hu.si (by omega) (si_wf HV.out); have HUX := Lib.hid (fun (_ : 0 < vars.length) => clone_apart (w := w) hu H.out.os H.out.o.lt); obtain ⟨UA, uc, rfl, hsu⟩ := hsu; have HU := Lib.hid (hsu.si.below (bl_alloc w1 (.cells #[.slice UA vars.length uc] 22)) (Nat.le_refl _)); have hbs := HB1.out.size; clear hb hu hsu)))
  all_goals
    go_wp2_with fail
    have HP := mono_push H.out HB1.out hg ho hv1
    rw [List.length_append, List.length_singleton] at HP
    refine bodyPost_ret (results_none rfl _ _ _) rfl ?_
    exact ⟨_, rfl, HP.1, HP.2.1, HP.2.2⟩

theorem MI.two {w w' : World} {Bs Bo Bm Ba B size m : Nat} {v v' : Value} {outs outs' : List (List Int)} (h : MI w Bs Bo Bm Ba B size m v outs) (h' : MI w' Bs Bo Bm Ba B size m v' outs') : True := trivial
theorem SI.two {w w' : World} {b : Nat} {row : Option Nat} {v : Value} {xs : List Int} (h : SI w v xs) (ht : Two w w' b row) (hne : 0 < xs.length → ∀ g, v.ownBlock = some g → row ≠ some g ∧ g ≠ b) : SI w' v xs := by
  obtain ⟨A, c, rfl, h⟩ := h
  refine ⟨A, c, rfl, h.len, h.cap, fun k hk' => ?_, h.wf⟩
  obtain ⟨ad, e, hc⟩ := h.cell k hk'
  refine ⟨ad, e, ?_⟩
  have hlt := World.block_lt_of_cell? _ _ hc
  have hn := hne (by omega) (ad.add k).block (by rw [block_of_add, e]; rfl)
  rw [World.cell?_of_block (w := w) (ht.block _ hlt hn.2 (fun e2 => hn.1 e2.symm))]
  exact hc

theorem bl_gr {a w : World} (h : a.grownBy w none) : Below a.heap.size a w := ⟨h.os, h.tape, h.output, h.size, fun k hk => h.block k hk (by simp)⟩
theorem MI.below {w w' : World} {Bs Bo Bm Ba B size m : Nat} {v : Value} {outs : List (List Int)} (h : MI w Bs Bo Bm Ba B size m v outs) (hb : Below w.heap.size w w') : MI w' Bs Bo Bm Ba B size m v outs :=
  ⟨h.s.belowS hb, h.m.belowS hb, h.a.belowS hb, h.o.belowS hb, h.os.below hb⟩
theorem si_at {w : World} {A : Option Addr} {n c : Nat} {xs : List Int} (h : SI w (.slice A n c) xs) : SIat w A c xs := by
  obtain ⟨A', c', e, h⟩ := h
  injection e with e1 e2 e3
  subst e1; subst e3
  exact h
theorem app_wf {xs : List Int} {c : Nat} (h : ∀ k, I64 (xs.getD k 0)) (hc : c ≤ 1000) : ∀ k, I64 ((xs ++ [(c : Int)]).getD k 0) := by
  intro k
  rcases Nat.lt_trichotomy k xs.length with h1 | h1 | h1
  · have := h k
    simpa [List.getD, List.getElem?_append_left h1] using this
  · subst h1
    simp [List.getD]
    exact I64.of_small (by omega) (by omega)
  · simp [List.getD, List.getElem?_append_right (Nat.le_of_lt h1)]
    rw [List.getElem?_eq_none (by simp; omega)]
    exact I64.zero
theorem own_next {w w2 : World} {v v' v3 : Value} (h3 : v3.ownBlock = v'.ownBlock ∨ ∃ g, v3.ownBlock = some g ∧ w2.heap.size ≤ g) (h : v'.ownBlock = v.ownBlock ∨ ∃ g, v'.ownBlock = some g ∧ w.heap.size ≤ g) (hs : w.heap.size ≤ w2.heap.size) :
    v3.ownBlock = v.ownBlock ∨ ∃ g, v3.ownBlock = some g ∧ w.heap.size ≤ g := by
  rcases h3 with h3 | ⟨g, h3, hg⟩
  · rw [h3]; exact h
  · exact .inr ⟨g, h3, by omega⟩
theorem grown_apart {w w2 : World} {o : Obj} {Bs Bo Bm Ba B size m : Nat} {u v : Value} {xs : List Int} {outs : List (List Int)} (h : OI (w.alloc o).heap.size w2 u xs) (H : MI w Bs Bo Bm Ba B size m v outs) (hb : Below w.heap.size w w2) :
    0 < xs.length → ∀ g, u.ownBlock = some g → v.ownBlock ≠ some g ∧ g ≠ Bo := fun _ g hg => by
  have h1 := (h.lt hg).1
  have h2 : w.heap.size < (w.alloc o).heap.size := by simp
  exact ⟨fun e => by have := (H.os.lt e).2; omega, by have := H.o.lt; omega⟩

set_option maxHeartbeats 16000000 in
theorem mono1_any (m : Nat) (hm : m ≤ 6) (f : Nat) : ∀ (w : World) (Bs Bo Bm Ba B size lo : Nat) (loI : Int) (vv v : Value) (vars : List Int) (outs : List (List Int)), loI = (lo : Int) → m - lo ≤ f → lo ≤ m → MI w Bs Bo Bm Ba B size m v outs → B ≤ w.heap.size → SI w vv vars →
    (0 < vars.length → ∀ g, vv.ownBlock = some g → v.ownBlock ≠ some g ∧ g ≠ Bo) → size ≤ 6 → vars.length ≤ lo → outs.length + (m + 1) ^ f ≤ 100000000 →
    Calls Try.prog 60 #[.int .i64 loI, vv, .pointer (some ⟨Bs, 0, none⟩), .pointer (some ⟨Bo, 0, none⟩), .pointer (some ⟨Bm, 0, none⟩), .pointer (some ⟨Ba, 0, none⟩)] w
      (MonoPost w Bs Bo Bm Ba B size m v (outs ++ addG size m f lo vars)) := by
  induction f with
  | zero =>
    intro w Bs Bo Bm Ba B size lo loI vv v vars outs hlI hf hlo H hB hv hvx hs hvl hout
    subst hlI
    by_cases hl : vars.length = size
    · rw [addG_leaf hl]
      exact mono1_leaf w Bs Bo Bm Ba B size m lo vv v vars outs H hB hv hl hs hm (by omega)
    · obtain ⟨VA, vc, rfl, hv⟩ := hv
      clear hv hvx
      have cs : w.cell? ⟨Bs, 0, none⟩ = some (.int .i64 (size : Int)) := H.s.cell 0
      have cm : w.cell? ⟨Bm, 0, none⟩ = some (.int .i64 (m : Int)) := H.m.cell 0
      have hsz : (((vars.length : Nat) : Int) == ((size : Nat) : Int)) = false := by simp; omega
      rw [addG_none hl, List.append_nil]
      clear hl
      have hlm : ¬ (lo : Int) < (m : Int) := by omega
      have HM := Lib.hid H; clear H
      go_enter Try.func60, Try.ntmps60
      go_wp2_with fail
      refine wp_loop_rounds 1 ?_
      rw [rounds_succ]
      go_wp2_with fail
      go_end0
      exact ⟨v, rfl, HM.out, .inl rfl, Two.refl _ _ _⟩
  | succ f ih =>
    intro w Bs Bo Bm Ba B size lo loI vv v vars outs hlI hf hlo H hB hv hvx hs hvl hout
    subst hlI
    by_cases hl : vars.length = size
    · rw [addG_leaf hl]
      exact mono1_leaf w Bs Bo Bm Ba B size m lo vv v vars outs H hB hv hl hs hm (by have := Nat.pow_pos (n := f + 1) (show 0 < m + 1 by omega); omega)
    · have HIH := Lib.hid ih; clear ih
      have HVX := Lib.hid hvx; clear hvx
      obtain ⟨VA, vc, rfl, hv⟩ := hv
      have hvcap := hv.cap
      have HV := Lib.hid hv; clear hv
      have cs : w.cell? ⟨Bs, 0, none⟩ = some (.int .i64 (size : Int)) := H.s.cell 0
      have hsz : (((vars.length : Nat) : Int) == ((size : Nat) : Int)) = false := by simp; omega
      have HE : Hid (addG size m (f + 1) lo vars = addTo' size m f lo vars (m - lo)) := addG_node hl
      have HL := Lib.hid hl; clear hl
      have HBs : Hid (B ≤ w.heap.size) := hB
      have HM := Lib.hid H; clear H
      have HK : Hid (∀ k, k ≤ m - lo → (outs ++ addTo' size m f lo vars k).length + (if k < m - lo then (m + 1) ^ f else 0) ≤ 100000000) := fun k hk => by
        have key : ∀ k, (addTo' size m f lo vars k).length ≤ k * (m + 1) ^ f := by
          intro k
          induction k with
          | zero => simp [addTo']
          | succ k ih =>
            rw [addTo'_succ, List.length_append, Nat.succ_mul]
            have h1 := addG_len size m f (lo + k + 1) (vars ++ [((lo + k : Nat) : Int)])
            omega
        have h1 := key k
        rw [List.length_append]
        have h2 : k * (m + 1) ^ f + (if k < m - lo then (m + 1) ^ f else 0) ≤ (m + 1) ^ (f + 1) := by
          split
          · rw [← Nat.succ_mul, Nat.pow_succ, Nat.mul_comm ((m + 1) ^ f)]
            exact Nat.mul_le_mul_right _ (by omega)
          · rw [Nat.pow_succ, Nat.mul_comm ((m + 1) ^ f)]
            exact Nat.mul_le_mul_right _ (by omega)
        omega
      go_enter Try.func60, Try.ntmps60
      go_wp2_with fail
      go_loopw [8] (fun x wr => ∃ (k : Nat) (v' : Value), k ≤ m - lo ∧ x = .int .i64 ((lo + k : Nat) : Int) ∧ Hid (MI wr Bs Bo Bm Ba B size m v' (outs ++ addTo' size m f lo vars k)) ∧
          Hid (v'.ownBlock = v.ownBlock ∨ ∃ g, v'.ownBlock = some g ∧ w.heap.size ≤ g) ∧ Hid (Two w wr Bo v.ownBlock)) (fun x _ => (m - intOf x).toNat)
      case atStart => exact ⟨0, v, Nat.zero_le _, rfl, by simpa [addTo'] using HM, .inl rfl, Two.refl _ _ _⟩
      case round =>
        obtain ⟨k, v', hk, rfl, HMI, HOW, HTW⟩ := hrel
        have cm : wr.cell? ⟨Bm, 0, none⟩ = some (.int .i64 (m : Int)) := HMI.out.m.cell 0
        obtain ⟨c, hc⟩ : ∃ c, c = lo + k := ⟨_, rfl⟩
        rw [← hc]
        have HC := Lib.hid hc
        by_cases hlt : k < m - lo
        · have hcm : c < m := by omega
          clear hc
          have ca : wr.cell? ⟨Ba, 0, none⟩ = some (.func (.func 60) #[] #[.pointer (some ⟨Bs, 0, none⟩), .pointer (some ⟨Bo, 0, none⟩), .pointer (some ⟨Bm, 0, none⟩), .pointer (some ⟨Ba, 0, none⟩)]) := HMI.out.a.cell 0
          have ca2 := fun (o : Obj) => cell_below (bl_alloc wr o) ca
          have HVW := Lib.hid (SI.two HV.out.si HTW.out (fun h0 g hg => ⟨(HVX.out h0 g hg).1, (HVX.out h0 g hg).2⟩))
          go_wp2_with fail
          have HAT := Lib.hid (si_at HVW.out)
          have HBR : Hid (B ≤ wr.heap.size) := Nat.le_trans HBs.out HTW.out.size
          have HWR : Hid (IntKind.i64.wrap ((c : Int) + 1) = ((c + 1 : Nat) : Int)) := by show _ = _; rw [IntKind.wrap_i64] <;> omega
          have HKK : Hid ((outs ++ addTo' size m f lo vars k).length + (m + 1) ^ f ≤ 100000000) := by have := HK.out k hk; rw [if_pos hlt] at this; exact this
          have HLN : Hid ((vars ++ [(c : Int)]).length ≤ c + 1) := by show _ ≤ _; rw [List.length_append]; have := HC.out; simp; omega
          have HFF : Hid (m - (c + 1) ≤ f) := by have := HC.out; show _ ≤ _; omega
          go_region_law (first
            | (refine step_growI rfl _ _ rfl VA _ vc vars rfl rfl (HAT.out.below (bl_trans (bl_alloc _ _) (bl_drew _)) (Nat.le_refl _)) _ 1 (c : Int) rfl (by simp [go_sem]) (by omega) ?_; intro v2 w2 ho hg; go_must (have HB2 := Lib.hid (bl_trans (bl_trans (bl_alloc wr _) (bl_drew _)) (bl_gr hg)); have ca3 := cell_below HB2.out ca; have HO2 := Lib.hid ho; have HMI2 := Lib.hid (HMI.out.below HB2.out); have HSI2 := Lib.hid (ho.si (by simp; omega) (app_wf HAT.out.wf (by omega))); have HAP := Lib.hid (grown_apart HO2.out HMI.out HB2.out); have HBB := Lib.hid (Nat.le_trans HBR.out HB2.out.size); clear ho hg))
            | (go_simp; go_at_call 60; go_must (refine (HIH.out w2 Bs Bo Bm Ba B size (c + 1) (IntKind.i64.wrap ((c : Int) + 1)) v2 v' (vars ++ [(c : Int)]) (outs ++ addTo' size m f lo vars k) HWR.out HFF.out (by omega) HMI2.out HBB.out HSI2.out HAP.out hs HLN.out HKK.out).mono ?_; rintro e w3 ⟨v3, rfl, hMI3, hown3, htwo3⟩)))
          all_goals
            go_wp2_with fail
            have hc := HC.out
            subst hc
            refine ⟨⟨k + 1, v3, by omega, rfl, ?_, ?_, ?_⟩, ?_⟩
            · show MI _ _ _ _ _ _ _ _ _ _
              rw [addTo'_succ, ← List.append_assoc]
              exact hMI3
            · exact own_next hown3 HOW.out (Nat.le_trans HTW.out.size HB2.out.size)
            · have h1 : Two w w2 Bo v.ownBlock := HTW.out.grown (gr_below HB2.out none) (fun g hg => by cases hg)
              exact h1.trans htwo3 (fun g hg hlt => by
                rcases HOW.out with h | ⟨g', h, hge⟩
                · rw [← h]; exact hg
                · rw [h] at hg; injection hg with hg; omega)
            · simp only [intOf]
              omega
        · obtain rfl : k = m - lo := by omega
          have hcm : ¬ ((c : Int) < (m : Int)) := by omega
          clear hc
          go_wp2_with fail
          go_end0
          rw [HE.out]
          exact ⟨v', rfl, HMI.out, HOW.out, HTW.out⟩
end Go.Proofs.Ytdbpbmehcifjpaa

/- classic.Monomials: its contract. -/
namespace Go.Proofs.Ytdbpbmehcifjpaa
open Go.RowKit
set_option linter.unusedVariables false
set_option maxRecDepth 100000

/-- a new list of lists and an error code are returned -/
def RetSE (w : World) (xss : List (List Int)) (er : Int) (e : Ending) (w' : World) : Prop := ∃ u, e = .returned (.tuple #[u, .int .i64 er]) ∧ SS w' u xss ∧ New w u ∧ Below w.heap.size w w'

theorem blk2 (w : World) (o1 : Obj) (u : Value) (t : TypeId) : Blk ((w.alloc o1).alloc (.cells #[u] t)) (w.heap.size + 1) t [u] := by
  have := Blk.new (w.alloc o1) t [u]
  simpa using this
theorem box2 {w : World} {o1 : Obj} {u : Value} {t : TypeId} : ((w.alloc o1).alloc (.cells #[u] t)).cell? ⟨w.heap.size + 1, 0, none⟩ = some u := (blk2 w o1 u t).cell 0
theorem box2f {w : World} {o1 : Obj} {u : Value} {t : TypeId} : ((w.alloc o1).alloc (.cells #[u] t)).frozen? ⟨w.heap.size + 1, 0, none⟩ = false := (blk2 w o1 u t).frozen 0

theorem RetSE.nil (w : World) (er : Int) {w' : World} (h : Below w.heap.size w w') : RetSE w [] er (.returned (.tuple #[.slice none 0 0, .int .i64 er])) w' := ⟨_, rfl, SS.none_ w', New.nil w 0 0, h⟩
theorem monoTo_len (m k : Nat) : (monoTo m k).length ≤ k * (m + 1) ^ m := by
  induction k with
  | zero => simp [monoTo]
  | succ k ih =>
    rw [monoTo_succ, List.length_append, Nat.succ_mul]
    have h1 := addG_len k m m 0 []
    omega
theorem mono_room {mn k : Nat} (h : mn ≤ 6) (hk : k ≤ 7) : (monoTo mn k).length + (mn + 1) ^ mn ≤ 100000000 := by
  have h1 := monoTo_len mn k
  have h2 : (mn + 1) ^ mn ≤ 7 ^ 6 := Nat.le_trans (Nat.pow_le_pow_left (by omega) _) (Nat.pow_le_pow_right (by omega) h)
  have h3 : k * (mn + 1) ^ mn ≤ 7 * 7 ^ 6 := Nat.mul_le_mul hk h2
  have h4 : (7 : Nat) ^ 6 = 117649 := rfl
  rw [h4] at h2 h3
  omega
theorem mono_start {w : World} {Bo Bm B k m : Nat} {v : Value} {outs : List (List Int)} (hm : Blk w Bm 3 [.int .i64 (m : Int)]) (ho : Blk w Bo 25 [v]) (hos : OS B (fun g => g = Bo) w v outs) :
    MI (((w.alloc (.cells #[.int .i64 (k : Int)] 3)).alloc (.cells #[.func (.func 60) #[] #[.pointer (some ⟨w.heap.size, 0, none⟩), .pointer (some ⟨Bo, 0, none⟩), .pointer (some ⟨Bm, 0, none⟩), .pointer (some ⟨w.heap.size + 1, 0, none⟩)]] 75)).alloc (.cells #[] 3))
      w.heap.size Bo Bm (w.heap.size + 1) B k m v outs :=
  ⟨((Blk.new w 3 [.int .i64 (k : Int)]).alloc _).alloc _, ((hm.alloc _).alloc _).alloc _, (blk2 _ _ _ _).alloc _, ((ho.alloc _).alloc _).alloc _, ((hos.alloc _).alloc _).alloc _⟩
theorem mono_nil (w : World) (A : Option Addr) : SI w (.slice A 0 0) [] :=
  ⟨_, _, rfl, by simp, by simp, fun k hk => absurd hk (by simp), fun k => by simp [I64]⟩
theorem mono_out {w wr w3 : World} {o1 o2 o3 : Obj} {v : Value} {outs : List (List Int)} (hb : Below w.heap.size w wr) (hos : OS w.heap.size (fun g => g = w.heap.size + 1) wr v outs) (h : Two (((wr.alloc o1).alloc o2).alloc o3) w3 (w.heap.size + 1) v.ownBlock) : Below w.heap.size w w3 := by
  have h1 : Below w.heap.size w (((wr.alloc o1).alloc o2).alloc o3) := ((hb.alloc (by have := hb.size; omega) _).alloc (by have := hb.size; simp; omega) _).alloc (by have := hb.size; simp; omega) _
  exact h.below h1 (by omega) (by have := h1.size; omega) (fun g hg => (hos.lt hg).1)

set_option maxHeartbeats 16000000 in
theorem monos_any (w : World) (r m : Int) (hr : I64 r) (hm : I64 m) : Calls Try.prog 33 #[.int .i64 r, .int .i64 m] w (RetSE w (monoSpec r m).1 (monoSpec r m).2) := by
  by_cases h0 : m < 0
  · rw [show monoSpec r m = ([], 6) by unfold monoSpec; rw [if_pos (by omega)]]
    clear hr hm
    go_enter Try.func33, Try.ntmps33
    go_wp2_with fail
    go_ret2
    exact RetSE.nil w 6 (bl_alloc _ _)
  · by_cases h1 : 6 < m
    · rw [show monoSpec r m = ([], 6) by unfold monoSpec; rw [if_pos (by omega)]]
      clear hr hm
      go_enter Try.func33, Try.ntmps33
      go_wp2_with fail
      go_ret2
      exact RetSE.nil w 6 (bl_alloc _ _)
    · by_cases h2 : r < -1
      · rw [show monoSpec r m = ([], 6) by unfold monoSpec; rw [if_pos (by omega)]]
        clear hr hm
        go_enter Try.func33, Try.ntmps33
        go_wp2_with fail
        go_ret2
        exact RetSE.nil w 6 (bl_alloc _ _)
      · by_cases h3 : m < r
        · rw [show monoSpec r m = ([], 6) by unfold monoSpec; rw [if_pos (by omega)]]
          clear hr hm
          go_enter Try.func33, Try.ntmps33
          go_wp2_with fail
          go_ret2
          exact RetSE.nil w 6 (bl_alloc _ _)
        · have e : monoSpec r m = (monoTo m.toNat (r + 1).toNat, 0) := by unfold monoSpec; rw [if_neg (by omega)]
          rw [e]; clear e
          obtain ⟨mn, rfl⟩ : ∃ mn : Nat, m = mn := ⟨m.toNat, by omega⟩
          have g1 : ¬ ((mn : Int) < 0) := h0
          have g2 : ¬ ((6 : Int) < mn) := h1
          clear hr hm
          go_enter Try.func33, Try.ntmps33
          go_wp2_with fail
          have HR : Hid (∃ rn : Nat, r + 1 = (rn : Int) ∧ rn ≤ mn + 1) := ⟨(r + 1).toNat, by omega, by omega⟩
          obtain ⟨rn, hrn, hrm⟩ := HR.out
          have HRN := Lib.hid hrn
          rw [hrn]
          clear hrn
          have hb0 : Below w.heap.size w ((w.alloc (Obj.cells #[.int .i64 (mn : Int)] 3)).alloc (Obj.cells #[.slice none 0 0] 25)) := bl_trans (bl_alloc _ _) (bl_alloc _ _)
          have hbm : Blk ((w.alloc (Obj.cells #[.int .i64 (mn : Int)] 3)).alloc (Obj.cells #[.slice none 0 0] 25)) w.heap.size 3 [.int .i64 (mn : Int)] := (Blk.new w 3 [.int .i64 (mn : Int)]).alloc _
          have hbo : Blk ((w.alloc (Obj.cells #[.int .i64 (mn : Int)] 3)).alloc (Obj.cells #[.slice none 0 0] 25)) (w.heap.size + 1) 25 [.slice none 0 0] := by
            have := Blk.new (w.alloc (Obj.cells #[.int .i64 (mn : Int)] 3)) 25 [.slice none 0 0]
            simpa using this
          have HB0 := Lib.hid hb0; have HBM := Lib.hid hbm; have HBO := Lib.hid hbo
          clear hb0 hbm hbo
          go_loopw [26] (fun x wr => ∃ (k : Nat) (v : Value), k ≤ rn ∧ x = .int .i64 (k : Int) ∧ Hid (Blk wr w.heap.size 3 [.int .i64 (mn : Int)]) ∧ Hid (Blk wr (w.heap.size + 1) 25 [v]) ∧
              Hid (OS w.heap.size (fun g => g = w.heap.size + 1) wr v (monoTo mn k)) ∧ Hid (Below w.heap.size w wr)) (fun x _ => (rn - intOf x).toNat)
          case atStart => exact ⟨0, _, Nat.zero_le _, rfl, HBM, HBO, OS.nil _ _ _, HB0⟩
          case round =>
            obtain ⟨k, v, hk, rfl, HM, HO, HOS, HB⟩ := hrel
            have g3 : w.heap.size + 1 < wr.heap.size := HO.out.lt
            by_cases hlt : k < rn
            · have bx := fun o1 u t => box2 (w := wr) (o1 := o1) (u := u) (t := t)
              have bz := fun o1 u t => box2f (w := wr) (o1 := o1) (u := u) (t := t)
              go_wp2_with fail
              refine (mono1_any mn (by omega) mn _ wr.heap.size (w.heap.size + 1) w.heap.size (wr.heap.size + 1) w.heap.size k 0 0 (.slice (some ⟨wr.heap.size + 1 + 1, 0, none⟩) 0 0) v [] (monoTo mn k) rfl (by omega) (by omega) (mono_start HM.out HO.out HOS.out) (by have := HB.out.size; simp; omega) (mono_nil _ _) (fun h => absurd h (by simp)) (by omega) (by simp) (mono_room (by omega) (by omega))).mono ?_
              rintro e w3 ⟨v3, rfl, hMI3, hown3, htwo3⟩
              go_wp2_with fail
              refine ⟨⟨k + 1, v3, by omega, rfl, ?_, ?_, ?_, ?_⟩, by simp only [intOf]; omega⟩
              · exact hMI3.m
              · exact hMI3.o
              · show OS _ _ _ _ _
                rw [monoTo_succ]
                exact hMI3.os
              · exact mono_out HB.out HOS.out htwo3
            · obtain rfl : k = rn := by omega
              have co := HO.out.cell 0
              have hn := HRN.out
              clear hlt
              go_wp2_with fail
              go_ret2
              rw [show (r + 1).toNat = k by omega]
              have hlen := mono_room (mn := mn) (k := k) (by omega) (by omega)
              exact ⟨v, rfl, HOS.out.ss (by omega), fun g hg => (HOS.out.lt hg).1, HB.out⟩
end Go.Proofs.Ytdbpbmehcifjpaa

/- ref11.Binomial and ref11.Subsets for at most 6 elements. -/
namespace Go.Proofs.Ytdbpbmehcifjpaa
open Go.RowKit
set_option linter.unusedVariables false
set_option maxRecDepth 100000

theorem made_at {n k : Nat} (h : k < n) : (madeCells #[Value.int .i64 0] n)[k]? = some (.int .i64 0) := by
  rw [← Array.getElem?_toList, toList_madeCells_one]
  simp [h]
theorem made_set (w : World) (n i : Nat) (x : Int) : RI (w.alloc (.cells ((madeCells #[Value.int .i64 0] n).setIfInBounds i (.int .i64 x)) 3)) w.heap.size ((List.replicate n 0).set i x) := by
  have := Blk.new w 3 ((madeCells #[Value.int .i64 0] n).setIfInBounds i (.int .i64 x)).toList
  unfold RI
  rw [Array.toList_setIfInBounds, toList_madeCells_one] at this
  rw [List.map_set, List.map_replicate]
  have e : (((madeCells #[Value.int .i64 0] n).setIfInBounds i (.int .i64 x))) = ((List.replicate n (Value.int .i64 0)).set i (.int .i64 x)).toArray := by
    rw [← toList_madeCells_one, ← Array.toList_setIfInBounds]
  rw [e]
  exact this
set_option maxHeartbeats 8000000 in
theorem binomial_any (w : World) (n k : Nat) (hn : n ≤ 6) (hk : k ≤ n) : Calls Try.prog 67 #[.int .i64 (n : Int), .int .i64 (k : Int)] w
    fun e w' => e = .returned (.tuple #[.int .i64 ((binRow n).getD k 0), .int .i64 0]) ∧ Below w.heap.size w w' := by
  obtain ⟨L, hL⟩ : ∃ L, L = n + 1 := ⟨_, rfl⟩
  have hmk : (Instr.makeSlice 22 (.int .i64 ((n : Int) + 1)) (.int .i64 ((n : Int) + 1))).run Try.prog w = .ok (.slice (some ⟨w.heap.size, 0, none⟩) L L) (w.alloc (.cells (madeCells #[.int .i64 0] L) 3)) := by
    rw [show (n : Int) + 1 = (L : Int) by omega]; exact run_mkI L (by omega) w
  have hL0 : 0 < L := by omega
  have HL := Lib.hid hL
  clear hL
  have hmc : (madeCells #[Value.int .i64 0] L)[0]? = some (.int .i64 0) := made_at (by omega)
  have hd1 : decide (n < k) = false := by simp; omega
  have hd2 : decide ((k : Int) < 0) = false := by simp
  have hd3 : decide ((n : Int) < 0) = false := by simp
  have hd4 : decide (64 < (n : Int)) = false := by simp; omega
  go_enter Try.func67, Try.ntmps67
  go_wp2_with fail
  have HR0 : Hid (RI (w.alloc (.cells ((madeCells #[Value.int .i64 0] L).setIfInBounds 0 (.int .i64 1)) 3)) w.heap.size ((List.replicate L 0).set 0 1)) := made_set w L 0 1
  have HB0 := Lib.hid (bl_alloc w (.cells ((madeCells #[Value.int .i64 0] L).setIfInBounds 0 (.int .i64 1)) 3))
  clear hmk hmc
  go_loopw [7] (fun x wr => ∃ (t c : Nat), t ≤ n ∧ x = .int .i64 (c : Int) ∧ Hid (c = t + 1) ∧ Hid (RI wr w.heap.size (binRows ((List.replicate L 0).set 0 1) t)) ∧ Hid (Below w.heap.size w wr)) (fun x _ => (n + 1 - intOf x).toNat)
  case atStart => exact ⟨0, 1, Nat.zero_le _, rfl, rfl, HR0, HB0⟩
  case round =>
    obtain ⟨t, c, ht, rfl, HC, HRI, HB⟩ := hrel
    by_cases hlt : t < n
    · have hc := HC.out
      have hcn : c ≤ n := by omega
      have hc1 : 1 ≤ c := by omega
      clear hc
      go_wp2_with fail
      go_loopw [8] (fun x wr => ∃ (j : Nat) (row : List Int), j ≤ c ∧ row.length = L ∧ x = .int .i64 (j : Int) ∧ Hid (binDown j row = binRows ((List.replicate L 0).set 0 1) (t + 1)) ∧ Hid (RI wr w.heap.size row) ∧ Hid (Below w.heap.size w wr)) (fun x _ => (intOf x).toNat)
      case atStart => exact ⟨c, _, Nat.le_refl _, by rw [binRows_len]; simp, rfl, by rw [HC.out]; rfl, HRI, HB⟩
      case round =>
        obtain ⟨j, row, hj, hlen, rfl, HD, HRI, HB⟩ := hrel
        by_cases hj0 : 1 ≤ j
        · have c1 := HRI.out.cell j (by have := HL.out; omega)
          obtain ⟨i, hi⟩ : ∃ i, i = j - 1 := ⟨_, rfl⟩
          have hw : IntKind.i64.wrap ((j : Int) - 1) = (i : Int) := by have := HL.out; rw [IntKind.wrap_i64] <;> omega
          have c2 := HRI.out.cell i (by have := HL.out; omega)
          have f1 := HRI.out.frozen j
          have hb1 : j < L := by have := HL.out; omega
          have hb2 : i < L := by omega
          have HBS := Lib.hid ((HRI.out.set j (IntKind.i64.wrap (row.getD j 0 + row.getD i 0))).drew)
          obtain ⟨x, hx⟩ : ∃ x, x = row.getD j 0 := ⟨_, rfl⟩
          obtain ⟨y, hy⟩ : ∃ y, y = row.getD i 0 := ⟨_, rfl⟩
          rw [← hx] at c1
          rw [← hy] at c2
          have HX := Lib.hid hx; have HY := Lib.hid hy
          clear hx hy
          have HI := Lib.hid hi
          clear hi
          have HLEN := Lib.hid hlen
          clear hlen
          go_wp2_with fail
          go_still_tail 11, (by kernel_rfl)
          change wpList _ _ _ _ _ wr.drew
          go_wp2_with fail
          go_roundw
          case rel =>
            have hx := HX.out; have hy := HY.out; have hi := HI.out
            refine ⟨i, _, by omega, ?_, rfl, ?_, (by have h := HBS.out; rw [← hx, ← hy, IntWalk.i64_left] at h; exact h), (HB.out.setCell (Nat.le_refl _) _).drew⟩
            · simp; exact HLEN.out
            · show _ = _
              obtain rfl : j = i + 1 := by omega
              rw [← HD.out, hx, hy, ← IntWalk.i64_left]
              rfl
          case measure => have hi := HI.out; simp [intOf]; omega
        · obtain rfl : j = 0 := by omega
          go_wp2_with fail
          go_roundw
          case rel => exact ⟨t + 1, c + 1, by omega, by go_num, by rw [HC.out]; rfl, by rw [← HD.out]; exact HRI, HB⟩
          case measure => simp [intOf]; omega
    · obtain rfl : t = n := by omega
      have hc := HC.out
      have hcn : ¬ c ≤ t := by omega
      have c1 := HRI.out.cell k (by rw [binRows_len]; simp; have := HL.out; omega)
      have hkL : k < L := by have := HL.out; omega
      obtain ⟨x, hx⟩ : ∃ x, x = (binRows ((List.replicate L 0).set 0 1) t).getD k 0 := ⟨_, rfl⟩
      rw [← hx] at c1
      have HX := Lib.hid hx
      clear hc hx
      go_wp2_with fail
      go_ret2
      refine ⟨?_, HB.out⟩
      rw [HX.out, HL.out]
      rfl
end Go.Proofs.Ytdbpbmehcifjpaa

/- ref11.Subsets for at most 6 elements. -/
namespace Go.Proofs.Ytdbpbmehcifjpaa
open Go.RowKit
set_option linter.unusedVariables false
set_option maxRecDepth 100000

/-- the row 0, 1, .. as its loop lays it -/
def fillI (k : Nat) : Nat → List Int
  | 0 => List.replicate k 0
  | i + 1 => (fillI k i).set i (i : Int)
theorem fillI_len (k : Nat) : ∀ i, (fillI k i).length = k
  | 0 => by simp [fillI]
  | i + 1 => by simp [fillI, fillI_len k i]
theorem fillI_end : ∀ k : Fin 7, fillI k.val k.val = subStart k.val := by decide +kernel

theorem subNext_zero {d : Int} {k : Nat} {s : List Int} (h : subFind d s 0 = subFind d s k) : subNext d k s = s := by
  have h0 : subFind d s k = 0 := by rw [← h]; rfl
  unfold subNext; rw [h0]
theorem subNext_some {d : Int} {k q : Nat} {s : List Int} (h : subFind d s (q + 1) = subFind d s k) (hx : ¬ s.getD q 0 = d + (q : Int)) : subNext d k s = subFill (s.set q (IntKind.i64.wrap (s.getD q 0 + 1))) (q + 1) (k - (q + 1)) := by
  have h0 : subFind d s k = q + 1 := by rw [← h, subFind, if_neg hx]
  unfold subNext; rw [h0]
theorem subList_succ (d : Int) (k t : Nat) : subList d k (t + 1) = subList d k t ++ [subIter d k (subStart k) t] := by
  simp [subList, List.range_succ]
theorem row_si {w : World} {R k : Nat} {xs : List Int} (h : RI w R xs) (hl : xs.length = k) (hk : k ≤ 1000) (hw : ∀ i, I64 (xs.getD i 0)) : SI w (.slice (some ⟨R, 0, none⟩) k k) xs := by
  subst hl
  exact h.si (by omega) hw
theorem row_apart {w w2 : World} {B R : Nat} {u v : Value} {ys : List Int} {xss : List (List Int)} (h : OI w.heap.size w2 u ys) (ho : OS B (fun g => g = R) w v xss) (hR : R < w.heap.size) :
    0 < ys.length → ∀ g, u.ownBlock = some g → v.ownBlock ≠ some g ∧ ¬ g = R := fun _ g hg => by
  have h1 := (h.lt hg).1
  exact ⟨fun e => by have := (ho.lt e).2; omega, by omega⟩
theorem row_apart' {w w2 : World} {B R : Nat} {u v : Value} {ys : List Int} {xss : List (List Int)} (h : OI w.heap.size w2 u ys) (ho : OS B (fun g => g = R) w v xss) (hR : R < w.heap.size) :
    0 < ys.length → ∀ g, u.ownBlock = some g → v.ownBlock ≠ some g ∧ ¬ (fun g => g = R) g := fun _ g hg => by
  have h1 := (h.lt hg).1
  exact ⟨fun e => by have := (ho.lt e).2; omega, by show ¬ g = R; omega⟩
/-- a new list of new lists and an error code are returned -/
def RetSN (w : World) (xss : List (List Int)) (er : Int) (e : Ending) (w' : World) : Prop := ∃ u, e = .returned (.tuple #[u, .int .i64 er]) ∧ OS w.heap.size (fun g => g < w.heap.size) w' u xss ∧ Below w.heap.size w w'
theorem row_apart2 {w w2 : World} {B R B0 : Nat} {X : Nat → Prop} {u v : Value} {ys : List Int} {xss : List (List Int)} (h : OI w.heap.size w2 u ys) (ho : OS B X w v xss) (hR : R < w.heap.size) (hB : B0 ≤ w.heap.size) :
    0 < ys.length → ∀ g, u.ownBlock = some g → v.ownBlock ≠ some g ∧ ¬ (fun g => g = R ∨ g < B0) g := fun _ g hg => by
  have h1 := (h.lt hg).1
  exact ⟨fun e => by have := (ho.lt e).2; omega, by show ¬ (g = R ∨ g < B0); omega⟩
theorem set_wf {xs : List Int} {k : Nat} {x : Int} (h : ∀ i, I64 (xs.getD i 0)) (hx : I64 x) : ∀ i, I64 ((xs.set k x).getD i 0) := by
  intro i
  by_cases e : k = i ∧ i < xs.length
  · obtain ⟨rfl, hi⟩ := e
    simpa [List.getD, hi] using hx
  · have h1 := h i
    have : (xs.set k x).getD i 0 = xs.getD i 0 := by
      by_cases e2 : k = i
      · subst e2
        have : ¬ k < xs.length := fun h => e ⟨rfl, h⟩
        simp [List.getD, this]
      · simp [List.getD, List.getElem?_set_ne e2]
    rwa [this]
theorem wrap_I64 (x : Int) : I64 (IntKind.i64.wrap x) := by
  rw [IntWalk.i64_left]
  exact I64.of_wf (wrap64_wf x)
theorem subFill_wf {s : List Int} (h : ∀ i, I64 (s.getD i 0)) (j : Nat) : ∀ c, ∀ i, I64 ((subFill s j c).getD i 0)
  | 0 => h
  | c + 1 => set_wf (subFill_wf h j c) (wrap_I64 _)
theorem subIter_wf (d : Int) (k t : Nat) (hk : k ≤ 1000) : ∀ i, I64 ((subIter d k (subStart k) t).getD i 0) := by
  induction t with
  | zero =>
    intro i
    show I64 ((subStart k).getD i 0)
    by_cases h : i < k
    · simp [subStart, List.getD, h]
      exact I64.of_small (by omega) (by omega)
    · simp [subStart, List.getD, h]
      exact I64.zero
  | succ t ih =>
    show ∀ i, I64 ((subNext d k (subIter d k (subStart k) t)).getD i 0)
    unfold subNext
    split
    · exact ih
    · exact subFill_wf (set_wf ih (wrap_I64 _)) _ _

set_option maxHeartbeats 16000000 in
theorem subsets_any (w : World) (n k : Nat) (hn : n ≤ 6) (hk : k ≤ n) : Calls Try.prog 38 #[.int .i64 (n : Int), .int .i64 (k : Int)] w (RetSN w (addG k n n 0 []) 0) := by
  have hmk := fun (w : World) => run_mkI k (by omega) w
  have HS := Lib.hid (subs_eq hn hk)
  have hd1 : decide (n < k) = false := by simp; omega
  have hd2 : decide ((k : Int) < 0) = false := by simp
  have hz : ((0 : Int) != 0) = false := by decide
  go_enter Try.func38, Try.ntmps38
  go_wp2_with fail
  refine (binomial_any _ n k hn hk).mono ?_
  rintro e w1 ⟨rfl, hb1⟩
  have HB1 := Lib.hid hb1; clear hb1
  obtain ⟨c, hc⟩ : ∃ c : Nat, (c : Int) = (binRow n).getD k 0 := ⟨((binRow n).getD k 0).toNat, by have := HS.out; omega⟩
  rw [← hc]
  have hc20 : c ≤ 20 := by have := HS.out; omega
  have hd3 : decide (65536 < (c : Int)) = false := by simp; omega
  have HC := Lib.hid hc; clear hc
  go_wp2_with fail
  obtain ⟨R, hR⟩ : ∃ R, R = w1.heap.size + 1 := ⟨_, rfl⟩
  have hri : RI ((w1.alloc (.cells #[] 22)).alloc (.cells (madeCells #[.int .i64 0] k) 3)) R (List.replicate k 0) := by
    have := RI.made (w1.alloc (.cells #[] 22)) k
    rw [hR]; simpa using this
  have HRI := Lib.hid hri; clear hri
  have HOS : Hid (OS w.heap.size (fun g => g = R ∨ g < w.heap.size) ((w1.alloc (.cells #[] 22)).alloc (.cells (madeCells #[.int .i64 0] k) 3)) (.slice (some ⟨w1.heap.size, 0, none⟩) 0 0) []) :=
    (OS.empty w1 HB1.out.size).alloc _
  have HB2 := Lib.hid (bl_trans (bl_trans HB1.out (bl_alloc w1 (.cells #[] 22))) (bl_alloc _ (.cells (madeCells #[.int .i64 0] k) 3)))
  have HRB : Hid (w.heap.size ≤ R) := by have := HB1.out.size; show _ ≤ _; omega
  rw [← hR]
  have HR := Lib.hid hR; clear hR
  clear hmk hd1 hd2 hz
  go_loopw [10] (fun x wr => ∃ i : Nat, i ≤ k ∧ x = .int .i64 (i : Int) ∧ Hid (RI wr R (fillI k i)) ∧ Hid (OS w.heap.size (fun g => g = R ∨ g < w.heap.size) wr (.slice (some ⟨w1.heap.size, 0, none⟩) 0 0) []) ∧ Hid (Below w.heap.size w wr)) (fun x _ => (k - intOf x).toNat)
  case atStart => exact ⟨0, Nat.zero_le _, rfl, HRI, HOS, HB2⟩
  case round =>
    obtain ⟨i, hi, rfl, HRI, HOS, HB⟩ := hrel
    by_cases hlt : i < k
    · have c1 := HRI.out.cell i (by rw [fillI_len]; exact hlt)
      have f1 := HRI.out.frozen i
      go_wp2_with fail
      refine ⟨⟨i + 1, by omega, rfl, HRI.out.set i (i : Int), HOS.out.grown (row := some R) (gr_setCell (World.grownBy.refl _ _) (.inl rfl) _) (fun g hg => ⟨?_, (by injection hg with hg; exact .inl hg.symm)⟩), HB.out.setCell HRB.out _⟩, by simp only [intOf]; omega⟩
      have := HR.out
      injection hg with hg
      simp [Value.ownBlock]
      omega
    · obtain rfl : k = i := by omega
      have HRI2 : Hid (RI wr R (subStart k)) := by have := HRI.out; rwa [fillI_end ⟨k, by omega⟩] at this
      go_wp2_with fail
      go_loopw [8, 11] (fun x y wr => ∃ t : Nat, t ≤ c ∧ y = .int .i64 (t : Int) ∧ Hid (RI wr R (subIter ((n : Int) - (k : Int)) k (subStart k) t)) ∧ Hid (OS w.heap.size (fun g => g = R ∨ g < w.heap.size) wr x (subList ((n : Int) - (k : Int)) k t)) ∧ Hid (Below w.heap.size w wr)) (fun _ y _ => (c - intOf y).toNat)
      case atStart => exact ⟨0, Nat.zero_le _, rfl, HRI2, HOS, HB⟩
      case round =>
        obtain ⟨t, ht, rfl, HRI, HOS, HB⟩ := hrel
        by_cases hlt : t < c
        · have HSI : Hid (SI wr (.slice (some ⟨R, 0, none⟩) k k) (subIter ((n : Int) - (k : Int)) k (subStart k) t)) := row_si HRI.out (by rw [subIter_len]; simp [subStart]) (by omega) (subIter_wf _ _ _ (by omega))
          have T1 : Hid (SI (wr.alloc (.cells #[] 3)) (.slice (some ⟨R, 0, none⟩) k k) (subIter ((n : Int) - (k : Int)) k (subStart k) t)) := HSI.out.below (bl_alloc _ _) (Nat.le_refl _)
          have T2 : Hid (([] : List Int).length + (subIter ((n : Int) - (k : Int)) k (subStart k) t).length ≤ 17592186044416) := by show _ ≤ _; rw [subIter_len]; simp [subStart]; omega
          have T5 : Hid (([] ++ subIter ((n : Int) - (k : Int)) k (subStart k) t).length ≤ 17592186044416) := by show _ ≤ _; rw [List.nil_append, subIter_len]; simp [subStart]; omega
          have T6 : Hid (∀ i, I64 (([] ++ subIter ((n : Int) - (k : Int)) k (subStart k) t).getD i 0)) := subIter_wf _ _ _ (by omega)
          have T7 : Hid (R < wr.heap.size) := HRI.out.lt
          have T3 : Hid (wr.heap.size ≤ (wr.alloc (.cells #[] 3)).heap.size) := by show _ ≤ _; simp
          have T4 : Hid (OI wr.heap.size (wr.alloc (.cells #[] 3)) (.slice (some ⟨wr.heap.size, 0, none⟩) 0 0) []) := OI.empty wr (Nat.le_refl _)
          go_wp2_with (first
            | (at_builtin; refine wpList_catI rfl _ _ rfl wr.heap.size _ _ rfl T4.out _ _ rfl T1.out T2.out T3.out ?_; (intro v2 w2 ho hg hv2); go_must (have HB3 := Lib.hid (T4.out.bgrown (bl_alloc wr _) T3.out hg); have HO3 := Lib.hid ho; have HAP := Lib.hid (row_apart2 ho HOS.out T7.out HB.out.size); obtain ⟨A2, c2, rfl, hs3⟩ := (ho.si T5.out T6.out); have HS3 := Lib.hid hs3.si; clear ho hg hs3 hv2))
            | (at_builtin; refine wpList_pushS rfl _ _ rfl w.heap.size (fun g => g = R ∨ g < w.heap.size) u8 (subList ((n : Int) - (k : Int)) k t) rfl (HOS.out.below (bl_trans HB3.out (bl_alloc _ _))) w2.heap.size 1 _ ([] ++ subIter ((n : Int) - (k : Int)) k (subStart k) t) rfl (by simp [go_sem]) (HS3.out.below (bl_alloc _ _) (Nat.le_refl _)) HAP.out (by simp [subList]; omega) (by have := HB.out.size; have := HB3.out.size; simp; omega) ?_; intro v3 w3 ho hg hv3))
          obtain ⟨s, hs⟩ : ∃ s, s = subIter ((n : Int) - (k : Int)) k (subStart k) t := ⟨_, rfl⟩
          have HSL : Hid (s.length = k) := by show _ = _; rw [hs, subIter_len]; simp [subStart]
          have HSW : Hid (∀ i, I64 (s.getD i 0)) := by rw [hs]; exact T6.out
          have HRR : Hid (RI w3 R s) := by
            have h2 : RI w2 R s := by rw [hs]; exact HRI.out.below HB3.out T7.out
            exact (h2.alloc _).grown hg (fun e => HOS.out.ne_blk HRI.out (by decide) e.symm)
          have HO4 := Lib.hid ho
          have HB4 : Hid (Below w.heap.size w w3) := ((HOS.out.below (bl_trans HB3.out (bl_alloc _ _))).bgrown (bl_trans HB.out (bl_trans HB3.out (bl_alloc _ _))) (by have := HB.out.size; have := HB3.out.size; simp; omega) hg)
          clear T1 T2 T3 T4 T5 T6 HS3 HAP ho hg hv3
          have HSE := Lib.hid hs
          clear hs
          clear hd3
          go_loop [12] (fun x => ∃ p : Nat, p ≤ k ∧ x = .int .i64 ((p : Int) - 1) ∧ Hid (subFind ((n : Int) - (k : Int)) s p = subFind ((n : Int) - (k : Int)) s k)) (fun x => (intOf x + 1).toNat)
          case atStart => exact ⟨k, Nat.le_refl _, rfl, rfl⟩
          case round =>
            obtain ⟨p, hp, rfl, HF⟩ := hrel
            rcases p with _ | q
            · go_wp2_with fail
              exact ⟨⟨t + 1, by omega, rfl, by rw [subIter, ← HSE.out, subNext_zero HF.out]; exact HRR, by rw [subList_succ]; exact HO4, HB4⟩, by simp only [intOf]; omega⟩
            · have c1 := HRR.out.cell q (by have := HSL.out; omega)
              have f1 := HRR.out.frozen q
              by_cases hx : s.getD q 0 = (n : Int) - (k : Int) + (q : Int)
              · have hb : (s.getD q 0 == (n : Int) - (k : Int) + (q : Int)) = true := by rw [beq_iff_eq]; exact hx
                have HX := Lib.hid hx; clear hx
                have HFQ : Hid (subFind ((n : Int) - (k : Int)) s q = subFind ((n : Int) - (k : Int)) s k) := by rw [← HF.out, subFind, if_pos HX.out]; rfl
                obtain ⟨x, hx⟩ : ∃ x, x = s.getD q 0 := ⟨_, rfl⟩
                rw [← hx] at c1 hb
                clear hx
                go_wp2_with fail
                exact ⟨⟨q, by omega, rfl, HFQ⟩, by simp only [intOf]; omega⟩
              · have hb : (s.getD q 0 == (n : Int) - (k : Int) + (q : Int)) = false := by rw [beq_eq_false_iff_ne]; exact hx
                have HX := Lib.hid hx; clear hx
                have HSX := Lib.hid (HRR.out.set q (IntKind.i64.wrap (s.getD q 0 + 1)))
                obtain ⟨x, hx⟩ : ∃ x, x = s.getD q 0 := ⟨_, rfl⟩
                rw [← hx] at c1 hb
                have HXE := Lib.hid hx; clear hx
                go_wp2_with fail
                have HW : Hid (RI (w3.setCell { block := R, off := q } (Value.int IntKind.i64 (wrap64 (x + 1)))) R (s.set q (IntKind.i64.wrap (s.getD q 0 + 1)))) := by
                  have := HSX.out; rw [← HXE.out, IntWalk.i64_left] at this; rw [← HXE.out, IntWalk.i64_left]; exact this
                have HO5 : Hid (OS w.heap.size (fun g => g = R ∨ g < w.heap.size) (w3.setCell { block := R, off := q } (Value.int IntKind.i64 (wrap64 (x + 1)))) v3 (subList ((n : Int) - (k : Int)) k (t + 1))) := by
                  rw [subList_succ]
                  exact HO4.out.grown (row := some R) (gr_setCell (World.grownBy.refl _ _) (.inl rfl) _) (fun g hg => ⟨fun e => by
                    injection hg with hg
                    exact HO4.out.ne_blk HRR.out (by decide) (by rw [e, hg]), by injection hg with hg; exact .inl hg.symm⟩)
                have HB5 : Hid (Below w.heap.size w (w3.setCell { block := R, off := q } (Value.int IntKind.i64 (wrap64 (x + 1))))) := HB4.out.setCell HRB.out _
                clear c1 f1 hb
                go_loopw [13] (fun x wr => ∃ j : Nat, q + 1 + j ≤ k ∧ x = .int .i64 ((q + 1 + j : Nat) : Int) ∧ Hid (RI wr R (subFill (s.set q (IntKind.i64.wrap (s.getD q 0 + 1))) (q + 1) j)) ∧ Hid (OS w.heap.size (fun g => g = R ∨ g < w.heap.size) wr v3 (subList ((n : Int) - (k : Int)) k (t + 1))) ∧ Hid (Below w.heap.size w wr)) (fun x _ => (k - intOf x).toNat)
                case atStart => exact ⟨0, by omega, by go_num, HW, HO5, HB5⟩
                case round =>
                  obtain ⟨j, hj, rfl, HRJ, HO5, HB5⟩ := hrel
                  have HLJ : Hid ((subFill (s.set q (IntKind.i64.wrap (s.getD q 0 + 1))) (q + 1) j).length = k) := by show _ = _; rw [subFill_len]; simp; exact HSL.out
                  by_cases hlt2 : q + 1 + j < k
                  · obtain ⟨i, hi⟩ : ∃ i, i = q + 1 + j := ⟨_, rfl⟩
                    have hi1 : 1 ≤ i := by omega
                    have hkm : ((i : Int) - 1).toNat = i - 1 := by omega
                    have hk1 : (1 : Int) ≤ (i : Int) := by omega
                    rw [← hi] at hlt2 ⊢
                    have c1 := HRJ.out.cell (i - 1) (by have := HLJ.out; omega)
                    have f1 := HRJ.out.frozen i
                    have HSJ := Lib.hid (HRJ.out.set i (IntKind.i64.wrap ((subFill (s.set q (IntKind.i64.wrap (s.getD q 0 + 1))) (q + 1) j).getD (i - 1) 0 + 1)))
                    obtain ⟨y, hy⟩ : ∃ y, y = (subFill (s.set q (IntKind.i64.wrap (s.getD q 0 + 1))) (q + 1) j).getD (i - 1) 0 := ⟨_, rfl⟩
                    rw [← hy] at c1
                    have HY := Lib.hid hy; clear hy
                    have c2 := HRJ.out.cell i (by have := HLJ.out; omega)
                    generalize (subFill (s.set q (IntKind.i64.wrap (s.getD q 0 + 1))) (q + 1) j).getD i 0 = old at c2
                    have HI := Lib.hid hi; clear hi
                    go_wp2_with fail
                    refine ⟨⟨j + 1, by have := HI.out; omega, by rw [show q + 1 + (j + 1) = i + 1 by have := HI.out; omega]; rfl, ?_, HO5.out.grown (row := some R) (gr_setCell (World.grownBy.refl _ _) (.inl rfl) _) (fun g hg => ⟨fun e => by
                      injection hg with hg
                      exact HO5.out.ne_blk HRJ.out (by decide) (by rw [e, hg]), by injection hg with hg; exact .inl hg.symm⟩), HB5.out.setCell HRB.out _⟩, by simp only [intOf]; omega⟩
                    rw [subFill, ← HI.out, ← HY.out]
                    have h := HSJ.out
                    rw [← HY.out] at h
                    rw [← IntWalk.i64_left (y + 1)]
                    exact h
                  · obtain rfl : k = q + 1 + j := by omega
                    go_wp2_with fail
                    have HN : Hid (subIter ((n : Int) - ((q + 1 + j : Nat) : Int)) (q + 1 + j) (subStart (q + 1 + j)) (t + 1) = subFill (s.set q (IntKind.i64.wrap (s.getD q 0 + 1))) (q + 1) j) := by
                      rw [subIter, ← HSE.out, subNext_some HF.out HX.out, show q + 1 + j - (q + 1) = j by omega]; rfl
                    exact ⟨⟨t + 1, by omega, rfl, by rw [HN.out]; exact HRJ, HO5, HB5⟩, by simp only [intOf]; omega⟩
        · obtain rfl : t = c := by omega
          have HE : Hid (addG k n n 0 [] = subList ((n : Int) - (k : Int)) k t) := by rw [← HS.out.1, ← HC.out]; rfl
          go_wp2_with fail
          go_ret2
          refine ⟨_, rfl, ?_, ?_⟩
          · rw [HE.out]; exact HOS.out.names (fun g _ h => .inr h)
          · exact HB.out
end Go.Proofs.Ytdbpbmehcifjpaa

/- 'append(out, s...)' for slices of slices of ints that the call itself made. -/
namespace Go.Proofs.Ytdbpbmehcifjpaa
open Go.RowKit
set_option linter.unusedVariables false
set_option maxRecDepth 100000

section
variable {ops : Array Oper} {rest : List Oper} {o : Oper} {a : Act} {w : World} {K : Act → World → Prop} {Q : Exit → Act → World → Prop} {E : Prop}
theorem wp_catS (s x : Operand)
    (ho : o.op = .call { callee := .builtin .append, args := #[s, x], argTypes := #[25, 25] })
    (B B' : Nat) (X : Nat → Prop) (v u : Value) (xss yss : List (List Int)) (hs : a.eval s = v) (hown : OS B X w v xss) (hx : a.eval x = u)
    (hu : OS B' (fun g => X g ∨ v.ownBlock = some g) w u yss)
    (hl : xss.length + yss.length ≤ 4398046511104) (hB : B ≤ w.heap.size)
    (h : ∀ v' w', OS B X w' v' (xss ++ yss) → w.grownBy w' v.ownBlock → (v'.ownBlock = v.ownBlock ∨ v'.ownBlock = some w.heap.size) → K (a.put o.dst v') w') : o.wp Try.prog a w K Q := by
  obtain ⟨i0, hi, hz0, hz1, hz2⟩ := info_parts Try.infoInts
  obtain ⟨us, ho', hin⟩ := hown
  obtain ⟨ws, hw', hwn⟩ := hu
  have hws : ws.length = yss.length := by have := hw'.1; omega
  have hus : us.length = xss.length := by have := ho'.1; omega
  rcases hw'.2 with ⟨rfl, h0⟩ | ⟨g, cap, cur, rfl, hg, hcur, hnc, hmx, hfz, htk⟩
  · obtain rfl : yss = [] := List.eq_nil_of_length_eq_zero h0
    have hrun : (Builtin.append_ #[25, 25] o.type #[v, .slice none 0 0]).run Try.prog w = .ok v w := by
      rcases ho'.2 with ⟨rfl, h0⟩ | ⟨g, cap, cur, rfl, _, _, hnc, _⟩
      · simp [Builtin.append_, run_underlying Try.underlying25, sizeOf, typeInfo, hi, Builtin.lenOf, Builtin.firstCells]
      · simp [Builtin.append_, run_underlying Try.underlying25, sizeOf, typeInfo, hi, Builtin.lenOf, Builtin.firstCells, hnc, storeCells]
    unfold Oper.wp execOp
    simp only [ho, resolve, invoke, builtin, Sem.run_bind, Sem.run_pure, Result.andThen_ok, List.map_toArray, List.map_cons, List.map_nil, hs, hx, hrun]
    exact h v w (by simpa using ⟨us, ho', hin⟩) (World.grownBy.refl _ _) (.inl rfl)
  · have hone : ∀ y ∈ ws, y.oneCell' = true := by
      intro y hy
      obtain ⟨i, hi', rfl⟩ := List.mem_iff_getElem.1 hy
      obtain ⟨u', hu', hs', _⟩ := hwn i (by omega)
      rw [List.getElem?_eq_getElem hi'] at hu'
      injection hu' with hu'
      obtain ⟨A, c, e, _⟩ := hs'
      rw [hu', e]; rfl
    obtain ⟨v', w', hrun, h1, h2, _, h4⟩ := run_append_own_at (P := Try.prog) w B 25 o.type 22 i0 (.slice none 0 0) 1 24 Try.underlying25 hi hz0 hz1 hz2 rfl (by decide) v xss.length us ho'
      ⟨g, 0, none⟩ yss.length cap ws (by omega) (fun j y hj => by
        have := World.ownsRow.cells hw' (g := g) rfl j y hj
        simpa [Addr.add] using this) hone (by unfold maxLen; omega) (by omega) hB
    unfold Oper.wp execOp
    simp only [ho, resolve, invoke, builtin, Sem.run_bind, Sem.run_pure, Result.andThen_ok, List.map_toArray, List.map_cons, List.map_nil, hs, hx, hrun]
    refine h v' w' ?_ h2 h4
    refine ⟨us ++ ws, by simpa [hws] using h1, fun i hil => ?_⟩
    rw [List.length_append] at hil
    by_cases e : i < xss.length
    · obtain ⟨y, hy, hsy, hxy⟩ := hin i e
      have hget : (xss ++ yss).getD i [] = xss.getD i [] := by simp [List.getD, List.getElem?_append_left e]
      rw [hget]
      refine ⟨y, by rw [List.getElem?_append_left (by omega)]; exact hy, hsy.grown h2 (fun h0 g' hg' => (hxy h0 g' hg').1), fun h0 g' hg' => ⟨?_, (hxy h0 g' hg').2⟩⟩
      rcases h4 with h4 | h4
      · rw [h4]; exact (hxy h0 g' hg').1
      · rw [h4]; intro e2; have := hsy.lt h0 hg'; injection e2 with e2; omega
    · obtain ⟨y, hy, hsy, hxy⟩ := hwn (i - xss.length) (by omega)
      have hget : (xss ++ yss).getD i [] = yss.getD (i - xss.length) [] := by simp [List.getD, List.getElem?_append_right (show xss.length ≤ i by omega)]
      rw [hget]
      refine ⟨y, by rw [List.getElem?_append_right (by omega), hus]; exact hy, hsy.grown h2 (fun h0 g' hg' e2 => (hxy h0 g' hg').2 (.inr e2)), fun h0 g' hg' => ⟨?_, fun hX => (hxy h0 g' hg').2 (.inl hX)⟩⟩
      rcases h4 with h4 | h4
      · rw [h4]; exact fun e2 => (hxy h0 g' hg').2 (.inr e2)
      · rw [h4]; intro e2; have := hsy.lt h0 hg'; injection e2 with e2; omega
theorem wpList_catS (hg : o.guard = none) (s x : Operand)
    (ho : o.op = .call { callee := .builtin .append, args := #[s, x], argTypes := #[25, 25] })
    (B B' : Nat) (X : Nat → Prop) (v u : Value) (xss yss : List (List Int)) (hs : a.eval s = v) (hown : OS B X w v xss) (hx : a.eval x = u)
    (hu : OS B' (fun g => X g ∨ v.ownBlock = some g) w u yss)
    (hl : xss.length + yss.length ≤ 4398046511104) (hB : B ≤ w.heap.size)
    (h : ∀ v' w', OS B X w' v' (xss ++ yss) → w.grownBy w' v.ownBlock → (v'.ownBlock = v.ownBlock ∨ v'.ownBlock = some w.heap.size) → wpList Try.prog ops Q rest (a.put o.dst v') w') : wpList Try.prog ops Q (o :: rest) a w :=
  wpList_plain hg fun K hK => wp_catS s x ho B B' X v u xss yss hs hown hx hu hl hB fun v' w' h1 h2 h3 => hK _ _ (h v' w' h1 h2 h3)
end

theorem catS_src {w w1 : World} {X : Nat → Prop} {v u : Value} {B : Nat} {xss yss : List (List Int)} (h : OS w.heap.size (fun g => g < w.heap.size) w1 u yss) (hv : OS B X w v xss) (hX : ∀ g, X g → g < w.heap.size) :
    OS w.heap.size (fun g => X g ∨ v.ownBlock = some g) w1 u yss :=
  h.names fun g _ hg => hg.elim (hX g) fun e => (hv.lt e).2
end Go.Proofs.Ytdbpbmehcifjpaa

/- 'append(out, s...)' for slices of slices of ints that the call itself made; ref15.Monomials. -/
namespace Go.Proofs.Ytdbpbmehcifjpaa
open Go.RowKit
set_option linter.unusedVariables false
set_option maxRecDepth 100000

set_option maxHeartbeats 16000000 in
theorem rmonos_any (w : World) (r m : Int) : Calls Try.prog 13 #[.int .i64 r, .int .i64 m] w (RetSE w (monoSpec r m).1 (monoSpec r m).2) := by
  by_cases hbad : m < 0 ∨ 6 < m ∨ r < -1 ∨ m < r
  · rw [show monoSpec r m = ([], 6) by unfold monoSpec; rw [if_pos hbad]]
    go_enter Try.func13, Try.ntmps13
    go_wp2_with fail
    all_goals first
      | (go_ret2; exact RetSE.nil w 6 (bl_refl _))
      | (exfalso; omega)
  · have e : monoSpec r m = (monoTo m.toNat (r + 1).toNat, 0) := by unfold monoSpec; rw [if_neg hbad]
    rw [e]; clear e
    obtain ⟨n, rfl⟩ : ∃ n : Nat, m = n := ⟨m.toNat, by omega⟩
    have h1 : 0 ≤ (n : Int) := by omega
    have h2 : (n : Int) ≤ 6 := by omega
    have h3 : -1 ≤ r := by omega
    have h4 : r ≤ n := by omega
    clear hbad
    have d1 : decide ((n : Int) < 0) = false := by simp
    have d2 : decide (6 < (n : Int)) = false := by simp; omega
    have d3 : decide (r < -1) = false := by simp; omega
    have d4 : decide ((n : Int) < r) = false := by simp; omega
    go_enter Try.func13, Try.ntmps13
    go_wp2_with fail
    have HO0 : Hid (OS w.heap.size (fun _ => False) (w.alloc (.cells #[] 22)) (.slice (some ⟨w.heap.size, 0, none⟩) 0 0) []) := OS.empty w (Nat.le_refl _)
    have HB0 := Lib.hid (bl_alloc w (.cells #[] 22))
    clear d1 d2 d3 d4
    go_loopw [6, 7] (fun v x wr => ∃ k : Nat, (k : Int) ≤ r + 1 ∧ x = .int .i64 (k : Int) ∧ Hid (OS w.heap.size (fun _ => False) wr v (monoTo n k)) ∧ Hid (Below w.heap.size w wr)) (fun _ x _ => (r + 1 - intOf x).toNat)
    case atStart => exact ⟨0, by omega, rfl, HO0, HB0⟩
    case round =>
      obtain ⟨k, hk, rfl, HO, HB⟩ := hrel
      by_cases hlt : (k : Int) ≤ r
      · have hkn : k ≤ n := by omega
        have hn6 : n ≤ 6 := by omega
        go_wp2_with fail
        refine (subsets_any _ _ _ hn6 hkn).mono ?_
        rintro e w1 ⟨u, rfl, hs1, hb1⟩
        have HS1 := Lib.hid (catS_src hs1 HO.out (fun g hg => by cases hg)); clear hs1
        have HB1 := Lib.hid (bl_trans HB.out hb1)
        have HO1 := Lib.hid (HO.out.below hb1); clear hb1
        have HLEN : Hid ((monoTo n k).length + (addG k n n 0 []).length ≤ 4398046511104) := by
          have := mono_room (mn := n) (k := k + 1) (by omega) (by omega)
          rw [monoTo_succ, List.length_append] at this
          show _ ≤ _; omega
        go_wp2_with (at_builtin; refine wpList_catS rfl _ _ rfl w.heap.size _ (fun _ => False) _ _ (monoTo n k) (addG k n n 0 []) rfl HO1.out rfl HS1.out HLEN.out HB1.out.size ?_; intro v3 w3 ho hg hv3)
        exact ⟨⟨k + 1, by omega, rfl, by rw [monoTo_succ]; exact ho, HO1.out.bgrown HB1.out HB1.out.size hg⟩, by simp only [intOf]; omega⟩
      · go_wp2_with fail
        go_ret2
        rw [show (r + 1).toNat = k by omega]
        have hlen := mono_room (mn := n) (k := k) (by omega) (by omega)
        exact ⟨_, rfl, HO.out.ss (by omega), fun g hg => (HO.out.lt hg).1, HB.out⟩
end Go.Proofs.Ytdbpbmehcifjpaa

/- ref11.Compare, ref11.Same; ref11.IsSubset. -/
namespace Go.Proofs.Ytdbpbmehcifjpaa
open Go.RowKit
set_option linter.unusedVariables false
set_option maxRecDepth 100000

/-- the comparison of two lists -/
def compareF : List Int → List Int → Int
  | [], [] => 0
  | [], _ :: _ => -1
  | _ :: _, [] => 1
  | x :: a, y :: b => if x < y then -1 else if y < x then 1 else compareF a b
theorem compareF_zero : ∀ a b : List Int, compareF a b = 0 ↔ a = b
  | [], [] => by simp [compareF]
  | [], _ :: _ => by simp [compareF]
  | _ :: _, [] => by simp [compareF]
  | x :: a, y :: b => by
    unfold compareF
    have ih := compareF_zero a b
    by_cases h1 : x < y
    · rw [if_pos h1]; simp; omega
    · rw [if_neg h1]
      by_cases h2 : y < x
      · rw [if_pos h2]; simp; omega
      · rw [if_neg h2, ih]
        have : x = y := by omega
        simp [this]
theorem compareF_same_at : ∀ (k : Nat) (a b : List Int), (∀ j, j < k → a.getD j 0 = b.getD j 0) → k ≤ a.length → k ≤ b.length → compareF a b = compareF (a.drop k) (b.drop k)
  | 0, a, b, _, _, _ => by simp
  | k + 1, [], _, _, h, _ => absurd h (by simp)
  | k + 1, _ :: _, [], _, _, h => absurd h (by simp)
  | k + 1, x :: a, y :: b, h, ha, hb => by
    have h0 : x = y := by have := h 0 (by omega); simpa using this
    subst h0
    rw [compareF, if_neg (by omega), if_neg (by omega), compareF_same_at k a b (fun j hj => by have := h (j + 1) (by omega); simpa using this) (by simpa using ha) (by simpa using hb)]
    rfl
theorem drop_getD {a : List Int} {k : Nat} (h : k < a.length) : a.drop k = a.getD k 0 :: a.drop (k + 1) := by
  rw [List.drop_eq_getElem_cons h]; simp [List.getD, h]

/-- IsSubset's answer -/
def subsetB (n : Int) (s : List Int) : Bool := decide (SubsetP n s)

set_option maxHeartbeats 2000000 in
theorem isSubset_any (w : World) (n : Int) (v : Value) (s : List Int) (h : SI w v s) :
    Calls Try.prog 64 #[.int .i64 n, v] w (RetB w (subsetB n s)) := by
  obtain ⟨A, c, rfl, h⟩ := h
  have hn := h.len
  have H := Lib.hid h; clear h
  go_enter Try.func64, Try.ntmps64
  go_wp2
  go_loopw [5] (fun i wr => ∃ k : Nat, k ≤ s.length ∧ i = .int .i64 k ∧ Hid (∀ i, i < k → (0 ≤ s.getD i 0 ∧ s.getD i 0 < n) ∧ (0 < i → s.getD (i - 1) 0 < s.getD i 0)) ∧ Hid (Below w.heap.size w wr)) (fun i _ => s.length - (intOf i).toNat)
  case atStart => exact ⟨0, Nat.zero_le _, rfl, hid' fun j hj => absurd hj (by omega), bl_refl _⟩
  case round =>
    obtain ⟨k, hk, rfl, HG, HW⟩ := hrel
    by_cases hlt : k < s.length
    · obtain ⟨ad, x, rfl, hc, _, HX⟩ := (H.out.below HW.out (Nat.le_refl _)).elt hlt
      have HF : Hid (¬ (0 ≤ x ∧ x < n) ∨ (0 < k ∧ x ≤ s.getD (k - 1) 0) → subsetB n s = false) := fun hbad => by
        unfold subsetB
        rw [decide_eq_false_iff_not]
        intro hs
        have := hs k hlt
        rw [HX.out] at this
        omega
      by_cases h0 : 0 ≤ x ∧ x < n
      · obtain ⟨h0, h1⟩ := h0
        by_cases hpos : 0 < k
        · obtain ⟨ad', y, e', hc', _, HY⟩ := (H.out.below HW.out (Nat.le_refl _)).elt (k := k - 1) (by omega)
          obtain rfl := Option.some.inj e'
          clear e'
          have hpz : (0 : Int) < (k : Int) := by omega
          have hkm : ((k : Int) - 1).toNat = k - 1 := by omega
          go_wp2_with fail
          go_quiet (fail)
          by_cases hxy : x ≤ y
          · have HE := Lib.hid (HF.out (.inr ⟨hpos, by rw [HY.out]; exact hxy⟩))
            go_wp2
            go_ret
            exact ⟨by rw [HE.out]; rfl, bl_trans HW.out (bl_drewN _ _)⟩
          · go_wp2
            go_roundw
            case rel => exact ⟨k + 1, by omega, by go_num, hid' fun j hj => by
              by_cases e : j = k
              · subst e; rw [HX.out, HY.out]; omega
              · exact HG.out j (by omega), bl_trans HW.out (bl_drewN _ _)⟩
            case measure => simp [intOf]; omega
        · have hpz : decide ((0 : Int) < (k : Int)) = false := by simp; omega
          have hpz2 : ¬ (0 : Int) < (k : Int) := by omega
          go_wp2_with fail
          go_quiet (fail)
          go_wp2
          go_roundw
          case rel => exact ⟨k + 1, by omega, by go_num, hid' fun j hj => by
            have e : j = k := by omega
            subst e; rw [HX.out]; omega, bl_trans HW.out (bl_drewN _ _)⟩
          case measure => simp [intOf]; omega
      · have HE := Lib.hid (HF.out (.inl h0))
        clear HF
        by_cases hx0 : x < 0
        · go_wp2
          go_ret
          exact ⟨by rw [HE.out]; rfl, HW.out⟩
        · have hx1 : n ≤ x := by omega
          go_wp2
          go_ret
          exact ⟨by rw [HE.out]; rfl, HW.out⟩
    · obtain rfl : k = s.length := by omega
      have HE : Hid (subsetB n s = true) := by
        have : subsetB n s = true := decide_eq_true HG.out
        exact this
      go_wp2
      go_ret
      exact ⟨by rw [HE.out]; rfl, HW.out⟩
end Go.Proofs.Ytdbpbmehcifjpaa

/- majority.mask: the variables as bits. -/
namespace Go.Proofs.Ytdbpbmehcifjpaa
open Go.RowKit

theorem or_step (m : Nat) (x : Int) (hm : m < 64) (_ : 0 ≤ x) (h1 : x < 6) : bits .or .i64 (m : Int) (wrap64 (2 ^ x.toNat)) = ((m ||| 2 ^ x.toNat : Nat) : Int) := by
  have hp := pow_lt_64 h1
  rw [show ((2 : Int) ^ x.toNat) = ((2 ^ x.toNat : Nat) : Int) by simp]
  generalize 2 ^ x.toNat = q at *
  rw [IntWalk.wrap64_in _ ⟨by omega, by omega⟩, i64_or_nat m _ (by omega) (by omega)]

end Go.Proofs.Ytdbpbmehcifjpaa

/- classic.Evaluate: the values of a monomial. -/
namespace Go.Proofs.Ytdbpbmehcifjpaa
open Go.RowKit
set_option linter.unusedVariables false
set_option maxRecDepth 100000

theorem sub_bad {m : Int} {vars : List Int} {k : Nat} (hk : k < vars.length) (h : ¬ (0 ≤ vars.getD k 0 ∧ vars.getD k 0 < m) ∨ (0 < k ∧ vars.getD k 0 ≤ vars.getD (k - 1) 0)) : ¬ SubsetP m vars := by
  intro hs
  have := hs k hk
  omega

/-- the list that holds the values of the points below k, and 0 behind -/
def evalTo (m : Int) (vars : List Int) (k : Nat) : List Int := (List.range (2 ^ m.toNat)).map fun p => if p < k then (if p &&& maskN vars = maskN vars then 1 else 0) else 0
theorem evalTo_zero (m : Int) (vars : List Int) : evalTo m vars 0 = List.replicate (2 ^ m.toNat) 0 := by
  unfold evalTo
  simp [List.map_const']
theorem evalTo_full (m : Int) (vars : List Int) : evalTo m vars (2 ^ m.toNat) = evalF m vars := by
  unfold evalTo evalF
  exact List.map_congr_left fun p hp => by rw [if_pos (by simpa using hp)]
theorem length_evalTo (m : Int) (vars : List Int) (k : Nat) : (evalTo m vars k).length = 2 ^ m.toNat := by simp [evalTo]
theorem evalTo_getD (m : Int) (vars : List Int) (k : Nat) : (evalTo m vars k).getD k 0 = 0 := by
  unfold evalTo
  by_cases h : k < 2 ^ m.toNat <;> simp [List.getD, h]
theorem evalTo_yes (m : Int) (vars : List Int) (k : Nat) (hy : k &&& maskN vars = maskN vars) : evalTo m vars (k + 1) = (evalTo m vars k).set k 1 := by
  apply List.ext_getElem?
  intro i
  by_cases hi : i < 2 ^ m.toNat
  · by_cases e : k = i
    · subst e; simp [evalTo, hi, hy]
    · have h2 : (i < k + 1) = (i < k) := by simp; omega
      simp [evalTo, List.getElem?_set, e, hi, h2]
  · simp [evalTo, List.getElem?_set, hi]
theorem evalTo_no (m : Int) (vars : List Int) (k : Nat) (hn : ¬ k &&& maskN vars = maskN vars) : evalTo m vars (k + 1) = evalTo m vars k := by
  unfold evalTo
  refine List.map_congr_left fun p hp => ?_
  by_cases e : p = k
  · subst e; simp [hn]
  · have h2 : (p < k + 1) = (p < k) := by simp; omega
    simp [h2]
theorem and_beq (k m : Nat) (hk : k < 64) (hm : m < 64) : (bits .and .i64 (k : Int) (m : Int) == (m : Int)) = decide (k &&& m = m) := by
  rw [i64_and_nat k m (by omega) (by omega)]
  by_cases h : k &&& m = m
  · rw [h]; simp
  · have : ((k &&& m : Nat) : Int) ≠ (m : Int) := by omega
    simp [h, this]
theorem i64_evalTo (m : Int) (vars : List Int) (k i : Nat) : I64 ((evalTo m vars k).getD i 0) := by
  unfold evalTo
  by_cases hi : i < 2 ^ m.toNat
  · simp only [List.getD, List.getElem?_map, List.getElem?_range hi, Option.map_some, Option.getD_some]
    split
    · split <;> exact I64.of_small (by omega) (by omega)
    · exact I64.of_small (by omega) (by omega)
  · simp [List.getD, hi]; exact I64.of_small (by omega) (by omega)

set_option maxHeartbeats 1000000 in
theorem eval_range (w : World) (m : Int) (v : Value) (vars : List Int) (h : SI w v vars) (hm : m < 0 ∨ 6 < m) :
    Calls Try.prog 28 #[.int .i64 m, v] w (RetLE w [] 6) := by
  obtain ⟨A, c, rfl, h⟩ := h
  clear h
  rcases hm with hm | hm
  · go_enter Try.func28, Try.ntmps28
    go_wp2
    go_ret2
    exact RetLE.nil w 6 (Below.refl _ _)
  · have hm0 : ¬ m < 0 := by omega
    go_enter Try.func28, Try.ntmps28
    go_wp2
    go_ret2
    exact RetLE.nil w 6 (Below.refl _ _)

set_option maxHeartbeats 2000000 in
theorem eval_in (w : World) (m : Int) (v : Value) (vars : List Int) (h : SI w v vars) (hm0 : 0 ≤ m) (hm6 : m ≤ 6) :
    Calls Try.prog 28 #[.int .i64 m, v] w (RetLE w (evalSpec m vars).1 (evalSpec m vars).2) := by
  obtain ⟨A, c, rfl, h⟩ := h
  have hn := h.len
  have hmk := two_pow_le hm6
  generalize hN : 2 ^ m.toNat = N at *
  have HN := Lib.hid hN; clear hN
  obtain ⟨i0, hi, hz0, hz1, hz2⟩ := info_parts Try.infoInt
  go_enter Try.func28, Try.ntmps28
  go_wp2
  go_loop [6, 19] (fun mk i => ∃ (k : Nat), k ≤ vars.length ∧ i = .int .i64 k ∧ mk = .int .i64 (maskN (vars.take k)) ∧ Hid (∀ i, i < k → (0 ≤ vars.getD i 0 ∧ vars.getD i 0 < m) ∧ (0 < i → vars.getD (i - 1) 0 < vars.getD i 0))) (fun _ i => vars.length - (intOf i).toNat)
  case atStart => exact ⟨0, Nat.zero_le _, rfl, rfl, Lib.hid fun i hi => absurd hi (by omega)⟩
  case round =>
    obtain ⟨k, hk, rfl, rfl, HG⟩ := hrel
    have H := Lib.hid h; clear h
    by_cases hlt : k < vars.length
    · obtain ⟨ad, rfl, hc⟩ := H.out.cell k hlt
      have HX : Hid (vars.getD k 0 = vars.getD k 0) := rfl
      have hbad := @sub_bad m vars k hlt
      have HB := Lib.hid hbad; clear hbad
      have HS : Hid (0 ≤ vars.getD k 0 → vars.getD k 0 < 6 → bits .or .i64 (maskN (vars.take k) : Int) (wrap64 (2 ^ (vars.getD k 0).toNat)) = (maskN (vars.take (k + 1)) : Int)) := fun h0 h1 => by
        rw [or_step _ _ (maskN_lt _ (all_take fun i hi hi' => by have := HG.out i hi; omega)) h0 h1, take_snoc vars k hlt, maskN_snoc]
      by_cases hpos : 0 < k
      · obtain ⟨ad', e', hc'⟩ := H.out.cell (k - 1) (by omega)
        obtain rfl := Option.some.inj e'
        generalize hx : vars.getD k 0 = x at *
        generalize hy : vars.getD (k - 1) 0 = y at *
        have HXX := Lib.hid hx; clear hx
        have HYY := Lib.hid hy; clear hy
        have hpz : (0 : Int) < (k : Int) := by omega
        have hkm : ((k : Int) - 1).toNat = k - 1 := by omega
        clear HX
        go_wp2
        all_goals first
          | (go_round
             case rel => exact ⟨k + 1, by omega, by go_num, by rw [HS.out (by omega) (by omega)], hid' fun i hi => by
               by_cases e : i = k
               · subst e; rw [HXX.out, HYY.out]; omega
               · exact HG.out i (by omega)⟩
             case measure => simp [intOf]; omega)
          | (go_ret2
             rw [evalSpec_bad hm0 hm6 (HB.out (by omega))]
             exact RetLE.nil w 5 (Below.refl _ _))
      · have hk0 : Hid (k = 0) := by have h0 : k = 0 := by omega
                                     exact h0
        have hpz : ¬ (0 : Int) < (k : Int) := by omega
        generalize hx : vars.getD k 0 = x at *
        have HXX := Lib.hid hx; clear hx
        clear HX
        go_wp2
        all_goals first
          | (go_round
             case rel => exact ⟨k + 1, by omega, by go_num, by rw [HS.out (by omega) (by omega)], hid' fun i hi => by
               have e0 := hk0.out
               have e : i = k := by omega
               subst e; rw [HXX.out]; omega⟩
             case measure => simp [intOf]; omega)
          | (go_ret2
             rw [evalSpec_bad hm0 hm6 (HB.out (by omega))]
             exact RetLE.nil w 5 (Below.refl _ _))
    · obtain rfl : k = vars.length := by omega
      have hs : SubsetP m vars := HG.out
      have HE : Hid (evalSpec m vars = (evalF m vars, 0)) := evalSpec_ok hm0 hm6 hs
      have hlt64 := maskN_lt vars (fun x hx => by
        obtain ⟨i, hi, he⟩ := List.mem_iff_getElem.1 hx
        have := (hs i hi).1.2
        simp [List.getD, hi] at this
        omega)
      rw [List.take_length]
      clear HG hs
      generalize hM : maskN vars = M at *
      have HM := Lib.hid hM; clear hM
      have hp2 : (2 : Int) ^ m.toNat = (N : Int) := by rw [← HN.out]; simp
      have hmki := run_mkI N (by omega)
      go_wp2
      clear hmki
      have HO : Hid (OI w.heap.size (w.alloc (.cells (madeCells #[.int .i64 0] N) 3)) (.slice (some ⟨w.heap.size, 0, none⟩) N N) (evalTo m vars 0)) := by
        rw [evalTo_zero, HN.out]; exact OI.made w N (Nat.le_refl _) (by omega)
      have HL : Hid (∀ k, (evalTo m vars k).length = N) := fun k => by rw [length_evalTo, HN.out]
      go_loopw [54] (fun i wr => ∃ (k : Nat), k ≤ N ∧ i = .int .i64 k ∧ Hid (OI w.heap.size wr (.slice (some ⟨w.heap.size, 0, none⟩) N N) (evalTo m vars k)) ∧ Below w.heap.size w wr) (fun i _ => N - (intOf i).toNat)
      case atStart => exact ⟨0, Nat.zero_le _, rfl, HO, (Below.refl _ _).alloc (Nat.le_refl _) _⟩
      case round =>
        obtain ⟨k, hkN, rfl, HOk, hb⟩ := hrel
        by_cases hltN : k < N
        · have hcell := HOk.out.cell k (by rw [HL.out]; exact hltN)
          have hfr := HOk.out.frozen k
          rw [evalTo_getD] at hcell
          have htest := and_beq k M (by omega) hlt64
          by_cases hy : k &&& M = M
          · rw [decide_eq_true hy] at htest
            have HY := Lib.hid hy; clear hy
            go_wp2
            go_roundw
            case rel => exact ⟨k + 1, by omega, by go_num, by rw [evalTo_yes m vars k (by rw [HM.out]; exact HY.out)]; exact HOk.out.set k 1, hb.setCell (Nat.le_refl _) _⟩
            case measure => simp [intOf]; omega
          · rw [decide_eq_false hy] at htest
            have HY := Lib.hid hy; clear hy
            go_wp2
            go_roundw
            case rel => exact ⟨k + 1, by omega, by go_num, by rw [evalTo_no m vars k (by rw [HM.out]; exact HY.out)]; exact HOk, hb⟩
            case measure => simp [intOf]; omega
        · obtain rfl : k = N := by omega
          go_wp2
          go_ret2
          rw [HE.out]
          have e2 : evalF m vars = evalTo m vars k := by rw [← HN.out]; exact (evalTo_full m vars).symm
          refine ⟨_, rfl, ?_, HOk.out.new (Nat.le_refl _), hb⟩
          rw [e2]
          exact HOk.out.si (by rw [HL.out]; omega) (fun i => i64_evalTo m vars _ i)

/-- classic.Evaluate, whole -/
theorem eval_any (w : World) (m : Int) (v : Value) (vars : List Int) (h : SI w v vars) :
    Calls Try.prog 28 #[.int .i64 m, v] w (RetLE w (evalSpec m vars).1 (evalSpec m vars).2) := by
  by_cases h0 : m < 0
  · rw [evalSpec_lo vars h0]; exact eval_range w m v vars h (.inl h0)
  · by_cases h6 : 6 < m
    · rw [evalSpec_hi vars h6]; exact eval_range w m v vars h (.inr h6)
    · exact eval_in w m v vars h (by omega) (by omega)
end Go.Proofs.Ytdbpbmehcifjpaa

/- ref15.Evaluate: the reference's values of a monomial. -/
namespace Go.Proofs.Ytdbpbmehcifjpaa
open Go.RowKit
set_option linter.unusedVariables false
set_option maxRecDepth 100000

/-- the value at the point p, of the first j variables -/
def bitAll (p : Nat) (l : List Int) : Int := if ∀ v ∈ l, p.testBit v.toNat = true then 1 else 0
/-- the list whose first k entries are done, and the entry k for the first j variables; 0 behind -/
def revTo (N : Nat) (vars : List Int) (k : Nat) : List Int := (List.range N).map fun p => if p < k then bitAll p vars else 0
def revAt (N : Nat) (vars : List Int) (k j : Nat) : List Int := (revTo N vars k).set k (bitAll k (vars.take j))
theorem revTo_zero (N : Nat) (vars : List Int) : revTo N vars 0 = List.replicate N 0 := by simp [revTo, List.map_const']
theorem revTo_len (N : Nat) (vars : List Int) (k : Nat) : (revTo N vars k).length = N := by simp [revTo]
theorem revAt_len (N : Nat) (vars : List Int) (k j : Nat) : (revAt N vars k j).length = N := by simp [revAt, revTo]
theorem revAt_zero (N : Nat) (vars : List Int) (k : Nat) : (revTo N vars k).set k 1 = revAt N vars k 0 := by simp [revAt, bitAll]
theorem bitAll_snoc_no {p : Nat} {l : List Int} {x : Int} (h : p.testBit x.toNat = false) : bitAll p (l ++ [x]) = 0 := by
  unfold bitAll; rw [if_neg]; intro hh; have := hh x (by simp); rw [h] at this; simp at this
theorem bitAll_snoc_yes {p : Nat} {l : List Int} {x : Int} (h : p.testBit x.toNat = true) : bitAll p (l ++ [x]) = bitAll p l := by
  unfold bitAll
  by_cases hl : ∀ v ∈ l, p.testBit v.toNat = true
  · rw [if_pos hl, if_pos]; intro v hv; rcases List.mem_append.1 hv with hv | hv
    · exact hl v hv
    · simp at hv; subst hv; exact h
  · rw [if_neg hl, if_neg]; intro hh; exact hl fun v hv => hh v (by simp [hv])
theorem revAt_no (N : Nat) {vars : List Int} {k j : Nat} (hj : j < vars.length) (h : k.testBit (vars.getD j 0).toNat = false) : (revAt N vars k j).set k 0 = revAt N vars k (j + 1) := by
  unfold revAt; rw [take_snoc vars j hj, bitAll_snoc_no h]; simp
theorem revAt_yes (N : Nat) {vars : List Int} {k j : Nat} (hj : j < vars.length) (h : k.testBit (vars.getD j 0).toNat = true) : revAt N vars k j = revAt N vars k (j + 1) := by
  unfold revAt; rw [take_snoc vars j hj, bitAll_snoc_yes h]
theorem revAt_end (N : Nat) (vars : List Int) (k : Nat) : revAt N vars k vars.length = revTo N vars (k + 1) := by
  unfold revAt
  rw [List.take_length]
  apply List.ext_getElem?
  intro i
  by_cases hi : i < N
  · by_cases e : k = i
    · subst e; simp [revTo, hi]
    · have h2 : (i < k + 1) = (i < k) := by simp; omega
      simp [revTo, List.getElem?_set, e, hi, h2]
  · simp [revTo, List.getElem?_set, hi]
theorem revTo_full (m : Int) (vars : List Int) : revTo (2 ^ m.toNat) vars (2 ^ m.toNat) = evalF m vars := by
  unfold revTo evalF
  refine List.map_congr_left fun p hp => ?_
  rw [if_pos (by simpa using hp)]
  unfold bitAll
  by_cases h : p &&& maskN vars = maskN vars
  · rw [if_pos h, if_pos ((and_maskN vars p).1 h)]
  · rw [if_neg h, if_neg (fun hh => h ((and_maskN vars p).2 hh))]
theorem i64_revTo (N : Nat) (vars : List Int) (k i : Nat) : I64 ((revTo N vars k).getD i 0) := by
  unfold revTo
  by_cases hi : i < N
  · simp only [List.getD, List.getElem?_map, List.getElem?_range hi, Option.map_some, Option.getD_some, bitAll]
    split
    · split <;> exact I64.of_small (by omega) (by omega)
    · exact I64.of_small (by omega) (by omega)
  · simp [List.getD, hi]; exact I64.of_small (by omega) (by omega)

set_option maxHeartbeats 1000000 in
theorem reval_range (w : World) (m : Int) (v : Value) (vars : List Int) (h : SI w v vars) (hm : m < 0 ∨ 6 < m) :
    Calls Try.prog 36 #[.int .i64 m, v] w (RetLE w [] 6) := by
  obtain ⟨A, c, rfl, h⟩ := h
  clear h
  rcases hm with hm | hm
  · go_enter Try.func36, Try.ntmps36
    go_wp2_with fail
    go_ret2
    exact RetLE.nil w 6 (Below.refl _ _)
  · have hm0 : ¬ m < 0 := by omega
    go_enter Try.func36, Try.ntmps36
    go_wp2_with fail
    go_ret2
    exact RetLE.nil w 6 (Below.refl _ _)

theorem subsetB_true {n : Int} {s : List Int} (h : SubsetP n s) : subsetB n s = true := decide_eq_true h
theorem subsetB_false {n : Int} {s : List Int} (h : ¬ SubsetP n s) : subsetB n s = false := decide_eq_false h

/-- the test of one bit, as the walk has it -/
theorem bit_test {k : Nat} {x : Int} (hk : k < 64) (h0 : 0 ≤ x) (h6 : x < 6) : (bits .and .i64 ((k : Int) / 2 ^ x.toNat) 1 == 0) = !(k.testBit x.toNat) := by
  rw [show ((k : Int) / 2 ^ x.toNat) = ((k / 2 ^ x.toNat : Nat) : Int) by simp, show (1 : Int) = ((1 : Nat) : Int) from rfl]
  have hle : k / 2 ^ x.toNat ≤ k := Nat.div_le_self _ _
  rw [i64_and_nat _ _ (by omega) (by omega), Nat.testBit_eq_decide_div_mod_eq]
  have h2 : k / 2 ^ x.toNat &&& 1 = k / 2 ^ x.toNat % 2 := Nat.and_one_is_mod _
  rw [h2]
  have h3 : k / 2 ^ x.toNat % 2 = 0 ∨ k / 2 ^ x.toNat % 2 = 1 := by omega
  rcases h3 with h3 | h3 <;> simp [h3]

set_option maxHeartbeats 4000000 in
theorem reval_in (w : World) (m : Int) (v : Value) (vars : List Int) (h : SI w v vars) (hm0 : 0 ≤ m) (hm6 : m ≤ 6) :
    Calls Try.prog 36 #[.int .i64 m, v] w (RetLE w (evalSpec m vars).1 (evalSpec m vars).2) := by
  have HSI := Lib.hid h
  obtain ⟨A, c, rfl, h⟩ := h
  have hn := h.len
  have H := Lib.hid h; clear h
  by_cases hs : SubsetP m vars
  · have HE : Hid (evalSpec m vars = (evalF m vars, 0)) := evalSpec_ok hm0 hm6 hs
    have HS := Lib.hid hs; clear hs
    have hmk := two_pow_le hm6
    generalize hN : 2 ^ m.toNat = N at *
    have hp2 : (2 : Int) ^ m.toNat = (N : Int) := by rw [← hN]; simp
    have HN := Lib.hid hN; clear hN
    have hmki := run_mkI N (by omega)
    go_enter Try.func36, Try.ntmps36
    go_wp2_with fail
    refine (isSubset_any _ _ _ vars HSI.out).mono ?_
    rintro e w1 ⟨rfl, hb1⟩
    rw [subsetB_true HS.out]
    have HB1 := Lib.hid hb1; clear hb1
    go_wp2_with fail
    clear hmki hp2
    have HO : Hid (OI w1.heap.size (w1.alloc (.cells (madeCells #[.int .i64 0] N) 3)) (.slice (some ⟨w1.heap.size, 0, none⟩) N N) (revTo N vars 0)) := by
      rw [revTo_zero]; exact OI.made w1 N (Nat.le_refl _) (by omega)
    go_loopw [7] (fun i wr => ∃ (k : Nat), k ≤ N ∧ i = .int .i64 k ∧ Hid (OI w1.heap.size wr (.slice (some ⟨w1.heap.size, 0, none⟩) N N) (revTo N vars k)) ∧ Hid (Below w1.heap.size w1 wr)) (fun i _ => N - (intOf i).toNat)
    case atStart => exact ⟨0, Nat.zero_le _, rfl, HO, bl_alloc _ _⟩
    case round =>
      obtain ⟨k, hkN, rfl, HOk, HBk⟩ := hrel
      by_cases hltN : k < N
      · have hcell := HOk.out.cell k (by rw [revTo_len]; exact hltN)
        have hfr := HOk.out.frozen k
        have HO1 : Hid (OI w1.heap.size (wr.setCell ⟨w1.heap.size, k, none⟩ (.int .i64 1)) (.slice (some ⟨w1.heap.size, 0, none⟩) N N) (revAt N vars k 0)) := by
          rw [← revAt_zero]; exact HOk.out.set k 1
        have HB2 : Hid (Below w1.heap.size w1 (wr.setCell ⟨w1.heap.size, k, none⟩ (.int .i64 1))) := HBk.out.setCell (Nat.le_refl _) _
        generalize hgen : (revTo N vars k).getD k 0 = old at *
        go_wp2_with fail
        clear hcell hfr hgen
        go_loopw [8] (fun i wr => ∃ (j : Nat), j ≤ vars.length ∧ i = .int .i64 j ∧ Hid (OI w1.heap.size wr (.slice (some ⟨w1.heap.size, 0, none⟩) N N) (revAt N vars k j)) ∧ Hid (Below w1.heap.size w1 wr)) (fun i _ => vars.length - (intOf i).toNat)
        case atStart => exact ⟨0, Nat.zero_le _, rfl, HO1, HB2⟩
        case round =>
          obtain ⟨j, hj, rfl, HOj, HBj⟩ := hrel
          by_cases hlj : j < vars.length
          · obtain ⟨ad, x, rfl, hc, _, HX⟩ := (H.out.below (bl_trans HB1.out HBj.out) (Nat.le_refl _)).elt hlj
            have hxs := (HS.out j hlj).1
            rw [HX.out] at hxs
            obtain ⟨hx0, hx1⟩ := hxs
            have hx6 : x < 6 := by omega
            have ht := bit_test (k := k) (by omega) hx0 hx6
            by_cases hbit : k.testBit x.toNat = true
            · rw [hbit] at ht
              simp only [Bool.not_true] at ht
              have HBIT := Lib.hid hbit; clear hbit
              go_wp2_with fail
              go_roundw
              case rel => exact ⟨j + 1, by omega, by go_num, by rw [← revAt_yes N hlj (by rw [HX.out]; exact HBIT.out)]; exact HOj, HBj⟩
              case measure => simp [intOf]; omega
            · have hbit : k.testBit x.toNat = false := by simpa using hbit
              rw [hbit] at ht
              simp only [Bool.not_false] at ht
              have HBIT := Lib.hid hbit; clear hbit
              have hcell := HOj.out.cell k (by rw [revAt_len]; exact hltN)
              have hfr := HOj.out.frozen k
              have HO2 := Lib.hid (HOj.out.set k 0)
              generalize hgen : (revAt N vars k j).getD k 0 = old at *
              have HGEN := Lib.hid hgen; clear hgen
              go_wp2_with fail
              go_roundw
              case rel => exact ⟨j + 1, by omega, by go_num, by rw [← revAt_no N hlj (by rw [HX.out]; exact HBIT.out)]; exact HO2, HBj.out.setCell (Nat.le_refl _) _⟩
              case measure => simp [intOf]; omega
          · obtain rfl : j = vars.length := by omega
            have HO2 : Hid (OI w1.heap.size wr (.slice (some ⟨w1.heap.size, 0, none⟩) N N) (revTo N vars (k + 1))) := by rw [← revAt_end]; exact HOj
            go_wp2_with fail
            go_roundw
            case rel => exact ⟨k + 1, by omega, by go_num, HO2, HBj⟩
            case measure => simp [intOf]; omega
      · obtain rfl : k = N := by omega
        go_wp2_with fail
        go_ret2
        rw [HE.out]
        refine ⟨_, rfl, ?_, HOk.out.new HB1.out.size, bl_trans HB1.out HBk.out⟩
        rw [show evalF m vars = revTo k vars k by rw [← HN.out]; exact (revTo_full m vars).symm]
        exact HOk.out.si (by rw [revTo_len]; omega) (fun i => i64_revTo _ vars _ i)
  · have HE : Hid (evalSpec m vars = ([], 5)) := evalSpec_bad hm0 hm6 hs
    have HS := Lib.hid hs; clear hs
    go_enter Try.func36, Try.ntmps36
    go_wp2_with fail
    refine (isSubset_any _ _ _ vars HSI.out).mono ?_
    rintro e w1 ⟨rfl, hb1⟩
    rw [subsetB_false HS.out]
    have HB1 := Lib.hid hb1; clear hb1
    go_wp2_with fail
    go_ret2
    rw [HE.out]
    exact RetLE.nil w 5 HB1.out

theorem reval_any (w : World) (m : Int) (v : Value) (vars : List Int) (h : SI w v vars) :
    Calls Try.prog 36 #[.int .i64 m, v] w (RetLE w (evalSpec m vars).1 (evalSpec m vars).2) := by
  by_cases h0 : m < 0
  · rw [evalSpec_lo vars h0]; exact reval_range w m v vars h (.inl h0)
  · by_cases h6 : 6 < m
    · rw [evalSpec_hi vars h6]; exact reval_range w m v vars h (.inr h6)
    · exact reval_in w m v vars h (by omega) (by omega)
end Go.Proofs.Ytdbpbmehcifjpaa

/- Plain facts on votes: sums over the points that differ in the variables of a mask. No program in sight. -/
namespace Go.Proofs.Ytdbpbmehcifjpaa

/-- the sum of the entries of y at the points below n that f takes -/
def sumIf : Nat → (Nat → Bool) → List Int → Int
  | 0, _, _ => 0
  | n + 1, f, y => sumIf n f y + (if f n then y.getD n 0 else 0)

theorem sumIf_congr {f g : Nat → Bool} (y : List Int) : ∀ n, (∀ s, s < n → f s = g s) → sumIf n f y = sumIf n g y
  | 0, _ => rfl
  | n + 1, h => by
    unfold sumIf
    rw [sumIf_congr y n (fun s hs => h s (by omega)), h n (by omega)]
theorem sumIf_none {f : Nat → Bool} (y : List Int) : ∀ n, (∀ s, s < n → f s = false) → sumIf n f y = 0
  | 0, _ => rfl
  | n + 1, h => by
    unfold sumIf
    rw [sumIf_none y n (fun s hs => h s (by omega)), h n (by omega)]
    simp
/-- one point more -/
theorem sumIf_more {f g : Nat → Bool} (y : List Int) {s0 : Nat} (h0 : f s0 = false) (h1 : g s0 = true) : ∀ n, (∀ s, s < n → s ≠ s0 → g s = f s) → s0 < n → sumIf n g y = sumIf n f y + y.getD s0 0
  | 0, _, h => absurd h (by omega)
  | n + 1, h, hs => by
    unfold sumIf
    by_cases e : s0 = n
    · subst e
      rw [sumIf_congr y s0 (fun s hs => h s (by omega) (by omega)), h0, h1]
      simp
    · rw [sumIf_more y h0 h1 n (fun s hs => h s (by omega)) (by omega), h n (by omega) (by omega)]
      omega

/-- the votes -/
def votesF (y : List Int) (mask : Nat) : List Int := ((List.range y.length).filter fun p => p &&& mask == 0).map fun p => sumIf y.length (fun s => s ^^^ (s &&& mask) == p) y % 2
/-- the votes of the points below k -/
def votesTo (y : List Int) (mask k : Nat) : List Int := ((List.range k).filter fun p => p &&& mask == 0).map fun p => sumIf y.length (fun s => s ^^^ (s &&& mask) == p) y % 2
theorem votesTo_zero (y : List Int) (mask : Nat) : votesTo y mask 0 = [] := rfl
theorem votesTo_full (y : List Int) (mask : Nat) : votesTo y mask y.length = votesF y mask := rfl
theorem votesTo_yes (y : List Int) (mask k : Nat) (h : k &&& mask = 0) : votesTo y mask (k + 1) = votesTo y mask k ++ [sumIf y.length (fun s => s ^^^ (s &&& mask) == k) y % 2] := by
  simp [votesTo, List.range_succ, List.filter_append, h]
theorem votesTo_no (y : List Int) (mask k : Nat) (h : ¬ k &&& mask = 0) : votesTo y mask (k + 1) = votesTo y mask k := by
  simp [votesTo, List.range_succ, List.filter_append, h]
theorem votesTo_len (y : List Int) (mask k : Nat) : (votesTo y mask k).length ≤ k := by
  unfold votesTo
  rw [List.length_map]
  have := List.length_filter_le (fun p => p &&& mask == 0) (List.range k)
  simpa using this
theorem votesTo_bits (y : List Int) (mask k i : Nat) : (votesTo y mask k).getD i 0 = 0 ∨ (votesTo y mask k).getD i 0 = 1 := by
  by_cases h : i < (votesTo y mask k).length
  · rw [List.getD_eq_getElem?_getD, List.getElem?_eq_getElem h, Option.getD_some]
    have hm : (votesTo y mask k)[i] ∈ votesTo y mask k := List.getElem_mem h
    unfold votesTo at hm
    obtain ⟨p, _, hp⟩ := List.mem_map.1 hm
    change (votesTo y mask k)[i] = 0 ∨ (votesTo y mask k)[i] = 1
    unfold votesTo
    rw [← hp]
    omega
  · rw [List.getD_eq_getElem?_getD, List.getElem?_eq_none (by omega)]; simp

/-- the points that were summed when the submask sub comes next -/
def doneB (mask p sub s : Nat) : Bool := s ^^^ (s &&& mask) == p && decide (sub < s &&& mask)

theorem submasks : ((List.range 64).all fun mask => (List.range 64).all fun sub => (sub &&& mask != sub) || (List.range sub).all fun t => (t &&& mask != t) || decide (t ≤ ((sub - 1) &&& mask))) = true := by decide +kernel
theorem submask_next {mask sub t : Nat} (hm : mask < 64) (hs : sub &&& mask = sub) (ht : t &&& mask = t) (h : t < sub) : t ≤ (sub - 1) &&& mask := by
  have hsub : sub < 64 := by rw [← hs]; exact Nat.lt_of_le_of_lt Nat.and_le_right hm
  have h1 := List.all_eq_true.1 submasks mask (List.mem_range.2 hm)
  have h2 := List.all_eq_true.1 h1 sub (List.mem_range.2 hsub)
  rw [Bool.or_eq_true] at h2
  rcases h2 with h2 | h2
  · simp [hs] at h2
  · have h3 := List.all_eq_true.1 h2 t (List.mem_range.2 h)
    rw [Bool.or_eq_true] at h3
    rcases h3 with h3 | h3
    · simp [ht] at h3
    · simpa using h3
theorem and_and_self' (s mask : Nat) : (s &&& mask) &&& mask = s &&& mask := by rw [Nat.and_assoc, Nat.and_self]
theorem point_iff {mask p sub s : Nat} (hp : p &&& mask = 0) (hs : sub &&& mask = sub) : (s ^^^ (s &&& mask) = p ∧ s &&& mask = sub) ↔ s = p ||| sub := by
  constructor
  · rintro ⟨h1, h2⟩
    rw [← h1, ← h2]
    apply Nat.eq_of_testBit_eq
    intro i
    simp only [Nat.testBit_or, Nat.testBit_xor, Nat.testBit_and]
    cases s.testBit i <;> cases mask.testBit i <;> rfl
  · rintro rfl
    have hpb : ∀ i, (p.testBit i && mask.testBit i) = false := fun i => by rw [← Nat.testBit_and, hp]; simp
    have hsb : ∀ i, (sub.testBit i && mask.testBit i) = sub.testBit i := fun i => by rw [← Nat.testBit_and, hs]
    constructor
    · apply Nat.eq_of_testBit_eq
      intro i
      have a1 := hpb i
      have a2 := hsb i
      simp only [Nat.testBit_or, Nat.testBit_xor, Nat.testBit_and]
      revert a1 a2
      cases p.testBit i <;> cases sub.testBit i <;> cases mask.testBit i <;> simp
    · apply Nat.eq_of_testBit_eq
      intro i
      have a1 := hpb i
      have a2 := hsb i
      simp only [Nat.testBit_or, Nat.testBit_and]
      revert a1 a2
      cases p.testBit i <;> cases sub.testBit i <;> cases mask.testBit i <;> simp
theorem doneB_start (y : List Int) (mask p : Nat) : sumIf y.length (doneB mask p mask) y = 0 :=
  sumIf_none y _ fun s _ => by
    have : s &&& mask ≤ mask := Nat.and_le_right
    simp only [doneB, Bool.and_eq_false_iff, decide_eq_false_iff_not]
    right; omega
/-- the submask sub is summed: the next one, or the end -/
theorem doneB_step (y : List Int) {mask p sub : Nat} (hm : mask < 64) (hp : p &&& mask = 0) (hs : sub &&& mask = sub) (h0 : 0 < sub) (hin : (p ||| sub) < y.length) :
    sumIf y.length (doneB mask p ((sub - 1) &&& mask)) y = sumIf y.length (doneB mask p sub) y + y.getD (p ||| sub) 0 := by
  have hlt : (sub - 1) &&& mask < sub := Nat.lt_of_le_of_lt Nat.and_le_left (by omega)
  have hpt := (point_iff (s := p ||| sub) hp hs).2 rfl
  refine sumIf_more y ?_ ?_ _ (fun s _ hne => ?_) hin
  · unfold doneB; rw [hpt.1, hpt.2]; simp
  · unfold doneB; rw [hpt.1, hpt.2]; simp [hlt]
  · simp only [doneB]
    by_cases e : s ^^^ (s &&& mask) = p
    · have hne' : s &&& mask ≠ sub := fun h => hne ((point_iff hp hs).1 ⟨e, h⟩)
      have key : ((sub - 1) &&& mask < s &&& mask) ↔ (sub < s &&& mask) := by
        constructor
        · intro h
          rcases Nat.lt_trichotomy (s &&& mask) sub with hl | hl | hl
          · have := submask_next hm hs (and_and_self' s mask) hl; omega
          · exact absurd hl hne'
          · exact hl
        · intro h; omega
      rw [decide_eq_decide.2 key]
    · rw [show (s ^^^ (s &&& mask) == p) = false from beq_eq_false_iff_ne.2 e]; simp only [Bool.false_and]
theorem doneB_end (y : List Int) {mask p : Nat} (hp : p &&& mask = 0) (hin : p < y.length) :
    sumIf y.length (fun s => s ^^^ (s &&& mask) == p) y = sumIf y.length (doneB mask p 0) y + y.getD (p ||| 0) 0 := by
  have hpt := (point_iff (s := p ||| 0) hp (Nat.zero_and mask)).2 rfl
  refine sumIf_more y ?_ ?_ _ (fun s _ hne => ?_) (by simpa using hin)
  · unfold doneB; rw [hpt.1, hpt.2]; simp
  · rw [hpt.1]; simp
  · simp only [doneB]
    by_cases e : s ^^^ (s &&& mask) = p
    · have hne' : s &&& mask ≠ 0 := fun h => hne ((point_iff hp (Nat.zero_and mask)).1 ⟨e, h⟩)
      have h1 : 0 < s &&& mask := by omega
      simp [e, h1]
    · simp [e]

theorem sumIf_bounds {f : Nat → Bool} {y : List Int} (hy : ∀ k, k < y.length → y.getD k 0 = 0 ∨ y.getD k 0 = 1) : ∀ n, n ≤ y.length → 0 ≤ sumIf n f y ∧ sumIf n f y ≤ n
  | 0, _ => by simp [sumIf]
  | n + 1, h => by
    have ih := sumIf_bounds (f := f) hy n (by omega)
    have hb := hy n (by omega)
    unfold sumIf
    cases f n
    · simp; omega
    · rcases hb with hb | hb <;> simp only [hb, if_true] <;> omega
theorem maskN_lt_of (l : List Int) {b : Int} (hb : 0 ≤ b) (h : ∀ x ∈ l, 0 ≤ x ∧ x < b) : maskN l < 2 ^ b.toNat := by
  have key : ∀ (l : List Int) (a : Nat), a < 2 ^ b.toNat → (∀ x ∈ l, 0 ≤ x ∧ x < b) → l.foldl (fun m v => m ||| 2 ^ v.toNat) a < 2 ^ b.toNat := by
    intro l
    induction l with
    | nil => intro a ha _; simpa using ha
    | cons c l ih =>
      intro a ha hl
      simp only [List.foldl_cons]
      have hc := hl c (by simp)
      exact ih _ (Nat.or_lt_two_pow ha (Nat.pow_lt_pow_right (by omega) (by omega))) (fun x hx => hl x (by simp [hx]))
  exact key l 0 (Nat.two_pow_pos _) h
theorem subset_lt {n : Int} {s : List Int} (h : SubsetP n s) {i j : Nat} (hij : i < j) (hj : j < s.length) : s.getD i 0 < s.getD j 0 := by
  induction j with
  | zero => omega
  | succ j ih =>
    have h1 := (h (j + 1) hj).2 (by omega)
    simp only [Nat.add_sub_cancel] at h1
    by_cases e : i = j
    · subst e; exact h1
    · exact Int.lt_trans (ih (by omega) (by omega)) h1
theorem maskN_add {n : Int} {s : List Int} (h : SubsetP n s) {j : Nat} (hj : j < s.length) : maskN (s.take (j + 1)) = maskN (s.take j) + 2 ^ (s.getD j 0).toNat := by
  have hlt : maskN (s.take j) < 2 ^ (s.getD j 0).toNat := maskN_lt_of _ (h j hj).1.1 (all_take fun i hi hi' => ⟨(h i hi').1.1, subset_lt h hi hj⟩)
  rw [take_snoc s j hj, maskN_snoc]
  have := Nat.two_pow_add_eq_or_of_lt hlt 1
  rw [Nat.mul_one] at this
  rw [Nat.or_comm, ← this, Nat.add_comm]
end Go.Proofs.Ytdbpbmehcifjpaa
