/- classic.Monomials: the closure that adds variables calls itself; contract by induction. -/
import Derived.Test.YtkamgnihpcafdaaClone
import Derived.Test.YtkamgnihpcafdaaRow
import Derived.Test.YtkamgnihpcafdaaMonoP
import Derived.Deep.RegionHeld3
import Derived.Deep.RegionLaw
import Derived.Deep.DeepMust
namespace Go.Proofs.Ytkamgnihpcafdaa
open Go.RowKit
set_option linter.unusedVariables false
set_option maxRecDepth 100000

/-- two blocks alone may have turned -/
structure Two (w w' : World) (b : Nat) (row : Option Nat) : Prop where
  os : w'.os = w.os
  tape : w'.tape = w.tape
  output : w'.output = w.output
  size : w.heap.size ≤ w'.heap.size
  block : ∀ k, k < w.heap.size → k ≠ b → some k ≠ row → w'.heap[k]? = w.heap[k]?
theorem Two.refl (w : World) (b : Nat) (row : Option Nat) : Two w w b row := ⟨rfl, rfl, rfl, Nat.le_refl _, fun _ _ _ _ => rfl⟩
theorem Two.grown {w0 w w' : World} {b : Nat} {row r2 : Option Nat} (h : Two w0 w b row) (hg : w.grownBy w' r2) (hr : ∀ g, r2 = some g → g < w0.heap.size → g = b ∨ row = some g) : Two w0 w' b row :=
  ⟨hg.os.trans h.os, hg.tape.trans h.tape, hg.output.trans h.output, Nat.le_trans h.size hg.size, fun k hk hb hne => (hg.block k (Nat.lt_of_lt_of_le hk h.size) (fun e => by
    rcases hr k e.symm hk with e2 | e2
    · exact hb e2
    · exact hne e2.symm)).trans (h.block k hk hb hne)⟩
theorem Two.trans {w0 w w' : World} {b : Nat} {row r2 : Option Nat} (h : Two w0 w b row) (hg : Two w w' b r2) (hr : ∀ g, r2 = some g → g < w0.heap.size → row = some g) : Two w0 w' b row :=
  ⟨hg.os.trans h.os, hg.tape.trans h.tape, hg.output.trans h.output, Nat.le_trans h.size hg.size, fun k hk hb hne => (hg.block k (Nat.lt_of_lt_of_le hk h.size) hb (fun e => hne (hr k e.symm hk).symm)).trans (h.block k hk hb hne)⟩
theorem Two.below {w0 w : World} {b B : Nat} {row : Option Nat} {a : World} (h : Two w0 w b row) (ha : Below B a w0) (hb : B ≤ b) (hB : B ≤ w0.heap.size) (hr : ∀ g, row = some g → B ≤ g) : Below B a w :=
  ha.trans ⟨h.os, h.tape, h.output, h.size, fun k hk => h.block k (by omega) (by omega) (fun e => by have := hr k e.symm; omega)⟩

/-- what the closure's captured variables hold -/
structure MI (w : World) (Bs Bo Bm Ba B : Nat) (size m : Nat) (v : Value) (outs : List (List Int)) : Prop where
  s : Blk w Bs 3 [.int .i64 (size : Int)]
  m : Blk w Bm 3 [.int .i64 (m : Int)]
  a : Blk w Ba 63 [.func (.func 35) #[] #[.pointer (some ⟨Bs, 0, none⟩), .pointer (some ⟨Bo, 0, none⟩), .pointer (some ⟨Bm, 0, none⟩), .pointer (some ⟨Ba, 0, none⟩)]]
  o : Blk w Bo 23 [v]
  os : OS B (fun g => g = Bo) w v outs
theorem OS.ne_blk {B : Nat} {X : Nat → Prop} {w : World} {v : Value} {xss : List (List Int)} (h : OS B X w v xss) {g : Nat} {t : TypeId} {cs : List Value} (hb : Blk w g t cs) (ht : t ≠ 22) : v.ownBlock ≠ some g := by
  obtain ⟨us, ho, _⟩ := h
  intro e
  rcases ho.2 with ⟨rfl, _⟩ | ⟨g', cap, cur, rfl, _, hh, _⟩
  · simp [Value.ownBlock] at e
  · simp [Value.ownBlock] at e
    subst e
    unfold Blk at hb
    rw [hh] at hb
    injection hb with hb
    injection hb with _ hb2
    exact ht hb2.symm
theorem Blk.ne_blk {w : World} {g g' : Nat} {t t' : TypeId} {cs cs' : List Value} (h : Blk w g t cs) (h' : Blk w g' t' cs') (ht : t ≠ t') : g ≠ g' := by
  rintro rfl
  unfold Blk at h h'
  rw [h] at h'
  injection h' with h'
  injection h' with _ h2
  exact ht h2

/-- what the closure leaves -/
def MonoPost (w : World) (Bs Bo Bm Ba B : Nat) (size m : Nat) (v : Value) (outs : List (List Int)) (e : Ending) (w' : World) : Prop :=
  ∃ v', e = .returned (.tuple #[]) ∧ MI w' Bs Bo Bm Ba B size m v' outs ∧ (v'.ownBlock = v.ownBlock ∨ ∃ g, v'.ownBlock = some g ∧ w.heap.size ≤ g) ∧ Two w w' Bo v.ownBlock

theorem si_wf {w : World} {v : Value} {xs : List Int} (h : SI w v xs) : ∀ k, I64 (xs.getD k 0) := by
  obtain ⟨_, _, _, h⟩ := h
  exact h.wf
theorem push_cell {w w' : World} {o : Obj} {b : Nat} {t : TypeId} {v : Value} {row : Option Nat} (h : Blk w b t [v]) (hg : (w.alloc o).grownBy w' row) (hne : row ≠ some b) : w'.cell? ⟨b, 0, none⟩ = some v :=
  ((h.alloc o).grown hg (fun e => hne e.symm)).cell 0
theorem push_frozen {w w' : World} {o : Obj} {b : Nat} {t : TypeId} {v : Value} {row : Option Nat} (h : Blk w b t [v]) (hg : (w.alloc o).grownBy w' row) (hne : row ≠ some b) : w'.frozen? ⟨b, 0, none⟩ = false :=
  ((h.alloc o).grown hg (fun e => hne e.symm)).frozen 0
theorem clone_apart {w w1 : World} {B Bo : Nat} {v u : Value} {vars : List Int} {outs : List (List Int)} (hu : OI w.heap.size w1 u vars) (ho : OS B (fun g => g = Bo) w v outs) (hb : Bo < w.heap.size) :
    ∀ g, u.ownBlock = some g → v.ownBlock ≠ some g ∧ ¬ (g = Bo) := fun g hg => by
  have h1 := (hu.lt hg).1
  exact ⟨fun e => by have := (ho.lt e).2; omega, by omega⟩

theorem mono_push {w w1 w2 : World} {Bs Bo Bm Ba B size m : Nat} {v v1 : Value} {outs outs' : List (List Int)} {ob : Obj} (H : MI w Bs Bo Bm Ba B size m v outs) (hb : Below w.heap.size w w1)
    (hg : (w1.alloc ob).grownBy w2 v.ownBlock) (ho : OS B (fun g => g = Bo) w2 v1 outs') (hv1 : v1.ownBlock = v.ownBlock ∨ v1.ownBlock = some (w1.alloc ob).heap.size) :
    MI (w2.setCell ⟨Bo, 0, none⟩ v1) Bs Bo Bm Ba B size m v1 outs' ∧ (v1.ownBlock = v.ownBlock ∨ ∃ g, v1.ownBlock = some g ∧ w.heap.size ≤ g) ∧ Two w (w2.setCell ⟨Bo, 0, none⟩ v1) Bo v.ownBlock := by
  have bo2 : Blk w2 Bo 23 [v] := ((H.o.belowS hb).alloc ob).grown hg (fun e => H.os.ne_blk H.o (by decide) e.symm)
  have hset : w2.grownBy (w2.setCell ⟨Bo, 0, none⟩ v1) (some Bo) := gr_setCell (World.grownBy.refl _ _) (.inl rfl) _
  refine ⟨⟨?_, ?_, ?_, ?_, ?_⟩, ?_, ?_⟩
  · exact (((H.s.belowS hb).alloc ob).grown hg (fun e => H.os.ne_blk H.s (by decide) e.symm)).far (H.s.ne_blk H.o (by decide)) _
  · exact (((H.m.belowS hb).alloc ob).grown hg (fun e => H.os.ne_blk H.m (by decide) e.symm)).far (H.m.ne_blk H.o (by decide)) _
  · exact (((H.a.belowS hb).alloc ob).grown hg (fun e => H.os.ne_blk H.a (by decide) e.symm)).far (H.a.ne_blk H.o (by decide)) _
  · exact bo2.set_ 0 v1
  · exact ho.grown hset (fun g hg' => by injection hg' with hg'; subst hg'; exact ⟨ho.ne_blk bo2 (by decide), rfl⟩)
  · rcases hv1 with h | h
    · exact .inl h
    · exact .inr ⟨_, h, by have := hb.size; simp; omega⟩
  · have h1 : Two w w1 Bo v.ownBlock := (Two.refl w Bo _).grown (gr_below hb none) (fun g hg' => by cases hg')
    have h2 : Two w (w1.alloc ob) Bo v.ownBlock := h1.grown (World.grownBy_alloc w1 ob none) (fun g hg' => by cases hg')
    have h3 : Two w w2 Bo v.ownBlock := h2.grown hg (fun g hg' _ => .inr hg')
    exact h3.grown hset (fun g hg' _ => .inl (by injection hg' with hg'; exact hg'.symm))

set_option maxHeartbeats 8000000 in
theorem mono1_leaf (w : World) (Bs Bo Bm Ba B : Nat) (size m lo : Nat) (vv v : Value) (vars : List Int) (outs : List (List Int)) (h : MI w Bs Bo Bm Ba B size m v outs) (hB : B ≤ w.heap.size) (hv : SI w vv vars)
    (hl : vars.length = size) (hs : size ≤ 6) (hm : m ≤ 6) (hout : outs.length ≤ 100000000) :
    Calls Try.prog 35 #[.int .i64 (lo : Int), vv, .pointer (some ⟨Bs, 0, none⟩), .pointer (some ⟨Bo, 0, none⟩), .pointer (some ⟨Bm, 0, none⟩), .pointer (some ⟨Ba, 0, none⟩)] w
      (MonoPost w Bs Bo Bm Ba B size m v (outs ++ [vars])) := by
  have HV := Lib.hid hv
  obtain ⟨VA, vc, rfl, hv⟩ := hv
  clear hv
  have cs : w.cell? ⟨Bs, 0, none⟩ = some (.int .i64 (size : Int)) := h.s.cell 0
  have co : w.cell? ⟨Bo, 0, none⟩ = some v := h.o.cell 0
  have hsz : (((vars.length : Nat) : Int) == ((size : Nat) : Int)) = true := by simp [hl]
  have H := Lib.hid h; clear h
  have hvl : vars.length ≤ 6 := by omega
  have HL := Lib.hid hl; clear hl
  go_enter Try.func35, Try.ntmps35
  go_wp2_with fail
  have hne : v.ownBlock ≠ some Bo := H.out.os.ne_blk H.out.o (by decide)
  go_region_law (first
    | (refine step_pushS rfl _ _ rfl B (fun g => g = Bo) v outs rfl (HOS1.out.alloc _) _ 1 _ vars rfl (by simp [go_sem]) HU.out (HUX.out) (by omega) (by simp; omega) ?_; intro v1 w2 ho hg hv1; obtain ⟨A1, c1, rfl⟩ := ho.form; have c3 := push_cell (H.out.o.belowS HB1.out) hg hne; have f3 := push_frozen (H.out.o.belowS HB1.out) hg hne)
    | (go_simp; go_at_call 36; go_must (refine (clone_any _ _ vars (HV.out.below (bl_drew _) (Nat.le_refl _))).mono ?_; rintro e w1 ⟨u, rfl, hu, hb⟩; have HB1 := Lib.hid (bl_trans (bl_drew _) hb); have co1 := cell_below HB1.out co; have co2 := fun (o : Obj) => cell_below (bl_alloc w1 o) co1; have HOS1 := Lib.hid (H.out.os.below HB1.out); have hsu := hu.si (by omega) (si_wf HV.out); have HUX := Lib.hid (fun (_ : 0 < vars.length) => clone_apart (w := w) hu H.out.os H.out.o.lt); obtain ⟨UA, uc, rfl, hsu⟩ := hsu; have HU := Lib.hid (hsu.si.below (bl_alloc w1 (.cells #[.slice UA vars.length uc] 22)) (Nat.le_refl _)); have hbs := HB1.out.size; clear hb hu hsu)))
  all_goals
    go_wp2_with fail
    have HP := mono_push H.out HB1.out hg ho hv1
    rw [List.length_append, List.length_singleton] at HP
    refine bodyPost_ret (results_none rfl _ _ _) rfl ?_
    exact ⟨_, rfl, HP.1, HP.2.1, HP.2.2⟩

theorem MI.two {w w' : World} {Bs Bo Bm Ba B size m : Nat} {v v' : Value} {outs outs' : List (List Int)} (h : MI w Bs Bo Bm Ba B size m v outs) (h' : MI w' Bs Bo Bm Ba B size m v' outs') : True := trivial
theorem SI.two {w w' : World} {b : Nat} {row : Option Nat} {v : Value} {xs : List Int} (h : SI w v xs) (ht : Two w w' b row) (hne : 0 < xs.length → ∀ g, v.ownBlock = some g → row ≠ some g ∧ g ≠ b) : SI w' v xs := by
  obtain ⟨A, c, rfl, h⟩ := h
  refine ⟨A, c, rfl, h.len, h.cap, fun k hk' => ?_, h.wf⟩
  obtain ⟨ad, e, hc⟩ := h.cell k hk'
  refine ⟨ad, e, ?_⟩
  have hlt := World.block_lt_of_cell? _ _ hc
  have hn := hne (by omega) (ad.add k).block (by rw [block_of_add, e]; rfl)
  rw [World.cell?_of_block (w := w) (ht.block _ hlt hn.2 (fun e2 => hn.1 e2.symm))]
  exact hc

theorem bl_gr {a w : World} (h : a.grownBy w none) : Below a.heap.size a w := ⟨h.os, h.tape, h.output, h.size, fun k hk => h.block k hk (by simp)⟩
theorem MI.below {w w' : World} {Bs Bo Bm Ba B size m : Nat} {v : Value} {outs : List (List Int)} (h : MI w Bs Bo Bm Ba B size m v outs) (hb : Below w.heap.size w w') : MI w' Bs Bo Bm Ba B size m v outs :=
  ⟨h.s.belowS hb, h.m.belowS hb, h.a.belowS hb, h.o.belowS hb, h.os.below hb⟩
theorem si_at {w : World} {A : Option Addr} {n c : Nat} {xs : List Int} (h : SI w (.slice A n c) xs) : SIat w A c xs := by
  obtain ⟨A', c', e, h⟩ := h
  injection e with e1 e2 e3
  subst e1; subst e3
  exact h
theorem app_wf {xs : List Int} {c : Nat} (h : ∀ k, I64 (xs.getD k 0)) (hc : c ≤ 1000) : ∀ k, I64 ((xs ++ [(c : Int)]).getD k 0) := by
  intro k
  rcases Nat.lt_trichotomy k xs.length with h1 | h1 | h1
  · have := h k
    simpa [List.getD, List.getElem?_append_left h1] using this
  · subst h1
    simp [List.getD]
    exact I64.of_small (by omega) (by omega)
  · simp [List.getD, List.getElem?_append_right (Nat.le_of_lt h1)]
    rw [List.getElem?_eq_none (by simp; omega)]
    exact I64.zero
theorem own_next {w w2 : World} {v v' v3 : Value} (h3 : v3.ownBlock = v'.ownBlock ∨ ∃ g, v3.ownBlock = some g ∧ w2.heap.size ≤ g) (h : v'.ownBlock = v.ownBlock ∨ ∃ g, v'.ownBlock = some g ∧ w.heap.size ≤ g) (hs : w.heap.size ≤ w2.heap.size) :
    v3.ownBlock = v.ownBlock ∨ ∃ g, v3.ownBlock = some g ∧ w.heap.size ≤ g := by
  rcases h3 with h3 | ⟨g, h3, hg⟩
  · rw [h3]; exact h
  · exact .inr ⟨g, h3, by omega⟩
theorem grown_apart {w w2 : World} {o : Obj} {Bs Bo Bm Ba B size m : Nat} {u v : Value} {xs : List Int} {outs : List (List Int)} (h : OI (w.alloc o).heap.size w2 u xs) (H : MI w Bs Bo Bm Ba B size m v outs) (hb : Below w.heap.size w w2) :
    0 < xs.length → ∀ g, u.ownBlock = some g → v.ownBlock ≠ some g ∧ g ≠ Bo := fun _ g hg => by
  have h1 := (h.lt hg).1
  have h2 : w.heap.size < (w.alloc o).heap.size := by simp
  exact ⟨fun e => by have := (H.os.lt e).2; omega, by have := H.o.lt; omega⟩

set_option maxHeartbeats 16000000 in
theorem mono1_any (m : Nat) (hm : m ≤ 6) (f : Nat) : ∀ (w : World) (Bs Bo Bm Ba B size lo : Nat) (loI : Int) (vv v : Value) (vars : List Int) (outs : List (List Int)), loI = (lo : Int) → m - lo ≤ f → lo ≤ m → MI w Bs Bo Bm Ba B size m v outs → B ≤ w.heap.size → SI w vv vars →
    (0 < vars.length → ∀ g, vv.ownBlock = some g → v.ownBlock ≠ some g ∧ g ≠ Bo) → size ≤ 6 → vars.length ≤ lo → outs.length + (m + 1) ^ f ≤ 100000000 →
    Calls Try.prog 35 #[.int .i64 loI, vv, .pointer (some ⟨Bs, 0, none⟩), .pointer (some ⟨Bo, 0, none⟩), .pointer (some ⟨Bm, 0, none⟩), .pointer (some ⟨Ba, 0, none⟩)] w
      (MonoPost w Bs Bo Bm Ba B size m v (outs ++ addG size m f lo vars)) := by
  induction f with
  | zero =>
    intro w Bs Bo Bm Ba B size lo loI vv v vars outs hlI hf hlo H hB hv hvx hs hvl hout
    subst hlI
    by_cases hl : vars.length = size
    · rw [addG_leaf hl]
      exact mono1_leaf w Bs Bo Bm Ba B size m lo vv v vars outs H hB hv hl hs hm (by omega)
    · obtain ⟨VA, vc, rfl, hv⟩ := hv
      clear hv hvx
      have cs : w.cell? ⟨Bs, 0, none⟩ = some (.int .i64 (size : Int)) := H.s.cell 0
      have cm : w.cell? ⟨Bm, 0, none⟩ = some (.int .i64 (m : Int)) := H.m.cell 0
      have hsz : (((vars.length : Nat) : Int) == ((size : Nat) : Int)) = false := by simp; omega
      rw [addG_none hl, List.append_nil]
      clear hl
      have hlm : ¬ (lo : Int) < (m : Int) := by omega
      have HM := Lib.hid H; clear H
      go_enter Try.func35, Try.ntmps35
      go_wp2_with fail
      refine wp_loop_rounds 1 ?_
      rw [rounds_succ]
      go_wp2_with fail
      go_end0
      exact ⟨v, rfl, HM.out, .inl rfl, Two.refl _ _ _⟩
  | succ f ih =>
    intro w Bs Bo Bm Ba B size lo loI vv v vars outs hlI hf hlo H hB hv hvx hs hvl hout
    subst hlI
    by_cases hl : vars.length = size
    · rw [addG_leaf hl]
      exact mono1_leaf w Bs Bo Bm Ba B size m lo vv v vars outs H hB hv hl hs hm (by have := Nat.pow_pos (n := f + 1) (show 0 < m + 1 by omega); omega)
    · have HIH := Lib.hid ih; clear ih
      have HVX := Lib.hid hvx; clear hvx
      obtain ⟨VA, vc, rfl, hv⟩ := hv
      have hvcap := hv.cap
      have HV := Lib.hid hv; clear hv
      have cs : w.cell? ⟨Bs, 0, none⟩ = some (.int .i64 (size : Int)) := H.s.cell 0
      have hsz : (((vars.length : Nat) : Int) == ((size : Nat) : Int)) = false := by simp; omega
      have HE : Hid (addG size m (f + 1) lo vars = addTo' size m f lo vars (m - lo)) := addG_node hl
      have HL := Lib.hid hl; clear hl
      have HBs : Hid (B ≤ w.heap.size) := hB
      have HM := Lib.hid H; clear H
      have HK : Hid (∀ k, k ≤ m - lo → (outs ++ addTo' size m f lo vars k).length + (if k < m - lo then (m + 1) ^ f else 0) ≤ 100000000) := fun k hk => by
        have key : ∀ k, (addTo' size m f lo vars k).length ≤ k * (m + 1) ^ f := by
          intro k
          induction k with
          | zero => simp [addTo']
          | succ k ih =>
            rw [addTo'_succ, List.length_append, Nat.succ_mul]
            have h1 := addG_len size m f (lo + k + 1) (vars ++ [((lo + k : Nat) : Int)])
            omega
        have h1 := key k
        rw [List.length_append]
        have h2 : k * (m + 1) ^ f + (if k < m - lo then (m + 1) ^ f else 0) ≤ (m + 1) ^ (f + 1) := by
          split
          · rw [← Nat.succ_mul, Nat.pow_succ, Nat.mul_comm ((m + 1) ^ f)]
            exact Nat.mul_le_mul_right _ (by omega)
          · rw [Nat.pow_succ, Nat.mul_comm ((m + 1) ^ f)]
            exact Nat.mul_le_mul_right _ (by omega)
        omega
      go_enter Try.func35, Try.ntmps35
      go_wp2_with fail
      go_loopw [8] (fun x wr => ∃ (k : Nat) (v' : Value), k ≤ m - lo ∧ x = .int .i64 ((lo + k : Nat) : Int) ∧ Hid (MI wr Bs Bo Bm Ba B size m v' (outs ++ addTo' size m f lo vars k)) ∧
          Hid (v'.ownBlock = v.ownBlock ∨ ∃ g, v'.ownBlock = some g ∧ w.heap.size ≤ g) ∧ Hid (Two w wr Bo v.ownBlock)) (fun x _ => (m - intOf x).toNat)
      case atStart => exact ⟨0, v, Nat.zero_le _, rfl, by simpa [addTo'] using HM, .inl rfl, Two.refl _ _ _⟩
      case round =>
        obtain ⟨k, v', hk, rfl, HMI, HOW, HTW⟩ := hrel
        have cm : wr.cell? ⟨Bm, 0, none⟩ = some (.int .i64 (m : Int)) := HMI.out.m.cell 0
        obtain ⟨c, hc⟩ : ∃ c, c = lo + k := ⟨_, rfl⟩
        rw [← hc]
        have HC := Lib.hid hc
        by_cases hlt : k < m - lo
        · have hcm : c < m := by omega
          clear hc
          have ca : wr.cell? ⟨Ba, 0, none⟩ = some (.func (.func 35) #[] #[.pointer (some ⟨Bs, 0, none⟩), .pointer (some ⟨Bo, 0, none⟩), .pointer (some ⟨Bm, 0, none⟩), .pointer (some ⟨Ba, 0, none⟩)]) := HMI.out.a.cell 0
          have ca2 := fun (o : Obj) => cell_below (bl_alloc wr o) ca
          have HVW := Lib.hid (SI.two HV.out.si HTW.out (fun h0 g hg => ⟨(HVX.out h0 g hg).1, (HVX.out h0 g hg).2⟩))
          go_wp2_with fail
          have HAT := Lib.hid (si_at HVW.out)
          have HBR : Hid (B ≤ wr.heap.size) := Nat.le_trans HBs.out HTW.out.size
          have HWR : Hid (IntKind.i64.wrap ((c : Int) + 1) = ((c + 1 : Nat) : Int)) := by show _ = _; rw [IntKind.wrap_i64] <;> omega
          have HKK : Hid ((outs ++ addTo' size m f lo vars k).length + (m + 1) ^ f ≤ 100000000) := by have := HK.out k hk; rw [if_pos hlt] at this; exact this
          have HLN : Hid ((vars ++ [(c : Int)]).length ≤ c + 1) := by show _ ≤ _; rw [List.length_append]; have := HC.out; simp; omega
          have HFF : Hid (m - (c + 1) ≤ f) := by have := HC.out; show _ ≤ _; omega
          go_region_law (first
            | (refine step_growI rfl _ _ rfl VA _ vc vars rfl rfl (HAT.out.below (bl_trans (bl_alloc _ _) (bl_drew _)) (Nat.le_refl _)) _ 1 (c : Int) rfl (by simp [go_sem]) (by omega) ?_; intro v2 w2 ho hg; go_must (have HB2 := Lib.hid (bl_trans (bl_trans (bl_alloc wr _) (bl_drew _)) (bl_gr hg)); have ca3 := cell_below HB2.out ca; have HO2 := Lib.hid ho; have HMI2 := Lib.hid (HMI.out.below HB2.out); have HSI2 := Lib.hid (ho.si (by simp; omega) (app_wf HAT.out.wf (by omega))); have HAP := Lib.hid (grown_apart HO2.out HMI.out HB2.out); have HBB := Lib.hid (Nat.le_trans HBR.out HB2.out.size); clear ho hg))
            | (go_simp; go_at_call 35; go_must (refine (HIH.out w2 Bs Bo Bm Ba B size (c + 1) (IntKind.i64.wrap ((c : Int) + 1)) v2 v' (vars ++ [(c : Int)]) (outs ++ addTo' size m f lo vars k) HWR.out HFF.out (by omega) HMI2.out HBB.out HSI2.out HAP.out hs HLN.out HKK.out).mono ?_; rintro e w3 ⟨v3, rfl, hMI3, hown3, htwo3⟩)))
          all_goals
            go_wp2_with fail
            have hc := HC.out
            subst hc
            refine ⟨⟨k + 1, v3, by omega, rfl, ?_, ?_, ?_⟩, ?_⟩
            · show MI _ _ _ _ _ _ _ _ _ _
              rw [addTo'_succ, ← List.append_assoc]
              exact hMI3
            · exact own_next hown3 HOW.out (Nat.le_trans HTW.out.size HB2.out.size)
            · have h1 : Two w w2 Bo v.ownBlock := HTW.out.grown (gr_below HB2.out none) (fun g hg => by cases hg)
              exact h1.trans htwo3 (fun g hg hlt => by
                rcases HOW.out with h | ⟨g', h, hge⟩
                · rw [← h]; exact hg
                · rw [h] at hg; injection hg with hg; omega)
            · simp only [intOf]
              omega
        · obtain rfl : k = m - lo := by omega
          have hcm : ¬ ((c : Int) < (m : Int)) := by omega
          clear hc
          go_wp2_with fail
          go_end0
          rw [HE.out]
          exact ⟨v', rfl, HMI.out, HOW.out, HTW.out⟩
end Go.Proofs.Ytkamgnihpcafdaa
