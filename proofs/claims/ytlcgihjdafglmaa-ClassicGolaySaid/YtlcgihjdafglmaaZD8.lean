/- Texts of a claim, merged: words, plain facts and walks that the last of its texts uses. -/
import Derived.Test.YtlcgihjdafglmaaZD2
import Derived.Test.YtlcgihjdafglmaaZD4
import Derived.Test.YtlcgihjdafglmaaZD6
import Derived.Test.YtlcgihjdafglmaaZD7
set_option linter.unusedSimpArgs false
set_option linter.unusedVariables false

/- matrix.eliminate: the walk. -/
namespace Go.Proofs.Ytlcgihjdafglmaa
open Go.RowKit
set_option linter.unusedVariables false
set_option maxRecDepth 100000

/-- rows, pivots and a number come back -/
def RetEI (w0 : World) (v : Value) (l : List (List Int)) (piv : List Int) (e : Ending) (w' : World) : Prop :=
  ∃ u d, e = .returned (.tuple #[u, .int .i64 d]) ∧ OM w0.heap.size (fun g => g < w0.heap.size ∨ u.ownBlock = some g) w' v l ∧ OI w0.heap.size w' u piv ∧ Below w0.heap.size w0 w'

set_option maxHeartbeats 4000000 in
theorem melim_nil (w0 w : World) (A : Nat) (P M : Int) (Mod : List Int) (cols : Int) (AA : Option Addr) (c : Nat) (hO : OM w0.heap.size (fun g => g < w0.heap.size) w (.slice AA 0 c) []) (hb : Below w0.heap.size w0 w) :
    Calls Try.prog 133 #[.pointer (some ⟨A, 0, none⟩), .slice AA 0 c, .int .i64 cols, .slice none 0 0] w (RetEI w0 (.slice AA 0 c) [] []) := by
  have HO := Lib.hid hO; have HB := Lib.hid hb; clear hO hb
  have hb1 := bl_trans (bl_trans (bl_alloc w (.cells #[.pointer (some ⟨A, 0, none⟩)] 80)) (bl_alloc _ (.cells #[.slice AA 0 c] 25))) (bl_alloc _ (.cells #[.slice none 0 0] 25))
  have k5 : (((w.alloc (.cells #[.pointer (some ⟨A, 0, none⟩)] 80)).alloc (.cells #[.slice AA 0 c] 25)).alloc (.cells #[.slice none 0 0] 25)).cell? ⟨w.heap.size + 1, 0, none⟩ = some (.slice AA 0 c) := by
    have b2 := Blk.new (w.alloc (.cells #[.pointer (some ⟨A, 0, none⟩)] 80)) 25 [.slice AA 0 c]
    rw [World.size_alloc] at b2
    exact (b2.alloc (.cells #[.slice none 0 0] 25)).cell 0
  have HB1 := Lib.hid hb1; clear hb1
  go_enter Try.func133, Try.ntmps133
  go_wp2_with fail
  generalize ((w.alloc (.cells #[.pointer (some ⟨A, 0, none⟩)] 80)).alloc (.cells #[.slice AA 0 c] 25)).alloc (.cells #[.slice none 0 0] 25) = w1 at *
  go_wp2_with fail
  go_loop [10, 12, 13] (fun d u c => d = .int .i64 1 ∧ u = .slice none 0 0 ∧ c = .int .i64 0) (fun _ _ _ => 0)
  case atStart => exact ⟨rfl, rfl, rfl⟩
  case round =>
    obtain ⟨rfl, rfl, rfl⟩ := hrel
    by_cases h0 : 0 < cols
    all_goals
      go_wp2_with fail
      go_ret2
      exact ⟨_, _, rfl, (HO.out.below HB1.out).names (fun g _ h => h.resolve_right (by simp [Value.ownBlock])), OI.nil _ _, HB.out.trans (HB1.out.mono HB.out.size)⟩

theorem inv_one {O : FOps} {q : Int} (hO : O.Fld q) {x : Int} (h0 : 0 < x) (h1 : x < q) : O.inv x = 1 ↔ x = 1 := by
  have h := hO.mul_inv x h0 h1
  have hi := hO.inv_lt x
  constructor
  · intro e
    rw [e, hO.mul_one x (by omega) h1] at h
    exact h
  · intro e
    subst e
    rwa [hO.one_mul hi.1 hi.2] at h

set_option maxHeartbeats 40000000 in
theorem melim_cons (w0 w : World) (A : Nat) (P M : Int) (cols L n g cc : Nat) (Mod : List Int) (rows : List (List Int)) (hG : GF w0 A P M Mod) (hOM : OM w0.heap.size (fun g => g < w0.heap.size) w (.slice (some ⟨g, 0, none⟩) n cc) rows)
    (hn : rows.length = n) (hpos : 0 < n) (hb : Below w0.heap.size w0 w) (hR : Rows (orderF P M) L rows) (hcL : cols ≤ L) (hL : L ≤ 100000) (hn2 : n ≤ 100000) :
    Calls Try.prog 133 #[.pointer (some ⟨A, 0, none⟩), .slice (some ⟨g, 0, none⟩) n cc, .int .i64 (cols : Int), .slice none 0 0] w
      (RetEI w0 (.slice (some ⟨g, 0, none⟩) n cc) (elimTo (refOps P M Mod) rows cols).1 (elimTo (refOps P M Mod) rows cols).2) := by
  have hf := hG.fld
  have ho := hf.1
  have HLT := Lib.hid (refOps_lt ho Mod)
  have HFLD := Lib.hid (ref_fld hf)
  have hob := orderF_bounds P M
  have HG := Lib.hid hG; clear hG
  obtain ⟨O, hO⟩ : ∃ O, O = refOps P M Mod := ⟨_, rfl⟩
  rw [← hO] at HLT HFLD ⊢
  have HOE := Lib.hid hO; clear hO
  obtain ⟨q, hq⟩ : ∃ q, q = orderF P M := ⟨_, rfl⟩
  rw [← hq] at HLT HFLD hR hob
  have HQE := Lib.hid hq; clear hq
  obtain ⟨hq0, hq1⟩ := hob
  have HR := Lib.hid hR; have HN := Lib.hid hn
  have HB := Lib.hid hb
  have hsz := hb.size
  have HEM0 : Hid (EM w0 (((w.alloc (.cells #[.pointer (some ⟨A, 0, none⟩)] 80)).alloc (.cells #[.slice (some ⟨g, 0, none⟩) n cc] 25)).alloc (.cells #[.slice none 0 0] 25)) (.slice (some ⟨g, 0, none⟩) n cc) (.slice none 0 0) rows []
      (fun b => ((b < w0.heap.size ∨ b = w.heap.size) ∨ b = w.heap.size + 1) ∨ b = w.heap.size + 1 + 1) A w.heap.size (w.heap.size + 1) (w.heap.size + 1 + 1)) := by
    have s1 : (w.alloc (.cells #[.pointer (some ⟨A, 0, none⟩)] 80)).heap.size = w.heap.size + 1 := World.size_alloc _ _
    have s2 : ((w.alloc (.cells #[.pointer (some ⟨A, 0, none⟩)] 80)).alloc (.cells #[.slice (some ⟨g, 0, none⟩) n cc] 25)).heap.size = w.heap.size + 1 + 1 := by rw [World.size_alloc, s1]
    have b1 := Blk.new w 80 [.pointer (some ⟨A, 0, none⟩)]
    have b2 := Blk.new (w.alloc (.cells #[.pointer (some ⟨A, 0, none⟩)] 80)) 25 [.slice (some ⟨g, 0, none⟩) n cc]
    have b3 := Blk.new ((w.alloc (.cells #[.pointer (some ⟨A, 0, none⟩)] 80)).alloc (.cells #[.slice (some ⟨g, 0, none⟩) n cc] 25)) 25 [.slice none 0 0]
    rw [s1] at b2
    rw [s2] at b3
    have hbb := bl_trans (bl_trans (bl_alloc w (.cells #[.pointer (some ⟨A, 0, none⟩)] 80)) (bl_alloc _ (.cells #[.slice (some ⟨g, 0, none⟩) n cc] 25))) (bl_alloc _ (.cells #[.slice none 0 0] 25))
    refine ⟨(hOM.names fun b hl hx => ?_).below hbb, fun b hx => ?_, OI.nil _ _, fun g hg => by simp [Value.ownBlock] at hg, fun g hg => by simp [Value.ownBlock] at hg, hb.trans (hbb.mono hsz), .inl (.inl (.inr rfl)), .inl (.inr rfl), .inr rfl, (b1.alloc _).alloc _, b2.alloc _, b3⟩
    · rcases hx with ((hx | hx) | hx) | hx
      · exact hx
      · omega
      · omega
      · omega
    · rw [World.size_alloc, s2]
      rcases hx with ((hx | hx) | hx) | hx <;> omega
  clear hOM hn hb hR
  go_enter Try.func133, Try.ntmps133
  go_wp2_with fail
  generalize (((w.alloc (.cells #[.pointer (some ⟨A, 0, none⟩)] 80)).alloc (.cells #[.slice (some ⟨g, 0, none⟩) n cc] 25)).alloc (.cells #[.slice none 0 0] 25)) = w1 at *
  generalize hX0 : (fun b => ((b < w0.heap.size ∨ b = w.heap.size) ∨ b = w.heap.size + 1) ∨ b = w.heap.size + 1 + 1) = X0 at *
  have HX0 : Hid (∀ b, b < w0.heap.size → X0 b) := hid' fun b hb => by rw [← hX0]; exact .inl (.inl (.inl hb))
  have H46 : Hid (w.heap.size ≠ w.heap.size + 1) := hid' (by omega)
  obtain ⟨b4, hb4⟩ : ∃ b4, b4 = w.heap.size := ⟨_, rfl⟩
  obtain ⟨b5, hb5⟩ : ∃ b5, b5 = w.heap.size + 1 := ⟨_, rfl⟩
  obtain ⟨b7, hb7⟩ : ∃ b7, b7 = w.heap.size + 1 + 1 := ⟨_, rfl⟩
  rw [← hb7, ← hb5, ← hb4] at HEM0 ⊢
  have hb0 : w0.heap.size ≤ b4 ∧ w0.heap.size ≤ b5 ∧ w0.heap.size ≤ b7 := by omega
  clear hX0 hb4 hb5 hb7 H46
  go_wp2_with fail
  go_loopw [10, 12, 13] (fun d u x wr => ∃ (c : Nat) (l : List (List Int)) (piv : List Int) (X : Nat → Prop) (z : Int), c ≤ cols ∧ x = .int .i64 (c : Int) ∧ d = .int .i64 z ∧ Hid (elimTo O rows c = (l, piv)) ∧ Hid (∀ b, b < w0.heap.size → X b) ∧ Hid (EM w0 wr (.slice (some ⟨g, 0, none⟩) n cc) u l piv X A b4 b5 b7)) (fun _ _ x _ => (cols - intOf x).toNat)
  case atStart => exact ⟨0, rows, [], X0, 1, Nat.zero_le _, rfl, rfl, rfl, HX0, HEM0⟩
  case round =>
    clear HEM0 HX0
    obtain ⟨c, l, piv, X, z, hc, rfl, rfl, HE, HXL, HEM⟩ := hrel
    have hok := elimTo_ok HLT.out HR.out c HE.out
    have HLN : Hid (l.length = n) := by rw [← HN.out]; exact hok.2.1
    have HLR := Lib.hid hok.1
    have han : piv.length ≤ n := by have := hok.2.2.1; rw [HN.out] at this; exact this
    clear hok
    obtain ⟨uA, uc, rfl⟩ := HEM.out.oi.form'
    generalize ha : piv.length = a at *
    have HA := Lib.hid ha; clear ha
    have c5 : wr.cell? ⟨b5, 0, none⟩ = some (.slice (some ⟨g, 0, none⟩) n cc) := HEM.out.k5.cell 0
    by_cases hcl : c < cols
    case neg =>
      obtain rfl : cols = c := by omega
      go_wp2_with fail
      go_ret2
      rw [HE.out]
      refine ⟨_, _, rfl, HEM.out.om.names (fun b _ hb => hb.elim (HXL.out b) (HEM.out.xu b)), ?_, HEM.out.bel⟩
      rw [← HA.out]; have := HEM.out.oi; rw [← HA.out] at this; exact this
    by_cases hal : a < n
    case neg =>
      have HDN : Hid (elimTo O rows cols = (l, piv)) := elimTo_done HE.out (by rw [HLN.out, HA.out]; exact hal) cols (by omega)
      have hna : n ≤ a := by omega
      go_wp2_with fail
      go_ret2
      rw [HDN.out]
      exact ⟨_, _, rfl, HEM.out.om.names (fun b _ hb => hb.elim (HXL.out b) (HEM.out.xu b)), HEM.out.oi, HEM.out.bel⟩
    have hcLL : c < L := by omega
    have hgg := HEM.out.om.lt (g := g) rfl
    go_wp2_with fail
    have HEM1 : Hid (EM w0 ((wr.alloc (.cells #[.int .i64 (a : Int)] 3)).alloc (.cells #[.int .i64 (a : Int)] 3)) (.slice (some ⟨g, 0, none⟩) n cc) (.slice uA a uc) l piv (fun b => (X b ∨ b = wr.heap.size) ∨ b = wr.heap.size + 1) A b4 b5 b7) := by
      have := (HEM.out.box (.cells #[.int .i64 (a : Int)] 3)).box (.cells #[.int .i64 (a : Int)] 3)
      rw [World.size_alloc] at this
      exact this
    have HKA : Hid (Blk ((wr.alloc (.cells #[.int .i64 (a : Int)] 3)).alloc (.cells #[.int .i64 (a : Int)] 3)) wr.heap.size 3 [.int .i64 (a : Int)]) := (Blk.new wr 3 [.int .i64 (a : Int)]).alloc _
    have HKK : Hid (Blk ((wr.alloc (.cells #[.int .i64 (a : Int)] 3)).alloc (.cells #[.int .i64 (a : Int)] 3)) (wr.heap.size + 1) 3 [.int .i64 (a : Int)]) := by
      have := Blk.new (wr.alloc (.cells #[.int .i64 (a : Int)] 3)) 3 [.int .i64 (a : Int)]
      rw [World.size_alloc] at this
      exact this
    have HUL : Hid (∀ b, (Value.slice uA a uc).ownBlock = some b → b < wr.heap.size) := hid' fun b hb => HEM.out.xb b (HEM.out.xu b hb)
    have HXB : Hid (∀ b, X b → b < wr.heap.size) := hid' HEM.out.xb
    have hl4 := HEM.out.k4.lt; have hl5 := HEM.out.k5.lt; have hl7 := HEM.out.k7.lt; have hlB := HEM.out.bel.size
    generalize (wr.alloc (.cells #[.int .i64 (a : Int)] 3)).alloc (.cells #[.int .i64 (a : Int)] 3) = w2 at *
    obtain ⟨ga, hga⟩ : ∃ ga, ga = wr.heap.size := ⟨_, rfl⟩
    obtain ⟨gk, hgk⟩ : ∃ gk, gk = wr.heap.size + 1 := ⟨_, rfl⟩
    rw [← hgk] at HEM1 HKK ⊢
    rw [← hga] at HEM1 HKA ⊢
    have hak : ga ≠ gk := by omega
    obtain ⟨X1, hX1⟩ : ∃ X1 : Nat → Prop, X1 = fun b => (X b ∨ b = ga) ∨ b = gk := ⟨_, rfl⟩
    rw [← hX1] at HEM1
    have HX1L : Hid (∀ b, b < w0.heap.size → X1 b) := hid' fun b hb => by rw [hX1]; exact .inl (.inl (HXL.out b hb))
    have HX1A : Hid (X1 ga) := by show X1 ga; rw [hX1]; exact .inl (.inr rfl)
    have HX1K : Hid (X1 gk) := by show X1 gk; rw [hX1]; exact .inr rfl
    have h0k : w0.heap.size ≤ gk := by omega
    have HUK : Hid (∀ b, (Value.slice uA a uc).ownBlock = some b → b ≠ gk) := hid' fun b hb => by have := HUL.out b hb; omega
    have h4k : b4 ≠ gk := by omega
    have h5k : b5 ≠ gk := by omega
    have h7k : b7 ≠ gk := by omega
    clear HEM HXL hX1 hga hgk HUL HXB hl4 hl5 hl7 hlB c5 hgg
    go_loopw [] (fun wr => ∃ k : Nat, a ≤ k ∧ k ≤ n ∧ Hid (findK l c n (n - a) a = findK l c n (n - k) k) ∧ Hid (EM w0 wr (.slice (some ⟨g, 0, none⟩) n cc) (.slice uA a uc) l piv X1 A b4 b5 b7) ∧ Hid (Blk wr ga 3 [.int .i64 (a : Int)]) ∧ Hid (Blk wr gk 3 [.int .i64 (k : Int)])) (fun wr => n - (intOf ((wr.cell? ⟨gk, 0, none⟩).getD (.int .i64 0))).toNat)
    case atStart => exact ⟨a, Nat.le_refl _, by omega, rfl, HEM1, HKA, HKK⟩
    case round =>
      clear HEM1 HKA HKK
      obtain ⟨k, hak2, hkn, HK, HEM, HKA, HKK⟩ := hrel
      have ck : wr.cell? ⟨gk, 0, none⟩ = some (.int .i64 (k : Int)) := HKK.out.cell 0
      have fk := HKK.out.frozen 0
      have c5 : wr.cell? ⟨b5, 0, none⟩ = some (.slice (some ⟨g, 0, none⟩) n cc) := HEM.out.k5.cell 0
      by_cases hkl : k < n
      · obtain ⟨uk, hu, hrow, _⟩ := HEM.out.om.row (k := k) (by rw [HLN.out]; exact hkl)
        have hlk := (HLR.out k (by rw [HLN.out]; exact hkl)).1
        obtain ⟨qk, qc, rfl, _, _⟩ := hrow.form (by rw [hlk]; omega)
        have hx := hrow.cell c (by rw [hlk]; omega)
        rw [hlk] at hu
        obtain ⟨x, hxx⟩ : ∃ x, x = (l.getD k []).getD c 0 := ⟨_, rfl⟩
        rw [← hxx] at hx
        have HX := Lib.hid hxx
        clear hxx hrow hlk
        by_cases hx0 : x = 0
        · subst hx0
          have HKN := Lib.hid (HKK.out.set_ 0 (.int .i64 ((k : Int) + 1)))
          have HEN := Lib.hid (HEM.out.set (i := 0) HX1K.out h0k HUK.out h4k h5k h7k (.int .i64 ((k : Int) + 1)))
          have HAN := Lib.hid (HKA.out.far (p := ⟨gk, 0, none⟩) hak (.int .i64 ((k : Int) + 1)))
          go_wp2_with fail
          refine ⟨⟨k + 1, by omega, by omega, ?_, HEN, HAN, by rw [show ((k + 1 : Nat) : Int) = (k : Int) + 1 by push_cast; rfl]; exact HKN⟩, ?_⟩
          · show _ = _
            rw [HK.out, show n - k = (n - (k + 1)) + 1 by omega, findK, if_pos HX.out.symm]
          · have e : (wr.setCell ⟨gk, 0, none⟩ (.int .i64 ((k : Int) + 1))).cell? ⟨gk, 0, none⟩ = some (.int .i64 ((k : Int) + 1)) := HKN.out.cell 0
            rw [ck, e]
            show n - ((k : Int) + 1).toNat < n - (k : Int).toNat
            omega
        · have hxb : (x == 0) = false := by rw [beq_eq_false_iff_ne]; exact hx0
          have HKE : Hid (findK l c l.length (l.length - piv.length) piv.length = k) := by
            show _ = _
            rw [HLN.out, HA.out, HK.out, show n - k = (n - (k + 1)) + 1 by omega, findK, if_neg (by rw [← HX.out]; exact hx0)]
          have hkb : (((k : Nat) : Int) == (n : Int)) = false := by rw [beq_eq_false_iff_ne]; omega
          have HNX : Hid (elimTo O rows (c + 1) = (stepL O c l a k, piv ++ [(c : Int)])) := by
            show _ = _
            rw [elimTo_next HE.out (by rw [HLN.out, HA.out]; exact hal) HKE.out, if_neg (by rw [HLN.out]; omega), HA.out]
          have HXQ : Hid (0 < x ∧ x < q) := by
            have h := (HLR.out k (by rw [HLN.out]; exact hkl)).2 c
            rw [← HX.out] at h
            exact ⟨by omega, h.2⟩
          have ca : wr.cell? ⟨ga, 0, none⟩ = some (.int .i64 (a : Int)) := HKA.out.cell 0
          have c7 : wr.cell? ⟨b7, 0, none⟩ = some (.slice none 0 0) := HEM.out.k7.cell 0
          have HC5 := Lib.hid c5; have HC7 := Lib.hid c7; have HCA := Lib.hid ca; have HCK := Lib.hid ck
          clear hx0 HKE
          go_upto_if 58 with (fail)
          go_cut [10] from 21 to 122 (fun d wc => ∃ z2, d = .int .i64 z2 ∧ Hid (EM w0 wc (.slice (some ⟨g, 0, none⟩) n cc) (.slice uA a uc) (swapL l a k) piv X1 A b4 b5 b7) ∧ Hid (Blk wc ga 3 [.int .i64 (a : Int)]))
          case first =>
            by_cases hka : k = a
            · subst hka
              have hnb : (((k : Nat) : Int) != (k : Int)) = false := by simp
              go_wp2_with fail
              go_meet
              case rel => exact ⟨z, rfl, by rw [swap_self]; exact HEM, HKA⟩
            · have hnb : (((k : Nat) : Int) != (a : Int)) = true := by rw [bne_iff_ne]; omega
              go_wp2_with fail
              refine (each2_any (X := X1) (B := w0.heap.size) HC5.out HC7.out HEM.out.x7 HEM.out.om HLN.out hal hkl (fun e => hka e.symm) HX1K.out HX1A.out HCK.out HCA.out HEM.out.bel.size).mono ?_
              rintro e w3 ⟨rfl, ho3, hk3⟩
              have HEM3 := Lib.hid (HEM.out.kx ho3 hk3)
              have HKA3 := Lib.hid (hk3.blk HKA.out HX1A.out)
              have c4 : w3.cell? ⟨b4, 0, none⟩ = some (.pointer (some ⟨A, 0, none⟩)) := HEM3.out.k4.cell 0
              clear ho3 hk3
              go_wp2_with fail
              refine (gneg_any _ A P M z Mod (HG.out.below HEM3.out.bel (Nat.le_refl _))).mono ?_
              rintro e w4 ⟨rfl, hb4⟩
              have HEM4 := Lib.hid (HEM3.out.on hb4)
              have HKA4 := Lib.hid (HKA3.out.belowS hb4)
              clear hb4 c4
              go_wp2_with fail
              go_meet
              case rel => exact ⟨_, rfl, HEM4, HKA4⟩
          case rest =>
            clear HEM HKA HKK ck fk c5 hu hx hxb hkb ca c7 HC5 HC7 HCA HCK
            obtain ⟨z2, rfl, HEM, HKA⟩ := hcut
            have HSL : Hid ((swapL l a k).length = n) := by show _ = _; rw [swapL_len, HLN.out]
            have HSR := Lib.hid (HLR.out.swap (a := a) (b := k) (by rw [HLN.out]; exact hal) (by rw [HLN.out]; exact hkl))
            have HSX : Hid (((swapL l a k).getD a []).getD c 0 = x) := by
              show _ = _
              rw [HX.out]
              unfold swapL
              by_cases e : a = k
              · subst e; rw [getD_setL, List.length_set, if_pos ⟨rfl, by rw [HLN.out]; exact hal⟩]
              · rw [getD_setL, List.length_set, if_neg (fun h => e h.1.symm), getD_setL, if_pos ⟨rfl, by rw [HLN.out]; exact hal⟩]
            have HST : Hid (stepL O c l a k = clearTo O c a (monicL O c a (swapL l a k)) n) := by show _ = _; unfold stepL; rw [HLN.out]
            obtain ⟨ls, hls⟩ : ∃ ls, ls = swapL l a k := ⟨_, rfl⟩
            rw [← hls] at HEM HSL HSR HSX HST
            clear hls HX
            obtain ⟨ua, hu, hrow, _⟩ := HEM.out.om.row (k := a) (by rw [HSL.out]; exact hal)
            have hlk := (HSR.out a (by rw [HSL.out]; exact hal)).1
            obtain ⟨qa, qc, rfl, _, _⟩ := hrow.form (by rw [hlk]; omega)
            have hx := hrow.cell c (by rw [hlk]; omega)
            rw [HSX.out] at hx
            rw [hlk] at hu
            have c4 : wc.cell? ⟨b4, 0, none⟩ = some (.pointer (some ⟨A, 0, none⟩)) := HEM.out.k4.cell 0
            have c5 : wc.cell? ⟨b5, 0, none⟩ = some (.slice (some ⟨g, 0, none⟩) n cc) := HEM.out.k5.cell 0
            have ca : wc.cell? ⟨ga, 0, none⟩ = some (.int .i64 (a : Int)) := HKA.out.cell 0
            clear hrow hlk
            go_wp2_with fail
            refine Kept.start (S := fun w' => w'.cell? ⟨b4, 0, none⟩ = some (.pointer (some ⟨A, 0, none⟩)) ∧ w'.cell? ⟨b5, 0, none⟩ = some (.slice (some ⟨g, 0, none⟩) n cc) ∧ w'.cell? ⟨ga, 0, none⟩ = some (.int .i64 (a : Int)) ∧ w'.cell? ⟨g, a, none⟩ = some (.slice (some ⟨qa, 0, none⟩) L qc) ∧ w'.cell? ⟨qa, c, none⟩ = some (.int .i64 x)) (by kernel_rfl) (⟨c4, c5, ca, hu, hx⟩) (fun hHeld => ?_)
            change Kept _ _ _ _ 11 _ _ _
            refine Kept.take (i := 0) (v := ?_) rfl (by kernel_rfl) (by kernel_rfl) (by kernel_rfl) (fun _ _ _ h => h) (Or.inl ⟨by kernel_rfl, ?_⟩) hHeld ?_
            rotate_left
            · intro w' hSw; (try dsimp only at hSw); first | (go_simp; done) | (go_simp; with_reducible rfl)
            try simp only [List.getElem_toArray, List.getElem_cons_zero, List.getElem_cons_succ, Act.put, List.setIfInBounds_toArray, List.set_cons_zero, List.set_cons_succ]
            refine Kept.take (i := 1) (v := ?_) rfl (by kernel_rfl) (by kernel_rfl) (by kernel_rfl) (fun _ _ _ h => h) (Or.inl ⟨by kernel_rfl, ?_⟩) hHeld ?_
            rotate_left
            · intro w' hSw; (try dsimp only at hSw); first | (go_simp; done) | (go_simp; with_reducible rfl)
            try simp only [List.getElem_toArray, List.getElem_cons_zero, List.getElem_cons_succ, Act.put, List.setIfInBounds_toArray, List.set_cons_zero, List.set_cons_succ]
            refine Kept.take (i := 2) (v := ?_) rfl (by kernel_rfl) (by kernel_rfl) (by kernel_rfl) (fun _ _ _ h => h) (Or.inl ⟨by kernel_rfl, ?_⟩) hHeld ?_
            rotate_left
            · intro w' hSw; (try dsimp only at hSw); first | (go_simp; done) | (go_simp; with_reducible rfl)
            try simp only [List.getElem_toArray, List.getElem_cons_zero, List.getElem_cons_succ, Act.put, List.setIfInBounds_toArray, List.set_cons_zero, List.set_cons_succ]
            refine Kept.take (i := 3) (v := ?_) rfl (by kernel_rfl) (by kernel_rfl) (by kernel_rfl) (fun _ _ _ h => h) (Or.inl ⟨by kernel_rfl, ?_⟩) hHeld ?_
            rotate_left
            · intro w' hSw; (try dsimp only at hSw); first | (go_simp; done) | (go_simp; with_reducible rfl)
            try simp only [List.getElem_toArray, List.getElem_cons_zero, List.getElem_cons_succ, Act.put, List.setIfInBounds_toArray, List.set_cons_zero, List.set_cons_succ]
            refine Kept.take (i := 4) (v := ?_) rfl (by kernel_rfl) (by kernel_rfl) (by kernel_rfl) (fun _ _ _ h => h) (Or.inl ⟨by kernel_rfl, ?_⟩) hHeld ?_
            rotate_left
            · intro w' hSw; (try dsimp only at hSw); first | (go_simp; done) | (go_simp; with_reducible rfl)
            try simp only [List.getElem_toArray, List.getElem_cons_zero, List.getElem_cons_succ, Act.put, List.setIfInBounds_toArray, List.set_cons_zero, List.set_cons_succ]
            refine Kept.take (i := 5) (v := ?_) rfl (by kernel_rfl) (by kernel_rfl) (by kernel_rfl) (fun _ _ _ h => h) (Or.inl ⟨by kernel_rfl, ?_⟩) hHeld ?_
            rotate_left
            · intro w' hSw; (try dsimp only at hSw); first | (go_simp; done) | (go_simp; with_reducible rfl)
            try simp only [List.getElem_toArray, List.getElem_cons_zero, List.getElem_cons_succ, Act.put, List.setIfInBounds_toArray, List.set_cons_zero, List.set_cons_succ]
            refine Kept.take (i := 6) (v := ?_) rfl (by kernel_rfl) (by kernel_rfl) (by kernel_rfl) (fun _ _ _ h => h) (Or.inl ⟨by kernel_rfl, ?_⟩) hHeld ?_
            rotate_left
            · intro w' hSw; (try dsimp only at hSw); first | (go_simp; done) | (go_simp; with_reducible rfl)
            try simp only [List.getElem_toArray, List.getElem_cons_zero, List.getElem_cons_succ, Act.put, List.setIfInBounds_toArray, List.set_cons_zero, List.set_cons_succ]
            refine Kept.take (i := 7) (v := ?_) rfl (by kernel_rfl) (by kernel_rfl) (by kernel_rfl) (fun _ _ _ h => h) (Or.inl ⟨by kernel_rfl, ?_⟩) hHeld ?_
            rotate_left
            · intro w' hSw; (try dsimp only at hSw); first | (go_simp; done) | (go_simp; with_reducible rfl)
            try simp only [List.getElem_toArray, List.getElem_cons_zero, List.getElem_cons_succ, Act.put, List.setIfInBounds_toArray, List.set_cons_zero, List.set_cons_succ]
            refine Kept.take (i := 8) (v := ?_) rfl (by kernel_rfl) (by kernel_rfl) (by kernel_rfl) (fun _ _ _ h => h) (Or.inl ⟨by kernel_rfl, ?_⟩) hHeld ?_
            rotate_left
            · intro w' hSw; (try dsimp only at hSw); first | (go_simp; done) | (go_simp; with_reducible rfl)
            try simp only [List.getElem_toArray, List.getElem_cons_zero, List.getElem_cons_succ, Act.put, List.setIfInBounds_toArray, List.set_cons_zero, List.set_cons_succ]
            refine Kept.only (i := 9) (by kernel_rfl) rfl (fun K hK => ?_)
            go_simp
            refine (gmul_any _ A P M z2 x Mod (HG.out.below (HEM.out.bel.trans ((bl_drew wc).mono HEM.out.bel.size)) (Nat.le_refl _))).mono ?_; rintro e w3 ⟨rfl, hb3⟩; have HB3 := Lib.hid (bl_trans (bl_drew wc) hb3); have HEM3 := Lib.hid (HEM.out.on HB3.out); have HKA3 := Lib.hid (HKA.out.belowS HB3.out); have d4 := cell_below HB3.out c4; have d5 := cell_below HB3.out c5; have da := cell_below HB3.out ca; have du := cell_below HB3.out hu; have dx := cell_below HB3.out hx; clear hb3
            refine hK.out _ _ (⟨d4, d5, da, du, dx⟩) (fun hHeld2 => ?_)
            clear hK K
            replace hHeld := hHeld2
            clear hHeld2
            try simp only [List.getElem_toArray, List.getElem_cons_zero, List.getElem_cons_succ, Act.put, List.setIfInBounds_toArray, List.set_cons_zero, List.set_cons_succ]
            refine Kept.only (i := 10) (by kernel_rfl) rfl (fun K hK => ?_)
            go_simp
            refine hK.out _ _ hHeld (fun hHeld2 => ?_)
            clear hK K
            clear hHeld2
            refine Kept.done (by kernel_rfl) ?_
            try simp only [List.getElem_toArray, List.getElem_cons_zero, List.getElem_cons_succ, Act.put, List.setIfInBounds_toArray, List.set_cons_zero, List.set_cons_succ]
            clear hHeld
            generalize mulR P M Mod z2 x = z3
            clear HEM HKA c4 c5 ca hu hx HB3
            go_upto_region 16 with fail
            have D4 := Lib.hid d4; have D5 := Lib.hid d5; have DA := Lib.hid da; have DU := Lib.hid du; have DX := Lib.hid dx
            have HIQ : Hid (inQ (orderF P M) x ≠ 0) := by
              show _ ≠ _
              unfold inQ
              rw [← HQE.out, if_pos ⟨by have := HXQ.out.1; omega, HXQ.out.2⟩]
              have := HXQ.out.1
              omega
            go_cut [16, 17] from 21 to 122 (fun t6 t7 wd => ∃ gi, t6 = .pointer (some ⟨gi, 0, none⟩) ∧ t7 = .int .i64 0 ∧ w3.heap.size ≤ gi ∧ Hid (Blk wd gi 3 [.int .i64 (invF P M Mod x)]) ∧ Hid (Below w3.heap.size w3 wd))
            case first =>
              refine Kept.start (S := fun w' => w'.cell? ⟨b4, 0, none⟩ = some (.pointer (some ⟨A, 0, none⟩)) ∧ w'.cell? ⟨b5, 0, none⟩ = some (.slice (some ⟨g, 0, none⟩) n cc) ∧ w'.cell? ⟨ga, 0, none⟩ = some (.int .i64 (a : Int)) ∧ w'.cell? ⟨g, a, none⟩ = some (.slice (some ⟨qa, 0, none⟩) L qc) ∧ w'.cell? ⟨qa, c, none⟩ = some (.int .i64 x)) (by kernel_rfl) (⟨d4, d5, da, du, dx⟩) (fun hHeld => ?_)
              change Kept _ _ _ _ 15 _ _ _
              have hdrew := bl_drew w3
              generalize w3.drew = wq1 at hdrew hHeld ⊢
              have HBB := Lib.hid hdrew
              clear d4 d5 da du dx
              clear hdrew
              refine Kept.take (i := 0) (v := ?_) rfl (by kernel_rfl) (by kernel_rfl) (by kernel_rfl) (fun _ _ _ h => h) (Or.inl ⟨by kernel_rfl, ?_⟩) hHeld ?_
              rotate_left
              · intro w' hSw; (try dsimp only at hSw); first | (go_simp; done) | (go_simp; with_reducible rfl)
              try simp only [List.getElem_toArray, List.getElem_cons_zero, List.getElem_cons_succ, Act.put, List.setIfInBounds_toArray, List.set_cons_zero, List.set_cons_succ]
              refine Kept.take (i := 1) (v := ?_) rfl (by kernel_rfl) (by kernel_rfl) (by kernel_rfl) (fun _ _ _ h => h) (Or.inl ⟨by kernel_rfl, ?_⟩) hHeld ?_
              rotate_left
              · intro w' hSw; (try dsimp only at hSw); first | (go_simp; done) | (go_simp; with_reducible rfl)
              try simp only [List.getElem_toArray, List.getElem_cons_zero, List.getElem_cons_succ, Act.put, List.setIfInBounds_toArray, List.set_cons_zero, List.set_cons_succ]
              refine Kept.take (i := 2) (v := ?_) rfl (by kernel_rfl) (by kernel_rfl) (by kernel_rfl) (fun _ _ _ h => h) (Or.inl ⟨by kernel_rfl, ?_⟩) hHeld ?_
              rotate_left
              · intro w' hSw; (try dsimp only at hSw); first | (go_simp; done) | (go_simp; with_reducible rfl)
              try simp only [List.getElem_toArray, List.getElem_cons_zero, List.getElem_cons_succ, Act.put, List.setIfInBounds_toArray, List.set_cons_zero, List.set_cons_succ]
              refine Kept.take (i := 3) (v := ?_) rfl (by kernel_rfl) (by kernel_rfl) (by kernel_rfl) (fun _ _ _ h => h) (Or.inl ⟨by kernel_rfl, ?_⟩) hHeld ?_
              rotate_left
              · intro w' hSw; (try dsimp only at hSw); first | (go_simp; done) | (go_simp; with_reducible rfl)
              try simp only [List.getElem_toArray, List.getElem_cons_zero, List.getElem_cons_succ, Act.put, List.setIfInBounds_toArray, List.set_cons_zero, List.set_cons_succ]
              refine Kept.take (i := 4) (v := ?_) rfl (by kernel_rfl) (by kernel_rfl) (by kernel_rfl) (fun _ _ _ h => h) (Or.inl ⟨by kernel_rfl, ?_⟩) hHeld ?_
              rotate_left
              · intro w' hSw; (try dsimp only at hSw); first | (go_simp; done) | (go_simp; with_reducible rfl)
              try simp only [List.getElem_toArray, List.getElem_cons_zero, List.getElem_cons_succ, Act.put, List.setIfInBounds_toArray, List.set_cons_zero, List.set_cons_succ]
              refine Kept.take (i := 5) (v := ?_) rfl (by kernel_rfl) (by kernel_rfl) (by kernel_rfl) (fun _ _ _ h => h) (Or.inl ⟨by kernel_rfl, ?_⟩) hHeld ?_
              rotate_left
              · intro w' hSw; (try dsimp only at hSw); first | (go_simp; done) | (go_simp; with_reducible rfl)
              try simp only [List.getElem_toArray, List.getElem_cons_zero, List.getElem_cons_succ, Act.put, List.setIfInBounds_toArray, List.set_cons_zero, List.set_cons_succ]
              refine Kept.take (i := 6) (v := ?_) rfl (by kernel_rfl) (by kernel_rfl) (by kernel_rfl) (fun _ _ _ h => h) (Or.inl ⟨by kernel_rfl, ?_⟩) hHeld ?_
              rotate_left
              · intro w' hSw; (try dsimp only at hSw); first | (go_simp; done) | (go_simp; with_reducible rfl)
              try simp only [List.getElem_toArray, List.getElem_cons_zero, List.getElem_cons_succ, Act.put, List.setIfInBounds_toArray, List.set_cons_zero, List.set_cons_succ]
              refine Kept.take (i := 7) (v := ?_) rfl (by kernel_rfl) (by kernel_rfl) (by kernel_rfl) (fun _ _ _ h => h) (Or.inl ⟨by kernel_rfl, ?_⟩) hHeld ?_
              rotate_left
              · intro w' hSw; (try dsimp only at hSw); first | (go_simp; done) | (go_simp; with_reducible rfl)
              try simp only [List.getElem_toArray, List.getElem_cons_zero, List.getElem_cons_succ, Act.put, List.setIfInBounds_toArray, List.set_cons_zero, List.set_cons_succ]
              refine Kept.two (i := 8) (j := 12) (oi := ?opa2) (oj := ?opb2) (by kernel_rfl) ?hoa2 ?hob2 (fun K hK => ?way12) (fun K hK => ?way22)
              case hoa2 => (conv => lhs; simp only [List.getElem?_toArray, List.getElem?_cons_succ, List.getElem?_cons_zero])
              case hob2 => (conv => lhs; simp only [List.getElem?_toArray, List.getElem?_cons_succ, List.getElem?_cons_zero])
              case way12 =>
                go_simp
                refine (ginv_any _ A P M x Mod (HG.out.below (HEM3.out.bel.trans (HBB.out.mono HEM3.out.bel.size)) (Nat.le_refl _)) HIQ.out).mono ?_
                rintro e wq3 ⟨rfl, hb⟩
                
                replace HBB := Lib.hid (bl_trans HBB.out hb)
                clear hb
                refine hK.out _ _ (⟨cell_below HBB.out D4.out, cell_below HBB.out D5.out, cell_below HBB.out DA.out, cell_below HBB.out DU.out, cell_below HBB.out DX.out⟩) (fun hHeld2 => ?_)
                clear hK K
                replace hHeld := hHeld2
                clear hHeld2
                try simp only [List.getElem_toArray, List.getElem_cons_zero, List.getElem_cons_succ, Act.put, List.setIfInBounds_toArray, List.set_cons_zero, List.set_cons_succ]
                refine Kept.take (i := 9) (v := ?_) rfl (by kernel_rfl) (by kernel_rfl) (by kernel_rfl) (fun _ _ _ h => h) (Or.inl ⟨by kernel_rfl, ?_⟩) hHeld ?_
                rotate_left
                · intro w' hSw; (try dsimp only at hSw); first | (go_simp; done) | (go_simp; with_reducible rfl)
                try simp only [List.getElem_toArray, List.getElem_cons_zero, List.getElem_cons_succ, Act.put, List.setIfInBounds_toArray, List.set_cons_zero, List.set_cons_succ]
                refine Kept.take (i := 10) (v := ?_) rfl (by kernel_rfl) (by kernel_rfl) (by kernel_rfl) (fun _ _ _ h => h) (Or.inl ⟨by kernel_rfl, ?_⟩) hHeld ?_
                rotate_left
                · intro w' hSw; (try dsimp only at hSw); first | (go_simp; done) | (go_simp; with_reducible rfl)
                try simp only [List.getElem_toArray, List.getElem_cons_zero, List.getElem_cons_succ, Act.put, List.setIfInBounds_toArray, List.set_cons_zero, List.set_cons_succ]
                refine Kept.take (i := 11) (v := ?_) rfl (by kernel_rfl) (by kernel_rfl) (by kernel_rfl) (fun _ _ _ h => h) (Or.inl ⟨by kernel_rfl, ?_⟩) hHeld ?_
                rotate_left
                · intro w' hSw; (try dsimp only at hSw); first | (go_simp; done) | (go_simp; with_reducible rfl)
                try simp only [List.getElem_toArray, List.getElem_cons_zero, List.getElem_cons_succ, Act.put, List.setIfInBounds_toArray, List.set_cons_zero, List.set_cons_succ]
                refine Kept.only (i := 12) (o := ?op4) (by kernel_rfl) ?ho4 (fun K hK => ?_)
                case ho4 => (conv => lhs; simp only [List.getElem?_toArray, List.getElem?_cons_succ, List.getElem?_cons_zero])
                go_simp
                obtain ⟨wq5, gi, e1, e2, hX, hb⟩ := mk_box wq3 3 [.int .i64 0]
                rw [e1, e2]
                have HBX := Lib.hid hX
                have hgi : w3.heap.size ≤ gi := (by have := HBB.out.size; omega)
                replace HBB := Lib.hid (bl_trans HBB.out hb)
                clear e1 e2 hX hb
                refine hK.out _ _ (⟨cell_below HBB.out D4.out, cell_below HBB.out D5.out, cell_below HBB.out DA.out, cell_below HBB.out DU.out, cell_below HBB.out DX.out⟩) (fun hHeld2 => ?_)
                clear hK K
                replace hHeld := hHeld2
                clear hHeld2
                try simp only [List.getElem_toArray, List.getElem_cons_zero, List.getElem_cons_succ, Act.put, List.setIfInBounds_toArray, List.set_cons_zero, List.set_cons_succ]
                refine Kept.only (i := 13) (o := ?op6) (by kernel_rfl) ?ho6 (fun K hK => ?_)
                case ho6 => (conv => lhs; simp only [List.getElem?_toArray, List.getElem?_cons_succ, List.getElem?_cons_zero])
                have bc := HBX.out.cell 0
                have bf := HBX.out.frozen 0
                go_simp
                have HBY := Lib.hid (HBX.out.set_ 0 (.int .i64 (invF P M Mod x)))
                replace HBB := Lib.hid (HBB.out.setCell (p := ⟨gi, 0, none⟩) hgi (.int .i64 (invF P M Mod x)))
                generalize wq5.setCell ⟨gi, 0, none⟩ (.int .i64 (invF P M Mod x)) = wq7 at *
                clear bc bf HBX
                refine hK.out _ _ (⟨cell_below HBB.out D4.out, cell_below HBB.out D5.out, cell_below HBB.out DA.out, cell_below HBB.out DU.out, cell_below HBB.out DX.out⟩) (fun hHeld2 => ?_)
                clear hK K
                replace hHeld := hHeld2
                clear hHeld2
                try simp only [List.getElem_toArray, List.getElem_cons_zero, List.getElem_cons_succ, Act.put, List.setIfInBounds_toArray, List.set_cons_zero, List.set_cons_succ]
                refine Kept.only (i := 14) (by kernel_rfl) rfl (fun K hK => ?_)
                go_simp
                refine hK.out _ _ hHeld (fun hHeld2 => ?_)
                clear hK K
                clear hHeld2
                refine Kept.done (by kernel_rfl) ?_
                try simp only [List.getElem_toArray, List.getElem_cons_zero, List.getElem_cons_succ, Act.put, List.setIfInBounds_toArray, List.set_cons_zero, List.set_cons_succ]
                clear hHeld
                go_wp2_with fail
                go_meet
                exact ⟨gi, rfl, rfl, hgi, HBY, HBB⟩
              case way22 =>
                go_simp
                obtain ⟨wq8, gi, e1, e2, hX, hb⟩ := mk_box wq1 3 [.int .i64 0]
                rw [e1, e2]
                have HBX := Lib.hid hX
                have hgi : w3.heap.size ≤ gi := (by have := HBB.out.size; omega)
                replace HBB := Lib.hid (bl_trans HBB.out hb)
                clear e1 e2 hX hb
                refine hK.out _ _ (⟨cell_below HBB.out D4.out, cell_below HBB.out D5.out, cell_below HBB.out DA.out, cell_below HBB.out DU.out, cell_below HBB.out DX.out⟩) (fun hHeld2 => ?_)
                clear hK K
                replace hHeld := hHeld2
                clear hHeld2
                try simp only [List.getElem_toArray, List.getElem_cons_zero, List.getElem_cons_succ, Act.put, List.setIfInBounds_toArray, List.set_cons_zero, List.set_cons_succ]
                refine Kept.only (i := 8) (o := ?op9) (by kernel_rfl) ?ho9 (fun K hK => ?_)
                case ho9 => (conv => lhs; simp only [List.getElem?_toArray, List.getElem?_cons_succ, List.getElem?_cons_zero])
                go_simp
                refine (ginv_any _ A P M x Mod (HG.out.below (HEM3.out.bel.trans (HBB.out.mono HEM3.out.bel.size)) (Nat.le_refl _)) HIQ.out).mono ?_
                rintro e wq10 ⟨rfl, hb⟩
                replace HBX := Lib.hid (HBX.out.belowS hb) 
                replace HBB := Lib.hid (bl_trans HBB.out hb)
                clear hb
                refine hK.out _ _ (⟨cell_below HBB.out D4.out, cell_below HBB.out D5.out, cell_below HBB.out DA.out, cell_below HBB.out DU.out, cell_below HBB.out DX.out⟩) (fun hHeld2 => ?_)
                clear hK K
                replace hHeld := hHeld2
                clear hHeld2
                try simp only [List.getElem_toArray, List.getElem_cons_zero, List.getElem_cons_succ, Act.put, List.setIfInBounds_toArray, List.set_cons_zero, List.set_cons_succ]
                refine Kept.take (i := 9) (v := ?_) rfl (by kernel_rfl) (by kernel_rfl) (by kernel_rfl) (fun _ _ _ h => h) (Or.inl ⟨by kernel_rfl, ?_⟩) hHeld ?_
                rotate_left
                · intro w' hSw; (try dsimp only at hSw); first | (go_simp; done) | (go_simp; with_reducible rfl)
                try simp only [List.getElem_toArray, List.getElem_cons_zero, List.getElem_cons_succ, Act.put, List.setIfInBounds_toArray, List.set_cons_zero, List.set_cons_succ]
                refine Kept.take (i := 10) (v := ?_) rfl (by kernel_rfl) (by kernel_rfl) (by kernel_rfl) (fun _ _ _ h => h) (Or.inl ⟨by kernel_rfl, ?_⟩) hHeld ?_
                rotate_left
                · intro w' hSw; (try dsimp only at hSw); first | (go_simp; done) | (go_simp; with_reducible rfl)
                try simp only [List.getElem_toArray, List.getElem_cons_zero, List.getElem_cons_succ, Act.put, List.setIfInBounds_toArray, List.set_cons_zero, List.set_cons_succ]
                refine Kept.take (i := 11) (v := ?_) rfl (by kernel_rfl) (by kernel_rfl) (by kernel_rfl) (fun _ _ _ h => h) (Or.inl ⟨by kernel_rfl, ?_⟩) hHeld ?_
                rotate_left
                · intro w' hSw; (try dsimp only at hSw); first | (go_simp; done) | (go_simp; with_reducible rfl)
                try simp only [List.getElem_toArray, List.getElem_cons_zero, List.getElem_cons_succ, Act.put, List.setIfInBounds_toArray, List.set_cons_zero, List.set_cons_succ]
                refine Kept.only (i := 13) (o := ?op11) (by kernel_rfl) ?ho11 (fun K hK => ?_)
                case ho11 => (conv => lhs; simp only [List.getElem?_toArray, List.getElem?_cons_succ, List.getElem?_cons_zero])
                have bc := HBX.out.cell 0
                have bf := HBX.out.frozen 0
                go_simp
                have HBY := Lib.hid (HBX.out.set_ 0 (.int .i64 (invF P M Mod x)))
                replace HBB := Lib.hid (HBB.out.setCell (p := ⟨gi, 0, none⟩) hgi (.int .i64 (invF P M Mod x)))
                generalize wq10.setCell ⟨gi, 0, none⟩ (.int .i64 (invF P M Mod x)) = wq12 at *
                clear bc bf HBX
                refine hK.out _ _ (⟨cell_below HBB.out D4.out, cell_below HBB.out D5.out, cell_below HBB.out DA.out, cell_below HBB.out DU.out, cell_below HBB.out DX.out⟩) (fun hHeld2 => ?_)
                clear hK K
                replace hHeld := hHeld2
                clear hHeld2
                try simp only [List.getElem_toArray, List.getElem_cons_zero, List.getElem_cons_succ, Act.put, List.setIfInBounds_toArray, List.set_cons_zero, List.set_cons_succ]
                refine Kept.only (i := 14) (by kernel_rfl) rfl (fun K hK => ?_)
                go_simp
                refine hK.out _ _ hHeld (fun hHeld2 => ?_)
                clear hK K
                clear hHeld2
                refine Kept.done (by kernel_rfl) ?_
                try simp only [List.getElem_toArray, List.getElem_cons_zero, List.getElem_cons_succ, Act.put, List.setIfInBounds_toArray, List.set_cons_zero, List.set_cons_succ]
                clear hHeld
                go_wp2_with fail
                go_meet
                exact ⟨gi, rfl, rfl, hgi, HBY, HBB⟩
            case rest =>
              clear d4 d5 da du dx
              obtain ⟨gi, rfl, rfl, hgi, HBY, HBB⟩ := hcut
              have HEM4 := Lib.hid (HEM3.out.name HBB.out hgi HBY.out.lt)
              have HKA4 := Lib.hid (HKA3.out.belowS HBB.out)
              obtain ⟨X2, hX2⟩ : ∃ X2 : Nat → Prop, X2 = fun b => X1 b ∨ b = gi := ⟨_, rfl⟩
              rw [← hX2] at HEM4
              have HX2L : Hid (∀ b, b < w0.heap.size → X2 b) := hid' fun b hb => by rw [hX2]; exact .inl (HX1L.out b hb)
              have HX2A : Hid (X2 ga) := by show X2 ga; rw [hX2]; exact .inl HX1A.out
              clear hX2 hgi HEM3 HKA3 D4 D5 DA DU DX HBB HX1L HX1A HX1K
              have hIe : invF P M Mod x = O.inv x := by rw [HOE.out]; rfl
              have HIE := Lib.hid hIe; clear hIe
              have HIO : Hid (O.inv x = 1 ↔ x = 1) := inv_one HFLD.out HXQ.out.1 HXQ.out.2
              obtain ⟨lm, hlm⟩ : ∃ lm, lm = monicL O c a ls := ⟨_, rfl⟩
              have HLM := Lib.hid hlm
              have HML : Hid (lm.length = n) := by show _ = _; rw [hlm, monicL_len, HSL.out]
              have HMR : Hid (Rows q L lm) := by rw [hlm]; exact Rows.monic HLT.out HSR.out c (by rw [HSL.out]; exact hal)
              rw [← hlm] at HST
              clear hlm
              have ci : wc.cell? ⟨gi, 0, none⟩ = some (.int .i64 (invF P M Mod x)) := HBY.out.cell 0
              have HCI := Lib.hid ci
              have c5 : wc.cell? ⟨b5, 0, none⟩ = some (.slice (some ⟨g, 0, none⟩) n cc) := HEM4.out.k5.cell 0
              have HC5 := Lib.hid c5
              have HC7 : Hid (wc.cell? ⟨b7, 0, none⟩ = some (.slice none 0 0)) := HEM4.out.k7.cell 0
              have HC4 : Hid (wc.cell? ⟨b4, 0, none⟩ = some (.pointer (some ⟨A, 0, none⟩))) := HEM4.out.k4.cell 0
              have HCA : Hid (wc.cell? ⟨ga, 0, none⟩ = some (.int .i64 (a : Int))) := HKA4.out.cell 0
              go_upto_if 92 with (fail)
              go_cut [] from 21 to 122 (fun wc => Hid (EM w0 wc (.slice (some ⟨g, 0, none⟩) n cc) (.slice uA a uc) lm piv X2 A b4 b5 b7) ∧ Hid (Blk wc ga 3 [.int .i64 (a : Int)]))
              case first =>
                by_cases hx1 : x = 1
                · have hnb : (invF P M Mod x != 1) = false := by rw [HIE.out, bne_eq_false_iff_eq]; exact HIO.out.2 hx1
                  have HME : Hid (lm = ls) := by show _ = _; rw [HLM.out]; unfold monicL; rw [if_neg (by rw [HSX.out]; simpa using hx1)]
                  clear hx1
                  go_wp2_with fail
                  go_meet
                  case rel => exact ⟨by rw [HME.out]; exact HEM4, HKA4⟩
                · have hnb : (invF P M Mod x != 1) = true := by rw [HIE.out, bne_iff_ne]; exact fun e => hx1 (HIO.out.1 e)
                  have HME : Hid (lm = ls.set a (scaleL (refOps P M Mod) (invF P M Mod x) (ls.getD a []))) := by show _ = _; rw [HLM.out]; unfold monicL; rw [if_pos (by rw [HSX.out]; exact hx1), HSX.out, HIE.out, HOE.out]
                  have HLI : Hid ((ls.getD a []).length ≤ 100000 ∧ ∀ k, I64 ((ls.getD a []).getD k 0)) := by
                    have h := HSR.out a (by rw [HSL.out]; exact hal)
                    exact ⟨by rw [h.1]; exact hL, fun j => by have := h.2 j; exact I64.of_small (by omega) (by omega)⟩
                  clear hx1
                  go_wp2_with fail
                  refine (each3_any (X := X2) (B := w0.heap.size) HC5.out HC7.out HEM4.out.x7 HG.out HEM4.out.bel (Nat.le_refl _) HEM4.out.om HSL.out hal HEM4.out.xb HLI.out.1 HLI.out.2 HC4.out HCI.out HCA.out HEM4.out.bel.size).mono ?_
                  rintro e w5 ⟨rfl, ho5, hk5⟩
                  have HEM5 := Lib.hid (HEM4.out.kx ho5 hk5)
                  have HKA5 := Lib.hid (hk5.blk HKA4.out HX2A.out)
                  rw [← HME.out] at HEM5
                  clear ho5 hk5
                  go_wp2_with fail
                  go_meet
                  case rel => exact ⟨HEM5, HKA5⟩
              case rest =>
                clear HEM4 HKA4 HBY ci c5 HC5 HC7 HC4 HCA HCI HSX HSR HSL HLM HIO HIE
                obtain ⟨HEM, HKA⟩ := hcut
                have c5 : wc.cell? ⟨b5, 0, none⟩ = some (.slice (some ⟨g, 0, none⟩) n cc) := HEM.out.k5.cell 0
                go_wp2_with fail
                clear c5
                go_loopw [98] (fun x wr => ∃ (i : Nat) (X : Nat → Prop), i ≤ n ∧ x = .int .i64 (i : Int) ∧ Hid (∀ b, b < w0.heap.size → X b) ∧ Hid (X ga) ∧ Hid (EM w0 wr (.slice (some ⟨g, 0, none⟩) n cc) (.slice uA a uc) (clearTo O c a lm i) piv X A b4 b5 b7) ∧ Hid (Blk wr ga 3 [.int .i64 (a : Int)])) (fun x _ => (n - intOf x).toNat)
                case atStart => exact ⟨0, X2, Nat.zero_le _, rfl, HX2L, HX2A, HEM, HKA⟩
                case round =>
                  clear HEM HKA HX2L HX2A
                  obtain ⟨i, X, hi, rfl, HXL, HXA, HEM, HKA⟩ := hrel
                  by_cases hin : i < n
                  · have HCL : Hid ((clearTo O c a lm i).length = n) := by show _ = _; rw [clearTo_len, HML.out]
                    have HCR := Lib.hid (Rows.clear HLT.out HMR.out c a i (by rw [HML.out]; exact hi))
                    have HCN : Hid (clearTo O c a lm (i + 1) = if i ≠ a ∧ ((clearTo O c a lm i).getD i []).getD c 0 ≠ 0 then (clearTo O c a lm i).set i (addToL O ((clearTo O c a lm i).getD i []) (O.neg (((clearTo O c a lm i).getD i []).getD c 0)) ((clearTo O c a lm i).getD a [])) else clearTo O c a lm i) := rfl
                    generalize clearTo O c a lm i = li at HEM HCL HCR HCN
                    obtain ⟨ui, hu, hrow, _⟩ := HEM.out.om.row (k := i) (by rw [HCL.out]; exact hin)
                    have hlk := (HCR.out i (by rw [HCL.out]; exact hin)).1
                    obtain ⟨qi, qc, rfl, _, _⟩ := hrow.form (by rw [hlk]; omega)
                    have hx := hrow.cell c (by rw [hlk]; omega)
                    rw [hlk] at hu
                    obtain ⟨y, hy⟩ : ∃ y, y = (li.getD i []).getD c 0 := ⟨_, rfl⟩
                    rw [← hy] at hx HCN
                    clear hrow hlk hy
                    have c5 : wr.cell? ⟨b5, 0, none⟩ = some (.slice (some ⟨g, 0, none⟩) n cc) := HEM.out.k5.cell 0
                    have ca : wr.cell? ⟨ga, 0, none⟩ = some (.int .i64 (a : Int)) := HKA.out.cell 0
                    go_upto_region 22 with fail
                    obtain ⟨w2, gb, e1, e2, hX, hb⟩ := mk_box wr 3 [.int .i64 (i : Int)]
                    rw [e1, e2]
                    have HBI := Lib.hid hX
                    have HEM2 := Lib.hid (HEM.out.name hb (gi := gb) (by omega) hX.lt)
                    have HKA2 := Lib.hid (HKA.out.belowS hb)
                    have d5 := cell_below hb c5; have du := cell_below hb hu; have dx := cell_below hb hx
                    have hgb : w0.heap.size ≤ gb := by have := HEM.out.bel.size; omega
                    have bi : w2.cell? ⟨gb, 0, none⟩ = some (.int .i64 (i : Int)) := hX.cell 0
                    clear HEM HKA c5 ca hu hx e1 e2 hX hb
                    go_upto_region 23 with fail
                    obtain ⟨w3, gx, e1, e2, hX, hb⟩ := mk_box w2 3 [.int .i64 y]
                    rw [e1, e2]
                    have HBX := Lib.hid hX
                    have HEM3 := Lib.hid (HEM2.out.name hb (gi := gx) (by omega) hX.lt)
                    have HKA3 := Lib.hid (HKA2.out.belowS hb)
                    have HBI3 := Lib.hid (HBI.out.belowS hb)
                    clear HEM2 HKA2 HBI d5 du dx bi e1 e2 hX hb
                    obtain ⟨X3, hX3⟩ : ∃ X3 : Nat → Prop, X3 = fun b => (X b ∨ b = gb) ∨ b = gx := ⟨_, rfl⟩
                    rw [← hX3] at HEM3
                    have HX3L : Hid (∀ b, b < w0.heap.size → X3 b) := hid' fun b hb => by rw [hX3]; exact .inl (.inl (HXL.out b hb))
                    have HX3A : Hid (X3 ga) := by show X3 ga; rw [hX3]; exact .inl (.inl HXA.out)
                    have HX3I : Hid (X3 gb) := by show X3 gb; rw [hX3]; exact .inl (.inr rfl)
                    have HX3X : Hid (X3 gx) := by show X3 gx; rw [hX3]; exact .inr rfl
                    clear hX3 HXL HXA
                    have bi : w3.cell? ⟨gb, 0, none⟩ = some (.int .i64 (i : Int)) := HBI3.out.cell 0
                    have bx : w3.cell? ⟨gx, 0, none⟩ = some (.int .i64 y) := HBX.out.cell 0
                    have ba : w3.cell? ⟨ga, 0, none⟩ = some (.int .i64 (a : Int)) := HKA3.out.cell 0
                    have HC5 : Hid (w3.cell? ⟨b5, 0, none⟩ = some (.slice (some ⟨g, 0, none⟩) n cc)) := HEM3.out.k5.cell 0
                    have HC7 : Hid (w3.cell? ⟨b7, 0, none⟩ = some (.slice none 0 0)) := HEM3.out.k7.cell 0
                    have HC4 : Hid (w3.cell? ⟨b4, 0, none⟩ = some (.pointer (some ⟨A, 0, none⟩))) := HEM3.out.k4.cell 0
                    have HI := Lib.hid bi; have HXC := Lib.hid bx; have HAC := Lib.hid ba
                    by_cases hia : i = a
                    · subst hia
                      have hnb : (((i : Nat) : Int) != (i : Int)) = false := by simp
                      rw [if_neg (fun h => h.1 rfl)] at HCN
                      go_wp2_with fail
                      exact ⟨⟨i + 1, X3, by omega, by push_cast; rfl, HX3L, HX3A, by rw [HCN.out]; exact HEM3, HKA3⟩, by simp only [intOf]; omega⟩
                    · have hnb : (((i : Nat) : Int) != (a : Int)) = true := by rw [bne_iff_ne]; omega
                      by_cases hy0 : y = 0
                      · subst hy0
                        rw [if_neg (fun h => h.2 rfl)] at HCN
                        clear hia
                        go_wp2_with fail
                        exact ⟨⟨i + 1, X3, by omega, by push_cast; rfl, HX3L, HX3A, by rw [HCN.out]; exact HEM3, HKA3⟩, by simp only [intOf]; omega⟩
                      · have hyb : (y != 0) = true := by simpa using hy0
                        rw [if_pos ⟨hia, hy0⟩] at HCN
                        have HIA := Lib.hid hia
                        have HLL : Hid (∀ j, j < n → (li.getD j []).length = L ∧ ∀ k, I64 ((li.getD j []).getD k 0)) := hid' fun j hj => by
                          have h := HCR.out j (by rw [HCL.out]; exact hj)
                          exact ⟨h.1, fun k => by have := h.2 k; exact I64.of_small (by omega) (by omega)⟩
                        clear hia hy0
                        go_wp2_with fail
                        refine (each4_any (X := X3) (B := w0.heap.size) (L := L) (P := P) (M := M) (Mod := Mod) HC5.out HC7.out HEM3.out.x7 HG.out HEM3.out.bel (Nat.le_refl _) HEM3.out.om HCL.out hin hal HIA.out HLL.out (by omega) hL HEM3.out.x4 HX3I.out HX3X.out HX3A.out HC4.out HI.out HXC.out HAC.out HEM3.out.bel.size).mono ?_
                        rintro e w5 ⟨rfl, ho5, hk5⟩
                        have HEM5 := Lib.hid (HEM3.out.kx ho5 hk5)
                        have HKA5 := Lib.hid (hk5.blk HKA3.out HX3A.out)
                        have HNE : Hid (clearTo O c a lm (i + 1) = li.set i (addToL (refOps P M Mod) (li.getD i []) (negF P M y) (li.getD a []))) := by show _ = _; rw [HCN.out, HOE.out]; rfl
                        clear ho5 hk5
                        go_wp2_with fail
                        exact ⟨⟨i + 1, X3, by omega, by push_cast; rfl, HX3L, HX3A, by rw [HNE.out]; exact HEM5, HKA5⟩, by simp only [intOf]; omega⟩
                  · obtain rfl : n = i := by omega
                    rw [← HST.out] at HEM
                    have HPL : Hid (piv.length + [(c : Int)].length ≤ 17592186044416) := by show _ ≤ _; rw [HA.out, List.length_singleton]; omega
                    have HOI1 := Lib.hid (HEM.out.oi.alloc (.cells #[.int .i64 (c : Int)] 3))
                    have HSC : Hid (SI (wr.alloc (.cells #[.int .i64 (c : Int)] 3)) (.slice (some ⟨wr.heap.size, 0, none⟩) 1 1) [(c : Int)]) := SI.lit wr [(c : Int)] (by simp) (fun j => by
                      rcases j with _ | j
                      · exact I64.of_small (by show _ ≤ (c : Int); omega) (by show (c : Int) ≤ _; omega)
                      · exact I64.zero)
                    have HUP : Hid (w0.heap.size ≤ (wr.alloc (.cells #[.int .i64 (c : Int)] 3)).heap.size) := up_alloc HEM.out.bel.size _
                    go_wp2_with (at_builtin; go_must (refine wpList_catI rfl _ _ rfl w0.heap.size _ piv rfl HOI1.out _ [(c : Int)] rfl HSC.out HPL.out HUP.out ?_); (intro v5 w5 ho hg hv); have HE6 := Lib.hid (HEM.out.push ho hg hv); clear ho hg hv)
                    exact ⟨⟨c + 1, _, _, _, z3, by omega, by push_cast; rfl, rfl, HNX.out, hid' (fun b hb => .inl (HXL.out b hb)), HE6⟩, by simp only [intOf]; omega⟩
      · obtain rfl : n = k := by omega
        have HKE : Hid (findK l c l.length (l.length - piv.length) piv.length = n) := by
          show _ = _
          rw [HLN.out, HA.out, HK.out, Nat.sub_self, findK]
        have hkb : (((n : Nat) : Int) == (n : Int)) = true := by simp
        have HNX : Hid (elimTo O rows (c + 1) = (l, piv)) := by
          show _ = _
          rw [elimTo_next HE.out (by rw [HLN.out, HA.out]; exact hal) HKE.out, if_pos HLN.out.symm]
        go_wp2_with fail
        exact ⟨⟨c + 1, l, piv, X1, z, by omega, by push_cast; rfl, rfl, HNX, HX1L, HEM⟩, by simp only [intOf]; omega⟩
end Go.Proofs.Ytlcgihjdafglmaa

/- Reduced echelon form: what elimination ends in, its uniqueness, and words held against it. No program in sight. -/
namespace Go.Proofs.Ytlcgihjdafglmaa

def pvt (p : List Int) (i : Nat) : Nat := (p.getD i 0).toNat
/-- the rows l are in reduced echelon form over the first c columns, with the pivots p -/
structure Ech (l : List (List Int)) (p : List Int) (c : Nat) : Prop where
  len : p.length ≤ l.length
  nn : ∀ i, i < p.length → p.getD i 0 = (pvt p i : Int)
  lt : ∀ i, i < p.length → pvt p i < c
  inc : ∀ i k, i < k → k < p.length → pvt p i < pvt p k
  one : ∀ i, i < p.length → ent l i (pvt p i) = 1
  off : ∀ i, i < p.length → ∀ k, k ≠ i → ent l k (pvt p i) = 0
  low : ∀ i, i < p.length → ∀ j, j < pvt p i → ent l i j = 0
  rest : ∀ k, p.length ≤ k → ∀ j, j < c → ent l k j = 0
theorem findK_spec (l : List (List Int)) (c n : Nat) : ∀ f k, k + f = n → (findK l c n f k = n ∧ ∀ i, k ≤ i → i < n → ent l i c = 0) ∨ (findK l c n f k < n ∧ k ≤ findK l c n f k ∧ ent l (findK l c n f k) c ≠ 0)
  | 0, k, h => .inl ⟨by unfold findK; omega, fun i h1 h2 => by omega⟩
  | f + 1, k, h => by
    unfold findK
    by_cases e : (l.getD k []).getD c 0 = 0
    · rw [if_pos e]
      rcases findK_spec l c n f (k + 1) (by omega) with ⟨h1, h2⟩ | ⟨h1, h2, h3⟩
      · refine .inl ⟨h1, fun i h4 h5 => ?_⟩
        by_cases ei : i = k
        · subst ei; exact e
        · exact h2 i (by omega) h5
      · exact .inr ⟨h1, by omega, h3⟩
    · rw [if_neg e]
      exact .inr ⟨by omega, Nat.le_refl _, e⟩
theorem pvt_snoc {p : List Int} {c i : Nat} : pvt (p ++ [(c : Int)]) i = if i < p.length then pvt p i else if i = p.length then c else 0 := by
  unfold pvt
  by_cases h : i < p.length
  · rw [if_pos h]; simp [List.getD, List.getElem?_append_left h]
  · rw [if_neg h]
    by_cases e : i = p.length
    · subst e; simp [List.getD]
    · rw [if_neg e]
      rw [List.getD_eq_getElem?_getD, List.getElem?_eq_none (by simp; omega)]; rfl
section
variable {O : FOps} {q : Int} (hO : O.Fld q)
include hO
/-- what one column of the elimination makes of the rows -/
theorem step_ech {n : Nat} {l : List (List Int)} {p : List Int} {c k : Nat} (h : Rows q n l) (he : Ech l p c) (ha : p.length < l.length) (hk1 : p.length ≤ k) (hk2 : k < l.length) (hk0 : ent l k c ≠ 0) :
    Ech (stepL O c l p.length k) (p ++ [(c : Int)]) (c + 1) ∧ Alike O (stepL O c l p.length k) l := by
  have hq := hO.lt.pos
  have hr := h.r (by omega)
  have hS := h.swap ha hk2
  have hSl := swapL_len l p.length k
  have hSr := hS.r (by omega)
  have hSA := swap_alike hO h ha hk2
  have eS := fun i j => ent_swap (l := l) ha hk2 i j
  have hsa : ∀ j, ent (swapL l p.length k) p.length j = ent l k j := fun j => by
    rw [eS]
    by_cases e : k = p.length
    · rw [if_pos e, e]
    · rw [if_neg e, if_pos rfl]
  have hM := Rows.monic hO.lt hS c (a := p.length) (by rw [hSl]; exact ha)
  have hMl := monicL_len O c p.length (swapL l p.length k)
  have hMr := hM.r (by omega)
  have hMA := monic_alike hO hS c (a := p.length) (by rw [hSl]; exact ha) (by rw [hsa]; exact hk0)
  have eM := fun i j => ent_monic hO c (a := p.length) (l := swapL l p.length k) (by rw [hSl]; exact ha) i j
  -- the pivot's row
  have hac : ent (monicL O c p.length (swapL l p.length k)) p.length c = 1 := by
    rw [eM, hsa]
    by_cases e : ent l k c = 1
    · rw [if_neg (fun h => h.2 e)]; exact e
    · rw [if_pos ⟨rfl, e⟩, hO.mul_comm]
      have := hr k c
      exact hO.mul_inv _ (by omega) this.2
  have hal : ∀ j, j < c → ent (monicL O c p.length (swapL l p.length k)) p.length j = 0 := fun j hj => by
    rw [eM, hsa, hsa, he.rest k hk1 j hj, hO.mul_zero]; split <;> rfl
  have hlow : ∀ i j, j < c → ent (monicL O c p.length (swapL l p.length k)) i j = ent l i j := fun i j hj => by
    by_cases e : p.length = i
    · subst e; rw [hal j hj, he.rest _ (Nat.le_refl _) j hj]
    · rw [eM, if_neg (fun h => e h.1), eS]
      by_cases e2 : k = i
      · subst e2; rw [if_pos rfl, he.rest _ (Nat.le_refl _) j hj, he.rest _ hk1 j hj]
      · rw [if_neg e2, if_neg e]
  have hML : (monicL O c p.length (swapL l p.length k)).length = l.length := by rw [hMl, hSl]
  obtain ⟨hCA, eC⟩ := clear_keep hO hM c (a := p.length) (by rw [hML]; exact ha) l.length (by rw [hML]; exact Nat.le_refl _)
  have hstep : stepL O c l p.length k = clearTo O c p.length (monicL O c p.length (swapL l p.length k)) l.length := rfl
  rw [← hstep] at hCA eC
  have el : ∀ i j, j < c → ent (stepL O c l p.length k) i j = ent l i j := fun i j hj => by
    rw [eC, hal j hj, hO.mul_zero, hO.add_zero _ (hMr i j).1 (hMr i j).2, hlow i j hj]
    split <;> rfl
  have ea : ∀ j, ent (stepL O c l p.length k) p.length j = ent (monicL O c p.length (swapL l p.length k)) p.length j := fun j => by rw [eC, if_neg (fun h => h.2.1 rfl)]
  have e0 : ∀ i, i ≠ p.length → ent (stepL O c l p.length k) i c = 0 := fun i hi => by
    rw [eC]
    by_cases e : ent (monicL O c p.length (swapL l p.length k)) i c = 0
    · rw [if_neg (fun h => h.2.2 e), e]
    · have hil : i < l.length := by
        refine Decidable.byContradiction fun hge => e ?_
        exact ent_ge (by rw [hML]; omega) c
      rw [if_pos ⟨hil, hi, e⟩, hac, hO.mul_one _ (hO.neg_lt _).1 (hO.neg_lt _).2, hO.add_neg]
  have hlen := stepL_len O c l p.length k
  refine ⟨⟨by rw [List.length_append, List.length_singleton, hlen]; omega, fun i hi => ?_, fun i hi => ?_, fun i i2 h1 h2 => ?_, fun i hi => ?_, fun i hi k' hne => ?_, fun i hi j hj => ?_, fun i hi j hj => ?_⟩, hCA.trans hO (hMA.trans hO hSA)⟩
  · rw [List.length_append, List.length_singleton] at hi
    rw [pvt_snoc]
    by_cases e : i < p.length
    · rw [if_pos e, ← he.nn i e]; simp [List.getD, List.getElem?_append_left e]
    · obtain rfl : i = p.length := by omega
      rw [if_neg e, if_pos rfl]; simp [List.getD]
  · rw [List.length_append, List.length_singleton] at hi
    rw [pvt_snoc]
    by_cases e : i < p.length
    · rw [if_pos e]; have := he.lt i e; omega
    · rw [if_neg e, if_pos (by omega)]; omega
  · rw [List.length_append, List.length_singleton] at h2
    rw [pvt_snoc, pvt_snoc, if_pos (by omega : i < p.length)]
    by_cases e : i2 < p.length
    · rw [if_pos e]; exact he.inc i i2 h1 e
    · rw [if_neg e, if_pos (by omega)]; exact he.lt i (by omega)
  · rw [List.length_append, List.length_singleton] at hi
    rw [pvt_snoc]
    by_cases e : i < p.length
    · rw [if_pos e, el i _ (he.lt i e), he.one i e]
    · obtain rfl : i = p.length := by omega
      rw [if_neg e, if_pos rfl, ea, hac]
  · rw [List.length_append, List.length_singleton] at hi
    rw [pvt_snoc]
    by_cases e : i < p.length
    · rw [if_pos e, el k' _ (he.lt i e), he.off i e k' hne]
    · obtain rfl : i = p.length := by omega
      rw [if_neg e, if_pos rfl, e0 k' hne]
  · rw [List.length_append, List.length_singleton] at hi
    rw [pvt_snoc] at hj
    by_cases e : i < p.length
    · rw [if_pos e] at hj
      rw [el i j (by have := he.lt i e; omega), he.low i e j hj]
    · obtain rfl : i = p.length := by omega
      rw [if_neg e, if_pos rfl] at hj
      rw [ea, hal j hj]
  · rw [List.length_append, List.length_singleton] at hi
    by_cases e : j < c
    · rw [el i j e, he.rest i (by omega) j e]
    · obtain rfl : j = c := by omega
      exact e0 i (by omega)
theorem elim_ech {n : Nat} {rows : List (List Int)} (h : Rows q n rows) : ∀ c, Ech (elimTo O rows c).1 (elimTo O rows c).2 c ∧ Alike O (elimTo O rows c).1 rows
  | 0 => ⟨⟨Nat.zero_le _, fun i hi => absurd hi (by simp [elimTo]), fun i hi => absurd hi (by simp [elimTo]), fun i k _ hi => absurd hi (by simp [elimTo]), fun i hi => absurd hi (by simp [elimTo]), fun i hi => absurd hi (by simp [elimTo]), fun i hi => absurd hi (by simp [elimTo]), fun k _ j hj => absurd hj (by omega)⟩, Alike.refl hO (h.r (by have := hO.lt.pos; omega))⟩
  | c + 1 => by
    obtain ⟨he, hA⟩ := elim_ech h c
    have hR := Rows.elim hO.lt h c
    have hpl := he.len
    rw [elimTo]
    by_cases hlt : (elimTo O rows c).2.length < (elimTo O rows c).1.length
    · rw [if_pos hlt]
      rcases findK_spec (elimTo O rows c).1 c (elimTo O rows c).1.length ((elimTo O rows c).1.length - (elimTo O rows c).2.length) (elimTo O rows c).2.length (by omega) with ⟨h1, h2⟩ | ⟨h1, h2, h3⟩
      · rw [if_pos h1]
        refine ⟨⟨he.len, he.nn, fun i hi => by have := he.lt i hi; omega, he.inc, he.one, he.off, he.low, fun k hk j hj => ?_⟩, hA⟩
        by_cases e : j < c
        · exact he.rest k hk j e
        · obtain rfl : j = c := by omega
          by_cases hkl : k < (elimTo O rows j).1.length
          · exact h2 k hk hkl
          · exact ent_ge (by omega) j
      · rw [if_neg (by omega)]
        obtain ⟨g1, g2⟩ := step_ech hO hR he hlt h2 h1 h3
        exact ⟨g1, g2.trans hO hA⟩
    · rw [if_neg hlt]
      refine ⟨⟨he.len, he.nn, fun i hi => by have := he.lt i hi; omega, he.inc, he.one, he.off, he.low, fun k hk j hj => ?_⟩, hA⟩
      exact ent_ge (by omega) j

/-- rows in reduced echelon form, without zero rows -/
structure Rref (O : FOps) (q : Int) (n : Nat) (A : List (List Int)) (p : List Int) : Prop where
  rows : Rows q n A
  len : p.length = A.length
  nn : ∀ i, i < A.length → p.getD i 0 = (pvt p i : Int)
  lt : ∀ i, i < A.length → pvt p i < n
  inc : ∀ i k, i < k → k < A.length → pvt p i < pvt p k
  one : ∀ i, i < A.length → ent A i (pvt p i) = 1
  off : ∀ i, i < A.length → ∀ k, k ≠ i → ent A k (pvt p i) = 0
  low : ∀ i, i < A.length → ∀ j, j < pvt p i → ent A i j = 0
omit hO in
theorem ent_take {l : List (List Int)} {r i : Nat} (h : i < r) (j : Nat) : ent (l.take r) i j = ent l i j := by
  unfold ent; congr 1; simp [List.getD, List.getElem?_take, h]
theorem canon_rref {n : Nat} {rows : List (List Int)} (h : Rows q n rows) : Rref O q n (canonL O rows n) (pivL O rows n) ∧ Alike O (canonL O rows n) rows := by
  obtain ⟨he, hA⟩ := elim_ech hO h n
  have hR := Rows.elim hO.lt h n
  have hq := hO.lt.pos
  have hl : (canonL O rows n).length = (elimTo O rows n).2.length := by unfold canonL; rw [List.length_take]; have := he.len; omega
  have eC : ∀ i j, i < (elimTo O rows n).2.length → ent (canonL O rows n) i j = ent (elimTo O rows n).1 i j := fun i j hi => ent_take hi j
  have eZ : ∀ i j, (elimTo O rows n).2.length ≤ i → ent (elimTo O rows n).1 i j = 0 := fun i j hi => by
    by_cases hj : j < n
    · exact he.rest i hi j hj
    · exact ent_wide hR (by omega)
  have hRC : Rows q n (canonL O rows n) := fun k hk => by
    rw [hl] at hk
    have e : (canonL O rows n).getD k [] = (elimTo O rows n).1.getD k [] := by unfold canonL; simp [List.getD, List.getElem?_take, hk]
    rw [e]; exact hR k (by have := he.len; omega)
  refine ⟨⟨hRC, hl.symm, fun i hi => he.nn i (by omega), fun i hi => he.lt i (by omega), fun i k h1 h2 => he.inc i k h1 (by omega), fun i hi => ?_, fun i hi k hne => ?_, fun i hi j hj => ?_⟩, Alike.trans hO ⟨fun i hi => ?_, fun i hi => ?_⟩ hA⟩
  · rw [eC _ _ (by omega)]; exact he.one i (by omega)
  · by_cases hk : k < (elimTo O rows n).2.length
    · rw [eC _ _ hk]; exact he.off i (by omega) k hne
    · exact ent_ge (by omega) _
  · rw [eC _ _ (by omega)]; exact he.low i (by omega) j hj
  · exact (Span.row hO (by have := he.len; omega) (hR.r (by omega) i)).congr fun j => eC i j (by omega)
  · by_cases hk : i < (elimTo O rows n).2.length
    · exact (Span.row hO (by omega) (hRC.r (by omega) i)).congr fun j => (eC i j hk).symm
    · exact (Span.zero hO _).congr fun j => eZ i j (by omega)

section
variable {n : Nat} {A : List (List Int)} {p : List Int} (hA : Rref O q n A p)
include hA
theorem Rref.r : RowsR q A := hA.rows.r (by have := hO.lt.pos; omega)
/-- a word lies in the span just if it is the combination that its entries at the pivots give -/
theorem Rref.mem {x : Nat → Int} : Span O A x ↔ ∀ j, x j = sumTo O (fun i => O.mul (x (pvt p i)) (ent A i j)) A.length := by
  constructor
  · rintro ⟨a, ha⟩ j
    rw [ha j]
    refine sumTo_congr fun i hi => ?_
    -- the coefficient counts only as an element
    have h1 : x (pvt p i) = O.mul (a i) 1 := by
      rw [ha]
      have e : O.mul (a i) (ent A i (pvt p i)) = O.mul (a i) 1 := by rw [hA.one i hi]
      rw [sumTo_single hO (k := i) (hO.lt.mul _ _) hi (fun k _ hne => by rw [hA.off i hi k hne, hO.mul_zero]), e]
    rw [h1, hO.mul_assoc, hO.one_mul (hA.r hO i j).1 (hA.r hO i j).2]
  · intro h
    exact ⟨fun i => x (pvt p i), h⟩
/-- the first entry of a word of the span that is not 0 stands at a pivot -/
theorem Rref.lead {x : Nat → Int} (hx : Span O A x) {k : Nat} (h0 : ∀ j, j < k → x j = 0) (hk : x k ≠ 0) : ∃ i, i < A.length ∧ pvt p i = k := by
  refine Decidable.byContradiction fun hno => hk ?_
  rw [(hA.mem hO).1 hx k]
  refine sumTo_zero hO fun i hi => ?_
  by_cases hlt : pvt p i < k
  · rw [h0 _ hlt, hO.zero_mul]
  · have hne : pvt p i ≠ k := fun e => hno ⟨i, hi, e⟩
    rw [hA.low i hi k (by omega), hO.mul_zero]
end
/-- two lists of numbers that rise and hold the same numbers are one -/
theorem rref_unique {n : Nat} {A B : List (List Int)} {p p' : List Int} (hA : Rref O q n A p) (hB : Rref O q n B p') (h : Alike O A B) : A = B := by
  have key : ∀ {A B : List (List Int)} {p p' : List Int}, Rref O q n A p → Rref O q n B p' → Inside O A B → ∀ i, i < A.length → ∃ k, k < B.length ∧ pvt p' k = pvt p i := by
    intro A B p p' hA hB hI i hi
    exact hB.lead hO (hI i hi) (fun j hj => hA.low i hi j hj) (by rw [hA.one i hi]; decide)
  have k1 := key hA hB h.1
  have k2 := key hB hA h.2
  have inj : ∀ {A : List (List Int)} {p : List Int}, Rref O q n A p → ∀ i k, i < A.length → k < A.length → pvt p i = pvt p k → i = k := by
    intro A p hA i k hi hk e
    rcases Nat.lt_trichotomy i k with hl | hl | hl
    · have := hA.inc i k hl hk; omega
    · exact hl
    · have := hA.inc k i hl hi; omega
  have order : ∀ {A B : List (List Int)} {p p' : List Int}, Rref O q n A p → Rref O q n B p' → (∀ i, i < A.length → ∃ k, k < B.length ∧ pvt p' k = pvt p i) → (∀ i, i < B.length → ∃ k, k < A.length ∧ pvt p k = pvt p' i) → ∀ i, i < A.length → i < B.length ∧ pvt p' i = pvt p i := by
    intro A B p p' hA hB k1 k2 i
    induction i using Nat.strongRecOn with
    | ind i ih =>
      intro hi
      obtain ⟨k, hk, e⟩ := k1 i hi
      have hik : i ≤ k := by
        refine Decidable.byContradiction fun hlt => ?_
        obtain ⟨_, e2⟩ := ih k (by omega) (by omega)
        have := inj hA k i (by omega) hi (by omega)
        omega
      by_cases hk2 : i = k
      · subst hk2; exact ⟨hk, e⟩
      · exfalso
        have hiB : i < B.length := by omega
        have hlt := hB.inc i k (by omega) hk
        obtain ⟨m, hm, e3⟩ := k2 i hiB
        have hmi : m < i := by
          refine Decidable.byContradiction fun hge => ?_
          by_cases e4 : m = i
          · subst e4; omega
          · have := hA.inc i m (by omega) hm; omega
        obtain ⟨_, e5⟩ := ih m hmi hm
        have := hB.inc m i hmi hiB
        omega
  have o1 := order hA hB k1 k2
  have hle : A.length ≤ B.length := by
    refine Decidable.byContradiction fun hlt => ?_
    have := o1 B.length (by omega); omega
  have o2 := order hB hA k2 k1
  have hle2 : B.length ≤ A.length := by
    refine Decidable.byContradiction fun hlt => ?_
    have := o2 A.length (by omega); omega
  have hl : A.length = B.length := by omega
  have hent : ∀ i, i < A.length → ∀ j, ent A i j = ent B i j := by
    intro i hi j
    rw [(hB.mem hO).1 (h.1 i hi) j]
    have e : O.mul (ent A i (pvt p' i)) (ent B i j) = ent B i j := by rw [(o1 i hi).2, hA.one i hi, hO.one_mul (hB.r hO i j).1 (hB.r hO i j).2]
    rw [sumTo_single hO (k := i) (by rw [e]; exact hB.r hO i j) (by omega) (fun k hk hne => by rw [(o1 k (by omega)).2, hA.off k (by omega) i (fun e => hne e.symm), hO.zero_mul]), e]
  refine List.ext_getElem hl fun i h1 h2 => ?_
  have e1 := (hA.rows i h1).1
  have e2 := (hB.rows i h2).1
  have hen := hent i h1
  unfold ent at hen
  simp only [List.getD_eq_getElem?_getD (l := A), List.getD_eq_getElem?_getD (l := B), List.getElem?_eq_getElem h1, List.getElem?_eq_getElem h2, Option.getD_some] at e1 e2 hen
  refine List.ext_getElem (by omega) fun j h3 h4 => ?_
  have := hen j
  simpa [List.getD, h3, h4] using this
end
end Go.Proofs.Ytlcgihjdafglmaa

/- ref09: Canon. -/
namespace Go.Proofs.Ytlcgihjdafglmaa
open Go.RowKit
set_option linter.unusedVariables false
set_option maxRecDepth 100000

/-- rows and pivots come back; the rows may be the beginning of a longer slice -/
def RetLI (w : World) (xss : List (List Int)) (ys : List Int) (e : Ending) (w' : World) : Prop := ∃ u1 u2, e = .returned (.tuple #[u1, u2]) ∧ Sep w.heap.size w' (fun w2 => SS w2 u1 xss) ∧ OS w.heap.size (fun g => g < w.heap.size) w' u1 xss ∧ OI w.heap.size w' u2 ys ∧ Below w.heap.size w w'
/-- the beginning of a slice of the call's own -/
theorem OS.takeN {B : Nat} {X : Nat → Prop} {w : World} {A : Option Addr} {n c : Nat} {l : List (List Int)} (h : OS B X w (.slice A n c) l) {k : Nat} (hk : k ≤ l.length) : OS B X w (.slice A k c) (l.take k) := by
  obtain ⟨us, ho, hi⟩ := h
  have hul : us.length = l.length := by have := ho.1; omega
  have hl : (l.take k).length = k := by rw [List.length_take]; omega
  have hob : ∀ g, (Value.slice A k c).ownBlock = some g → (Value.slice A n c).ownBlock = some g := fun g hg => by
    cases A with
    | none => simp [Value.ownBlock] at hg
    | some ad => simpa [Value.ownBlock] using hg
  refine ⟨us.take k, ⟨by rw [hl, List.length_take]; omega, ?_⟩, fun i hi' => ?_⟩
  · rcases ho.2 with ⟨e, h0⟩ | ⟨g, cap, cur, e, hg, hc, hn, hm, hs, ht⟩
    · injection e with e1 e2 e3
      subst e1 e3
      refine .inl ⟨?_, by rw [hl]; omega⟩
      rw [show k = 0 by omega]
    · injection e with e1 e2 e3
      subst e1 e3
      refine .inr ⟨g, c, cur, by rw [hl], hg, hc, by rw [hl]; omega, hm, hs, ?_⟩
      rw [← ht, List.take_take, hl, Nat.min_eq_left (by omega), Nat.mul_one]
  · rw [hl] at hi'
    obtain ⟨y, hy, hs, hx⟩ := hi i (by omega)
    have hgd : (l.take k).getD i [] = l.getD i [] := by simp [List.getD, List.getElem?_take, hi']
    rw [hgd]
    exact ⟨y, by rw [List.getElem?_take, if_pos hi']; exact hy, hs, fun h0 g' hg' => ⟨fun e => (hx h0 g' hg').1 (hob g' e), (hx h0 g' hg').2⟩⟩
theorem SS.takeN {w : World} {A : Option Addr} {n c : Nat} {xss : List (List Int)} (h : SS w (.slice A n c) xss) {k : Nat} (hk : k ≤ xss.length) : SS w (.slice A k c) (xss.take k) := by
  obtain ⟨A', c', e, h⟩ := h
  injection e with e1 e2 e3
  subst e1 e3
  have hl : (xss.take k).length = k := by rw [List.length_take]; omega
  refine ⟨A, c, by rw [hl], by have := h.len; omega, by have := h.cap; omega, fun j hj => ?_⟩
  rw [hl] at hj
  obtain ⟨ad, u, e, hc, hs⟩ := h.cell j (by omega)
  exact ⟨ad, u, e, hc, by rw [show (xss.take k).getD j [] = xss.getD j [] by simp [List.getD, List.getElem?_take, hj]]; exact hs⟩

set_option maxHeartbeats 4000000 in
theorem rCanon_any (w : World) (P M : Int) (cols L : Nat) (mv v : Value) (Mod : List Int) (rows : List (List Int)) (hm : SI w mv Mod) (hv : SS w v rows) (ho : orderF P M ≠ 0) (hmod : ModP P M Mod)
    (hR : Rows (orderF P M) L rows) (hcL : cols ≤ L) (hL : L ≤ 100000) (hn : rows.length ≤ 100000) :
    Calls Try.prog 66 #[.agg #[.int .i64 P, .int .i64 M, mv], v, .int .i64 (cols : Int)] w (RetLI w (canonL (refOps P M Mod) rows cols) (pivL (refOps P M Mod) rows cols)) := by
  have HEL := Lib.hid (fun w' (hb : Below w.heap.size w w') => rElim_any w' P M cols L mv v Mod rows (hm.below hb (Nat.le_refl _)) (hv.below hb (Nat.le_refl _)) ho hmod hR hcL hL hn)
  have hp := elimTo_piv (refOps P M Mod) rows cols
  have hl := elimTo_len (refOps P M Mod) rows cols
  have HCE : Hid (canonL (refOps P M Mod) rows cols = (elimTo (refOps P M Mod) rows cols).1.take (elimTo (refOps P M Mod) rows cols).2.length ∧ pivL (refOps P M Mod) rows cols = (elimTo (refOps P M Mod) rows cols).2) := ⟨rfl, rfl⟩
  obtain ⟨l, hle⟩ : ∃ l, l = (elimTo (refOps P M Mod) rows cols).1 := ⟨_, rfl⟩
  obtain ⟨piv, hpe⟩ : ∃ piv, piv = (elimTo (refOps P M Mod) rows cols).2 := ⟨_, rfl⟩
  rw [← hle] at hl HCE
  rw [← hpe] at hp HCE
  have HLE := Lib.hid hle; have HPE := Lib.hid hpe; clear hle hpe
  obtain ⟨n, hnn⟩ : ∃ n, n = l.length := ⟨_, rfl⟩
  obtain ⟨r, hrr⟩ : ∃ r, r = piv.length := ⟨_, rfl⟩
  have hrn : r ≤ n := by omega
  have hn2 : n ≤ 100000 := by omega
  have HN := Lib.hid hnn; have HR2 := Lib.hid hrr; clear hnn hrr hl hp hm hv ho hmod hR hcL hL hn
  go_enter Try.func66, Try.ntmps66
  go_wp2_with fail
  refine (HEL.out _ (bl_alloc _ _)).mono ?_
  rintro e w1 ⟨u1, u2, rfl, h1, h2, hb1⟩
  rw [← HLE.out] at h1
  rw [← HPE.out] at h2
  obtain ⟨A1, c1, rfl⟩ := h1.form
  obtain ⟨A2, c2, rfl⟩ := h2.form'
  have hnew : OS w.heap.size (fun g => g < w.heap.size) w1 (.slice A1 l.length c1) l := (h1.names (fun g _ hg => by rw [World.size_alloc]; omega)).mono (by rw [World.size_alloc]; omega)
  have hss := h1.ss (by rw [← HN.out]; omega)
  have hsep := (h1.sep (fun g hg => hg) (by rw [← HN.out]; omega)).mono (B' := w.heap.size) (by rw [World.size_alloc]; omega)
  have hcap : l.length ≤ c1 := by obtain ⟨_, _, e, hs⟩ := hss; injection e with e1 e2 e3; rw [e3]; exact hs.cap
  rw [← HN.out] at hss hsep hnew hcap ⊢
  rw [← HR2.out] at h2 ⊢
  have HSS := Lib.hid hsep; have HNEW := Lib.hid hnew; have H2 := Lib.hid h2
  have HB := Lib.hid (bl_trans (bl_alloc _ _) hb1)
  clear hss hsep hnew h1 h2 hb1
  have hrc : r ≤ c1 := by omega
  go_wp2_with fail
  go_ret2
  have hsz : w.heap.size ≤ (w.alloc (.cells #[.int .i64 P, .int .i64 M, mv] 24)).heap.size := by rw [World.size_alloc]; omega
  rw [HCE.out.2]
  refine ⟨.slice A1 r c1, .slice A2 r c2, rfl, ?_, ?_, H2.out.mono hsz, HB.out⟩
  · rw [HCE.out.1, ← HR2.out]
    exact HSS.out.imp fun w2 h => h.takeN (by rw [← HN.out]; exact hrn)
  · rw [HCE.out.1, ← HR2.out]
    exact HNEW.out.takeN (by rw [← HN.out]; exact hrn)
end Go.Proofs.Ytlcgihjdafglmaa

/- A slice of slices of ints all of whose blocks are of one kind. -/
namespace Go.Proofs.Ytlcgihjdafglmaa
open Go.RowKit
set_option linter.unusedVariables false

/-- v reads as xss, and every block that this takes is one of P's -/
def SSb (P : Nat → Prop) (w : World) (v : Value) (xss : List (List Int)) : Prop :=
  ∃ A c, v = .slice A xss.length c ∧ xss.length ≤ 17592186044416 ∧ xss.length ≤ c ∧ ∀ k, k < xss.length → ∃ ad u, A = some ad ∧ P ad.block ∧ w.cell? (ad.add k) = some u ∧ SI w u (xss.getD k []) ∧ (0 < (xss.getD k []).length → ∀ g, u.ownBlock = some g → P g)
section
variable {P Q : Nat → Prop} {w w' : World} {v : Value} {xss : List (List Int)}
theorem SSb.imp (h : SSb P w v xss) (k : ∀ g, P g → g < w.heap.size → Q g) : SSb Q w v xss := by
  obtain ⟨A, c, rfl, h1, h2, h3⟩ := h
  refine ⟨A, c, rfl, h1, h2, fun j hj => ?_⟩
  obtain ⟨ad, u, e, hp, hc, hs, hu⟩ := h3 j hj
  have hlt := World.block_lt_of_cell? _ _ hc
  rw [block_of_add] at hlt
  exact ⟨ad, u, e, k _ hp hlt, hc, hs, fun h0 g hg => k g (hu h0 g hg) (hs.lt h0 hg)⟩
theorem SSb.nil : SSb P w (.slice none 0 0) [] := ⟨none, 0, rfl, by simp, by simp, fun k hk => absurd hk (by simp)⟩
theorem SSb.grown {row : Option Nat} (h : SSb P w v xss) (hg : w.grownBy w' row) (hn : ∀ g, row = some g → ¬ P g) : SSb P w' v xss := by
  obtain ⟨A, c, rfl, h1, h2, h3⟩ := h
  refine ⟨A, c, rfl, h1, h2, fun j hj => ?_⟩
  obtain ⟨ad, u, e, hp, hc, hs, hu⟩ := h3 j hj
  have hlt := World.block_lt_of_cell? _ _ hc
  refine ⟨ad, u, e, hp, ?_, hs.grown hg (fun h0 g hg' e2 => hn g e2 (hu h0 g hg')), hu⟩
  rw [World.cell?_of_block (w := w) (hg.block _ hlt (fun e2 => hn _ e2.symm (by rw [block_of_add]; exact hp)))]
  exact hc
theorem OS.ssb {B : Nat} {X : Nat → Prop} (h : OS B X w v xss) (hl : xss.length ≤ 17592186044416) (hX : ∀ g, g < B → X g) : SSb (fun g => B ≤ g) w v xss := by
  have hlt := fun g => h.lt (g := g)
  obtain ⟨us, ho, hi⟩ := h
  rcases ho.2 with ⟨rfl, h0⟩ | ⟨g, cap, cur, rfl, hb, hgg, hn, _, _, _⟩
  · obtain rfl : xss = [] := List.eq_nil_of_length_eq_zero h0
    exact SSb.nil
  · refine ⟨some ⟨g, 0, none⟩, cap, rfl, hl, hn, fun k hk => ?_⟩
    obtain ⟨u, hu, hs, hx⟩ := hi k hk
    refine ⟨_, u, rfl, hb, World.ownsRow.cells ho (g := g) rfl k u hu, hs, fun h0 g' hg' => ?_⟩
    rcases Nat.lt_or_ge g' B with h1 | h1
    · exact absurd (hX g' h1) (hx h0 g' hg').2
    · exact h1
theorem SSb.takeC {A : Option Addr} {n c : Nat} (h : SSb P w (.slice A n c) xss) {k : Nat} (hk : k ≤ xss.length) : SSb P w (.slice A k k) (xss.take k) := by
  obtain ⟨A', c', e, h1, h2, h3⟩ := h
  injection e with e1 e2 e3
  subst e1
  have hl : (xss.take k).length = k := by rw [List.length_take]; omega
  refine ⟨A, k, by rw [hl], by omega, by omega, fun j hj => ?_⟩
  rw [hl] at hj
  have e4 : (xss.take k).getD j [] = xss.getD j [] := by simp [List.getD, List.getElem?_take, hj]
  rw [e4]
  exact h3 j (by omega)
end
end Go.Proofs.Ytlcgihjdafglmaa

/- matrix.canon. -/
namespace Go.Proofs.Ytlcgihjdafglmaa
open Go.RowKit
set_option linter.unusedVariables false
set_option maxRecDepth 100000

theorem elimTo_nil (O : FOps) : ∀ c, elimTo O [] c = ([], [])
  | 0 => rfl
  | c + 1 => by rw [elimTo, elimTo_nil O c]; rfl
theorem melim_any (w0 w : World) (A : Nat) (P M : Int) (cols L : Nat) (Mod : List Int) (v : Value) (rows : List (List Int)) (hG : GF w0 A P M Mod) (hOM : OM w0.heap.size (fun g => g < w0.heap.size) w v rows)
    (hb : Below w0.heap.size w0 w) (hR : Rows (orderF P M) L rows) (hcL : cols ≤ L) (hL : L ≤ 100000) (hn2 : rows.length ≤ 100000) :
    Calls Try.prog 133 #[.pointer (some ⟨A, 0, none⟩), v, .int .i64 (cols : Int), .slice none 0 0] w
      (RetEI w0 v (elimTo (refOps P M Mod) rows cols).1 (elimTo (refOps P M Mod) rows cols).2) := by
  rcases Nat.eq_zero_or_pos rows.length with h0 | h0
  · obtain rfl := List.eq_nil_of_length_eq_zero h0
    obtain ⟨AA, c, rfl⟩ := hOM.form
    rw [elimTo_nil]
    exact melim_nil w0 w A P M Mod cols AA c hOM hb
  · obtain ⟨g, c, rfl, _, _⟩ := hOM.formP h0
    exact melim_cons w0 w A P M cols L rows.length g c Mod rows hG hOM rfl h0 hb hR hcL hL hn2
theorem SS.takeC {w : World} {A : Option Addr} {n c : Nat} {xss : List (List Int)} (h : SS w (.slice A n c) xss) {k : Nat} (hk : k ≤ xss.length) : SS w (.slice A k k) (xss.take k) := by
  obtain ⟨A', c', e, h⟩ := h
  injection e with e1 e2 e3
  subst e1
  have hl : (xss.take k).length = k := by rw [List.length_take]; omega
  refine ⟨A, k, by rw [hl], by have := h.len; omega, by omega, fun j hj => ?_⟩
  rw [hl] at hj
  obtain ⟨ad, u, e, hc, hs⟩ := h.cell j (by omega)
  refine ⟨ad, u, e, hc, ?_⟩
  rwa [show (xss.take k).getD j [] = xss.getD j [] by simp [List.getD, List.getElem?_take, hj]]
theorem SS.capLe {w : World} {A : Option Addr} {n c : Nat} {xss : List (List Int)} (h : SS w (.slice A n c) xss) : n = xss.length ∧ xss.length ≤ c := by
  obtain ⟨A', c', e, h⟩ := h
  injection e with e1 e2 e3
  exact ⟨e2, by have := h.cap; omega⟩
/-- canonical rows and their pivots come back; the rows' slice has no room behind -/
def RetCan (w : World) (xss : List (List Int)) (ys : List Int) (e : Ending) (w' : World) : Prop :=
  ∃ AA U c, e = .returned (.tuple #[.slice AA xss.length xss.length, .slice U ys.length c]) ∧ Sep w.heap.size w' (fun w2 => SS w2 (.slice AA xss.length xss.length) xss ∧ SI w2 (.slice U ys.length c) ys) ∧ SSb (fun g => w.heap.size ≤ g) w' (.slice AA xss.length xss.length) xss ∧ Below w.heap.size w w'

set_option maxHeartbeats 8000000 in
theorem mcanon_any (w : World) (A : Nat) (P M : Int) (n : Nat) (Mod : List Int) (v : Value) (rows : List (List Int)) (hG : GF w A P M Mod) (hv : SS w v rows) (hR : Rows (orderF P M) n rows) (hL : n ≤ 100000) (hn : rows.length ≤ 100000) :
    Calls Try.prog 107 #[.pointer (some ⟨A, 0, none⟩), v, .int .i64 (n : Int)] w (RetCan w (canonL (refOps P M Mod) rows n) (pivL (refOps P M Mod) rows n)) := by
  have HG := Lib.hid hG; have HV := Lib.hid hv; have HR := Lib.hid hR
  have hf := hG.fld
  have HLT := Lib.hid (refOps_lt hf.1 Mod)
  have hob := orderF_bounds P M
  have HRR := Lib.hid (canon_rref (ref_fld hf) hR).1
  have HER := Lib.hid (Rows.elim HLT.out hR n)
  have hel := elimTo_len (refOps P M Mod) rows n
  have hep := (elimTo_piv (refOps P M Mod) rows n)
  have HCN : Hid (canonL (refOps P M Mod) rows n = (elimTo (refOps P M Mod) rows n).1.take (elimTo (refOps P M Mod) rows n).2.length) := rfl
  have HPV : Hid (pivL (refOps P M Mod) rows n = (elimTo (refOps P M Mod) rows n).2) := rfl
  clear hG hv hR
  go_enter Try.func107, Try.ntmps107
  go_wp2_with fail
  refine (mclone_any _ v rows HV.out hn).mono ?_
  rintro e w1 ⟨u, rfl, ho, hb⟩
  have HO := Lib.hid ho; have HB := Lib.hid hb; clear ho hb
  go_wp2_with fail
  refine (melim_any w w1 A P M n n Mod u rows HG.out HO.out HB.out HR.out (Nat.le_refl _) hL hn).mono ?_
  rintro e w2 ⟨U, d, rfl, ho, hi, hb⟩
  generalize (elimTo (refOps P M Mod) rows n).1 = l at *
  generalize (elimTo (refOps P M Mod) rows n).2 = p at *
  obtain ⟨AA, c, rfl⟩ := ho.form
  have hos := ho.os (fun j hj => by
    have h := HER.out j hj
    exact ⟨by rw [h.1]; omega, fun k => by have := h.2 k; exact I64.of_small (by omega) (by omega)⟩)
  have hsep := hos.sep (fun g hg => .inl hg) (by omega)
  have hssb := hos.ssb (by omega) (fun g hg => .inl hg)
  obtain ⟨_, hcap⟩ := hsep.out.capLe
  obtain ⟨UA, uc, rfl⟩ := hi.form'
  have hpl : p.length ≤ l.length := by omega
  have HS := Lib.hid (hsep.imp fun _ h => h.takeC hpl)
  have HSB := Lib.hid (hssb.takeC hpl)
  have HP : Hid (Sep w.heap.size w2 fun w2 => SI w2 (.slice UA p.length uc) p) := hid' (hi.sep (by omega) (fun k => by
    by_cases hk : k < p.length
    · have hA : (canonL (refOps P M Mod) rows n).length = p.length := by rw [HCN.out, List.length_take]; omega
      have h1 := HRR.out.nn k (by omega)
      have h2 := HRR.out.lt k (by omega)
      rw [HPV.out] at h1 h2
      rw [h1]
      exact I64.of_small (by omega) (by omega)
    · rw [getD_len (by omega)]; exact I64.zero))
  have HB2 := Lib.hid hb
  have HTL : Hid ((l.take p.length).length = p.length) := by show _ = _; rw [List.length_take]; omega
  clear ho hi hb hos hsep hssb
  clear HRR
  go_wp2_with fail
  go_ret2
  rw [HCN.out, HPV.out]
  refine ⟨AA, UA, uc, ?_, ?_, ?_, HB2.out⟩
  · rw [HTL.out]; rfl
  · rw [HTL.out]; exact HS.out.and HP.out
  · rw [HTL.out]; exact HSB.out
end Go.Proofs.Ytlcgihjdafglmaa

/- matrix.open of one matrix; matrix.Check. -/
namespace Go.Proofs.Ytlcgihjdafglmaa
open Go.RowKit
set_option linter.unusedVariables false
set_option maxRecDepth 100000

/-- open's results where the field is right -/
def RetGE (w : World) (P M : Int) (Mod : List Int) (er : Int) (e : Ending) (w' : World) : Prop :=
  (er = 0 → RetG w P M Mod e w') ∧ (er ≠ 0 → e = .returned (.tuple #[.pointer none, .int .i64 er]) ∧ Below w.heap.size w w')
set_option maxHeartbeats 8000000 in
theorem mopen1_any (w : World) (P M cols : Int) (mv rv : Value) (gl : Nat) (Mod : List Int) (rows : List (List Int)) (hm : SI w mv Mod) (hv : SS w rv rows) (hf : FieldP P M Mod)
    (hl0 : w.cell? ⟨gl, 0, none⟩ = some (.int .i64 cols)) (hl1 : w.cell? ⟨gl, 1, none⟩ = some rv) :
    Calls Try.prog 86 #[.agg #[.int .i64 P, .int .i64 M, mv], .slice (some ⟨gl, 0, none⟩) 1 1] w (RetGE w P M Mod (chkE (orderF P M) cols rows)) := by
  have HM := Lib.hid hm; have HV := Lib.hid hv; clear hm hv
  obtain ⟨RA, rc, rfl, _⟩ := HV.out
  have HF := Lib.hid (FBox.mk' w P M mv)
  have HL0 := Lib.hid hl0; have HL1 := Lib.hid hl1; clear hl0 hl1
  go_enter Try.func86, Try.ntmps86
  go_wp2_with fail
  generalize hw0 : w.alloc (.cells #[.int .i64 P, .int .i64 M, mv] 24) = w0 at *
  have c0 := HF.out.c0; have c1 := HF.out.c1; have c2 := HF.out.c2
  go_wp2_with fail
  refine (new_ok _ P M mv Mod (HM.out.below HF.out.bel (Nat.le_refl _)) hf).mono ?_
  rintro e w1 ⟨a, rfl, hg1, hb1⟩
  have HG1 := Lib.hid (hg1.mono HF.out.bel.size)
  have HB1 := Lib.hid (bl_trans HF.out.bel hb1); clear hb1 hg1 c0 c1 c2
  go_wp2_with fail
  go_loopw [20] (fun i wr => (i = .int .i64 0 ∧ Hid (wr = w1)) ∨ (i = .int .i64 1 ∧ Hid (chkE (orderF P M) cols rows = 0) ∧ Hid (Below w1.heap.size w1 wr))) (fun i _ => (1 - intOf i).toNat)
  case atStart => exact .inl ⟨rfl, rfl⟩
  case round =>
    rcases hrel with ⟨rfl, HW⟩ | ⟨rfl, HC, HW⟩
    · obtain rfl := HW.out
      have d0 := cell_below HB1.out HL0.out
      have d1 := cell_below HB1.out HL1.out
      have HBA := Lib.hid (bl_alloc wr (.cells #[.int .i64 cols, .slice RA rows.length rc] 69))
      go_wp2_with fail
      refine (mcheck_any _ a P M cols Mod _ rows (HG1.out.on HBA.out).out ((HV.out.below HB1.out (Nat.le_refl _)).below HBA.out (Nat.le_refl _))).mono ?_
      rintro e w3 ⟨rfl, hb3⟩
      have HB3 := Lib.hid (bl_trans HBA.out hb3); clear hb3 HBA d0 d1
      by_cases hc : chkE (orderF P M) cols rows = 0
      · rw [hc]
        have HC := Lib.hid hc; clear hc
        go_wp2_with fail
        exact ⟨.inr ⟨rfl, HC, HB3⟩, by simp only [intOf]; omega⟩
      · have hb : (chkE (orderF P M) cols rows != 0) = true := by rw [bne_iff_ne]; exact hc
        have HC := Lib.hid hc; clear hc
        go_wp2_with fail
        go_ret2
        exact ⟨fun h => absurd h HC.out, fun _ => ⟨rfl, bl_trans HB1.out HB3.out⟩⟩
    · go_wp2_with fail
      go_ret2
      refine ⟨fun _ => ⟨a, rfl, (HG1.out.mono (Nat.le_refl _)).on HW.out, bl_trans HB1.out HW.out⟩, fun h => absurd HC.out h⟩

end Go.Proofs.Ytlcgihjdafglmaa

/- ref10.Pivots: the place of the first entry of each row that is not 0. -/
namespace Go.Proofs.Ytlcgihjdafglmaa
open Go.RowKit
set_option linter.unusedVariables false
set_option maxRecDepth 100000

/-- the place of the first entry that is not 0, the length if there is none -/
def fstNz (x : List Int) : Nat := x.findIdx (· != 0)
def pivots (rows : List (List Int)) : List Int := rows.map fun r => (fstNz r : Int)
end Go.Proofs.Ytlcgihjdafglmaa

/- ref10.Check: the rows are canonical. -/
namespace Go.Proofs.Ytlcgihjdafglmaa
open Go.RowKit
set_option linter.unusedVariables false
set_option maxRecDepth 100000

theorem checkF_zero {P M : Int} {Mod : List Int} (h : checkF P M Mod = 0) : FieldP P M Mod := by
  unfold checkF at h
  split at h
  · assumption
  · cases h
theorem entriesF_zero {q : Int} {l : List Int} (h : entriesF q l = 0) : ∀ k, k < l.length → 0 ≤ l.getD k 0 ∧ l.getD k 0 < q := by
  unfold entriesF at h
  split at h
  · assumption
  · cases h
/-- a matrix without error -/
theorem matE_zero {P M : Int} {Mod : List Int} {cols : Int} {rows : List (List Int)} (h : matE P M Mod cols rows = 0) :
    FieldP P M Mod ∧ 0 ≤ cols ∧ cols ≤ 256 ∧ rows.length ≤ 256 ∧ Rows (orderF P M) cols.toNat rows := by
  unfold matE at h
  split at h
  · rename_i h1; exact absurd h h1
  rename_i h1
  split at h
  · cases h
  rename_i h2
  split at h
  case isFalse => cases h
  rename_i h3
  split at h
  case isFalse => cases h
  rename_i h4
  have hf := checkF_zero (Decidable.not_not.1 h1)
  have hq := (order_ne hf.1).2.2.2.2.1
  refine ⟨hf, by omega, by omega, by omega, fun k hk => ?_⟩
  rw [lensOK, List.all_eq_true] at h3
  rw [entsOK, List.all_eq_true] at h4
  have hm : rows.getD k [] ∈ rows := by
    simp [List.getD, hk]
  have e3 := h3 _ hm
  have e4 := h4 _ hm
  rw [beq_iff_eq] at e3 e4
  refine ⟨by omega, fun i => ?_⟩
  by_cases hi : i < (rows.getD k []).length
  · exact entriesF_zero e4 i hi
  · rw [getD_len (by omega)]
    have := orderF_bounds P M
    have := hf.1
    omega

end Go.Proofs.Ytlcgihjdafglmaa

/- matrix.Canonical, matrix.Rank. -/
namespace Go.Proofs.Ytlcgihjdafglmaa
open Go.RowKit
set_option linter.unusedVariables false
set_option maxRecDepth 100000

/-- Canonical's results where all is well -/
def RetCM (w : World) (n : Nat) (xss : List (List Int)) (ys : List Int) (e : Ending) (w' : World) : Prop :=
  ∃ AA U c, e = .returned (.tuple #[.agg #[.int .i64 (n : Int), .slice AA xss.length xss.length], .slice U ys.length c, .int .i64 0]) ∧ Sep w.heap.size w' (fun w2 => SS w2 (.slice AA xss.length xss.length) xss ∧ SI w2 (.slice U ys.length c) ys) ∧ SSb (fun g => w.heap.size ≤ g) w' (.slice AA xss.length xss.length) xss ∧ Below w.heap.size w w'

/-- matrix.open behind the boxes of a field and a matrix -/
theorem mopen_ok (w w1 : World) (P M : Int) (n gl : Nat) (mv rv : Value) (Mod : List Int) (rows : List (List Int)) (hF : Below w.heap.size w w1) (hsz : w1.heap.size = gl) (hm : SI w mv Mod) (hv : SS w rv rows) (he : matE P M Mod n rows = 0) :
    Calls Try.prog 86 #[.agg #[.int .i64 P, .int .i64 M, mv], .slice (some ⟨gl, 0, none⟩) 1 1] (w1.alloc (.cells #[.int .i64 (n : Int), rv] 69))
      (fun e w2 => ∃ a, e = .returned (.tuple #[.pointer (some ⟨a, 0, none⟩), .int .i64 0]) ∧ GF w2 a P M Mod ∧ Below w1.heap.size w1 w2) := by
  have hf := (matE_zero he).1
  have hb := bl_trans hF (bl_alloc w1 (.cells #[.int .i64 (n : Int), rv] 69))
  have hQ := Blk.new w1 69 [.int .i64 (n : Int), rv]
  rw [hsz] at hQ
  refine (mopen1_any _ P M n mv rv gl Mod rows (hm.below hb (Nat.le_refl _)) (hv.below hb (Nat.le_refl _)) hf (hQ.cell 0) (hQ.cell 1)).mono ?_
  rintro e w2 ⟨h1, _⟩
  obtain ⟨a, rfl, hg, hb2⟩ := h1 (by rw [← matE_ok hf]; exact he)
  exact ⟨a, rfl, hg.out, bl_trans (bl_alloc w1 _) hb2⟩
/-- the boxes of a field and a matrix, and behind them the place for a matrix that comes back -/
structure FMQ (w w1 : World) (P M : Int) (mv : Value) (cols : Int) (rv : Value) : Prop where
  fm : FMBox w w1 P M mv cols rv
  q : Blk w1 (w.heap.size + 1 + 1) 69 [.int .i64 0, .slice none 0 0]
theorem FMQ.on {w w1 w2 : World} {P M : Int} {mv : Value} {cols : Int} {rv : Value} (h : FMQ w w1 P M mv cols rv) (hb : Below w1.heap.size w1 w2) : FMQ w w2 P M mv cols rv := ⟨h.fm.on hb, h.q.belowS hb⟩
theorem FMQ.mk' (w : World) (P M : Int) (mv : Value) (cols : Int) (rv : Value) : ∃ w1, ((w.alloc (.cells #[.int .i64 P, .int .i64 M, mv] 24)).alloc (.cells #[.int .i64 cols, rv] 69)).alloc (.cells #[.int .i64 0, .slice none 0 0] 69) = w1 ∧
    FMQ w w1 P M mv cols rv ∧ w1.heap.size = w.heap.size + 1 + 1 + 1 := by
  refine ⟨_, rfl, ⟨(FMBox.mk' w P M mv cols rv).on (bl_alloc _ _), ?_⟩, ?_⟩
  · have := Blk.new ((w.alloc (.cells #[.int .i64 P, .int .i64 M, mv] 24)).alloc (.cells #[.int .i64 cols, rv] 69)) 69 [.int .i64 0, .slice none 0 0]
    rw [World.size_alloc, World.size_alloc] at this
    exact this
  · rw [World.size_alloc, World.size_alloc, World.size_alloc]

set_option maxHeartbeats 8000000 in
theorem mCanonical_ok (w : World) (P M : Int) (n : Nat) (mv rv : Value) (Mod : List Int) (rows : List (List Int)) (hm : SI w mv Mod) (hv : SS w rv rows) (he : matE P M Mod n rows = 0) :
    Calls Try.prog 76 #[.agg #[.int .i64 P, .int .i64 M, mv], .agg #[.int .i64 (n : Int), rv]] w (RetCM w n (canonL (refOps P M Mod) rows n) (pivL (refOps P M Mod) rows n)) := by
  have HM := Lib.hid hm; have HV := Lib.hid hv; clear hm hv
  obtain ⟨hf, _, hn, hr, hR⟩ := matE_zero he
  rw [Int.toNat_natCast] at hR
  have HR := Lib.hid hR
  have HE := Lib.hid he
  clear he hR hf
  obtain ⟨RA, rc, rfl, _⟩ := HV.out
  obtain ⟨r, hrr⟩ : ∃ r, r = rows.length := ⟨_, rfl⟩
  rw [← hrr] at HV hr ⊢
  have HRR := Lib.hid hrr; clear hrr
  obtain ⟨w1, e1, hq, hsz⟩ := FMQ.mk' w P M mv n (.slice RA r rc)
  have HQ := Lib.hid hq; have HE1 := Lib.hid e1; clear hq e1
  go_enter Try.func76, Try.ntmps76
  go_wp2_with fail
  rw [HE1.out]
  clear HE1
  have c0 := HQ.out.fm.fb.c0; have c1 := HQ.out.fm.fb.c1; have c2 := HQ.out.fm.fb.c2; have d0 := HQ.out.fm.d0; have d1 := HQ.out.fm.d1
  go_wp2_with fail
  refine (mopen_ok w w1 P M n _ mv _ Mod rows HQ.out.fm.fb.bel hsz HM.out HV.out HE.out).mono ?_
  rintro e w2 ⟨a, rfl, hg, hb2⟩
  have HG := Lib.hid hg
  have HQ2 := Lib.hid (HQ.out.on hb2)
  clear hg hb2 c0 c1 c2 d0 d1 HQ
  have d0 := HQ2.out.fm.d0; have d1 := HQ2.out.fm.d1
  go_wp2_with fail
  refine (mcanon_any w2 a P M n Mod _ rows HG.out (HV.out.below HQ2.out.fm.fb.bel (Nat.le_refl _)) HR.out (by omega) (by rw [← HRR.out]; omega)).mono ?_
  rintro e w3 ⟨AA, U, uc, rfl, hs, hsb, hb3⟩
  have hlt := HQ2.out.q.lt
  generalize hkk : (canonL (refOps P M Mod) rows n).length = k at *
  generalize hpp : (pivL (refOps P M Mod) rows n).length = p at *
  have HK := Lib.hid hkk; have HP := Lib.hid hpp; clear hkk hpp
  have HS := Lib.hid hs; have HSB := Lib.hid hsb
  have HQ3 := Lib.hid (HQ2.out.on hb3)
  clear hs hsb hb3 d0 d1
  have d0 := HQ3.out.fm.d0
  obtain ⟨r0, r1, f0, f1⟩ := HQ3.out.q.two
  go_wp2_with fail
  obtain ⟨w4, h4, HL⟩ := lay2 (x := .int .i64 (n : Int)) (y := .slice AA k k) HQ3.out.q
  rw [h4]
  have q0 := HL.c0; have q1 := HL.c1
  refine bodyPost_ret (v := .tuple #[.agg #[.int .i64 (n : Int), .slice AA k k], .slice U p uc, .int .i64 0]) (by simp [results, Try.results76, go_sem, q0, q1]) rfl ?_
  have hq2 := HQ2.out.fm.fb.bel.size
  refine ⟨AA, U, uc, ?_, ?_, ?_, HL.below HQ3.out.fm.fb.bel HQ3.out.fm.fb.bel.size (by omega)⟩
  · rw [HK.out, HP.out]
  · rw [HK.out, HP.out]
    exact (HS.out.grown HL.gr (by rintro g e; cases e; omega)).mono hq2
  · rw [HK.out]
    exact (HSB.out.grown HL.gr (by rintro g e; cases e; show ¬ w2.heap.size ≤ _; omega)).imp fun g hg _ => Nat.le_trans hq2 hg

end Go.Proofs.Ytlcgihjdafglmaa

/- ref09.Null. -/
namespace Go.Proofs.Ytlcgihjdafglmaa
open Go.RowKit
set_option linter.unusedVariables false
set_option maxRecDepth 100000

def RetNu (w : World) (xss : List (List Int)) (e : Ending) (w' : World) : Prop := ∃ u, e = .returned u ∧ Sep w.heap.size w' (fun w2 => SS w2 u xss) ∧ OS w.heap.size (fun g => g < w.heap.size) w' u xss ∧ Below w.heap.size w w'

end Go.Proofs.Ytlcgihjdafglmaa

/- The field of two elements, as the reference has it, obeys the laws; elimination's words rest, in, combination by spans. -/
namespace Go.Proofs.Ytlcgihjdafglmaa

theorem order21 : orderF 2 1 = 2 := by decide
theorem bit_two (x : Int) : inQ 2 x = 0 ∨ inQ 2 x = 1 := by unfold inQ; split <;> omega
theorem bit_self {x : Int} (h0 : 0 ≤ x) (h1 : x < 2) : inQ 2 x = x := by unfold inQ; rw [if_pos ⟨h0, h1⟩]
theorem dig21 (x : Int) : (digF 2 1 x).getD 0 0 = inQ 2 x := by
  unfold digF
  rw [order21, digitsF_getD (by decide)]
  rcases bit_two x with h | h <;> rw [h] <;> decide
theorem add21 (x y : Int) : addF 2 1 x y = (inQ 2 x + inQ 2 y) % 2 := by
  unfold addF
  have : (1 : Int).toNat = 1 := rfl
  rw [this]
  simp only [rowOf, List.range_succ, List.range_zero, List.nil_append, List.map_cons, List.map_nil, valueF, dig21]
  omega
theorem neg21 (x : Int) : negF 2 1 x = inQ 2 x := by
  unfold negF
  have : (1 : Int).toNat = 1 := rfl
  rw [this]
  simp only [rowOf, List.range_succ, List.range_zero, List.nil_append, List.map_cons, List.map_nil, valueF, dig21]
  rcases bit_two x with h | h <;> rw [h] <;> decide
theorem mul21 (x y : Int) : mulR 2 1 [] x y = inQ 2 x * inQ 2 y := by
  have h1 : (1 : Int).toNat = 1 := rfl
  unfold mulR mulRL
  rw [h1]
  have hc : conv 2 (digF 2 1 x) (digF 2 1 y) 1 1 = [(inQ 2 x * inQ 2 y) % 2] := by
    simp only [conv, convRow, convStep, dig21]
    rcases bit_two x with h | h <;> rcases bit_two y with k | k <;> rw [h, k] <;> decide
  rw [hc]
  simp only [redTo, Nat.sub_self, List.take_succ_cons, List.take_zero, valueF]
  rcases bit_two x with h | h <;> rcases bit_two y with k | k <;> rw [h, k] <;> decide
theorem inv21 (x : Int) : 0 ≤ invF 2 1 [] x ∧ invF 2 1 [] x < 2 := by
  unfold invF
  rw [order21]
  show 0 ≤ invTo 2 1 [] x 2 ∧ invTo 2 1 [] x 2 < 2
  simp only [invTo]
  repeat' split
  all_goals omega
theorem inQ_lt (x : Int) : 0 ≤ inQ 2 x ∧ inQ 2 x < 2 := by rcases bit_two x with h | h <;> rw [h] <;> decide
theorem two_fld : (refOps 2 1 []).Fld 2 := by
  have hI := bit_two
  refine ⟨by have := refOps_lt (P := 2) (M := 1) (by rw [order21]; decide) []; rwa [order21] at this, fun x => ?_, fun x => inv21 x, fun x y => ?_, fun x y z => ?_, fun x h0 h1 => ?_, fun x => ?_, fun x y => ?_, fun x y z => ?_, fun x h0 h1 => ?_, fun x y z => ?_, fun x => ?_, fun x h0 h1 => ?_⟩
  · show 0 ≤ negF 2 1 x ∧ negF 2 1 x < 2
    rw [neg21]; exact inQ_lt x
  · show addF 2 1 x y = addF 2 1 y x
    rw [add21, add21, Int.add_comm]
  · show addF 2 1 (addF 2 1 x y) z = addF 2 1 x (addF 2 1 y z)
    simp only [add21]
    rcases hI x with h | h <;> rcases hI y with k | k <;> rcases hI z with l | l <;> rw [h, k, l] <;> decide
  · show addF 2 1 x 0 = x
    rw [add21, bit_self h0 h1, bit_self (Int.le_refl _) (by omega)]; omega
  · show addF 2 1 x (negF 2 1 x) = 0
    rw [neg21, add21]
    rcases hI x with h | h <;> rw [h] <;> decide
  · show mulR 2 1 [] x y = mulR 2 1 [] y x
    rw [mul21, mul21, Int.mul_comm]
  · show mulR 2 1 [] (mulR 2 1 [] x y) z = mulR 2 1 [] x (mulR 2 1 [] y z)
    simp only [mul21]
    rcases hI x with h | h <;> rcases hI y with k | k <;> rcases hI z with l | l <;> rw [h, k, l] <;> decide
  · show mulR 2 1 [] x 1 = x
    rw [mul21, bit_self h0 h1, bit_self (by omega) (by omega)]; omega
  · show mulR 2 1 [] x (addF 2 1 y z) = addF 2 1 (mulR 2 1 [] x y) (mulR 2 1 [] x z)
    simp only [mul21, add21]
    rcases hI x with h | h <;> rcases hI y with k | k <;> rcases hI z with l | l <;> rw [h, k, l] <;> decide
  · show mulR 2 1 [] x 0 = 0
    rw [mul21]
    rcases hI x with h | h <;> rw [h] <;> decide
  · obtain rfl : x = 1 := by omega
    show mulR 2 1 [] 1 (invF 2 1 [] 1) = 1
    have e : mulR 2 1 [] 1 1 = 1 := by rw [mul21]; decide
    have e0 : mulR 2 1 [] 1 0 = 0 := by rw [mul21]; decide
    have e2 : invF 2 1 [] 1 = 1 := by
      unfold invF
      rw [order21]
      show invTo 2 1 [] 1 2 = 1
      simp [invTo, e]
    rw [e2, e]

section
variable {O : FOps} {q : Int} (hO : O.Fld q)
include hO
end
end Go.Proofs.Ytlcgihjdafglmaa
