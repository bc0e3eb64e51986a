/- majority.decoded. -/
import Derived.Test.YtkamgnihpcafdaaPush
namespace Go.Proofs.Ytkamgnihpcafdaa
open Go.RowKit
set_option linter.unusedVariables false
set_option maxRecDepth 100000

set_option maxHeartbeats 4000000 in
theorem decoded_any (w : World) (va vb : Value) (a b : List Int) (ha : SI w va a) (hb : SI w vb b) (hl : a.length = b.length) :
    Calls Try.prog 44 #[va, vb] w (fun e w' => ∃ u2, e = .returned (.agg #[va, u2]) ∧ SI w' u2 (differF a b) ∧ New w u2 ∧ Below w.heap.size w w') := by
  obtain ⟨A, c, rfl, ha⟩ := ha
  obtain ⟨B, d, rfl, hb⟩ := hb
  have hna := ha.len
  have HA := Lib.hid ha; clear ha
  have HB := Lib.hid hb; clear hb
  have HL := Lib.hid hl; clear hl
  go_enter Try.func44, Try.ntmps44
  go_wp2_with fail
  have HR0 : Hid (Blk ((w.alloc (.cells #[.slice none 0 0, .slice none 0 0] 38)).alloc (.cells #[.slice A a.length c, .slice none 0 0] 38)) w.heap.size 38 [.slice none 0 0, .slice none 0 0]) := (Blk.new w 38 [.slice none 0 0, .slice none 0 0]).alloc _
  have HD0 : Hid (Blk ((w.alloc (.cells #[.slice none 0 0, .slice none 0 0] 38)).alloc (.cells #[.slice A a.length c, .slice none 0 0] 38)) (w.heap.size + 1) 38 [.slice A a.length c, .slice none 0 0]) := by
    have := Blk.new (w.alloc (.cells #[.slice none 0 0, .slice none 0 0] 38)) 38 [.slice A a.length c, .slice none 0 0]
    simp only [World.size_alloc] at this
    exact this
  have HB0 := Lib.hid (bl_trans (bl_alloc w (.cells #[.slice none 0 0, .slice none 0 0] 38)) (bl_alloc _ (.cells #[.slice A a.length c, .slice none 0 0] 38)))
  go_loopw [6, 11] (fun _ i wr => ∃ (k n : Nat) (E : Option Addr) (ec : Nat), k ≤ a.length ∧ i = .int .i64 k ∧ Hid (OI w.heap.size wr (.slice E n ec) (differTo a b k)) ∧ Hid (Blk wr w.heap.size 38 [.slice none 0 0, .slice none 0 0]) ∧ Hid (Blk wr (w.heap.size + 1) 38 [.slice A a.length c, .slice E n ec]) ∧ Hid (Below w.heap.size w wr)) (fun _ i _ => a.length - (intOf i).toNat)
  case atStart => exact ⟨0, 0, none, 0, Nat.zero_le _, rfl, OI.nil _ _, HR0, HD0, HB0⟩
  case round =>
    obtain ⟨k, n, E, ec, hk, rfl, HO, HR, HD, HW⟩ := hrel
    by_cases hla : k < a.length
    · have hlb : k < b.length := by have := HL.out; omega
      obtain ⟨ad, x, rfl, hc, _, HX⟩ := (HA.out.below HW.out (Nat.le_refl _)).elt hla
      obtain ⟨bd, y, rfl, hd, _, HY⟩ := (HB.out.below HW.out (Nat.le_refl _)).elt hlb
      by_cases hxy : x = y
      · have hb1 : (x != y) = false := by simp [hxy]
        have HXY := Lib.hid hxy; clear hxy
        go_wp2_with fail
        go_quiet (fail)
        go_wp2_with fail
        exact ⟨⟨k + 1, n, E, ec, by omega, rfl, by rw [differTo_no (by rw [HX.out, HY.out]; exact HXY.out)]; exact HO, HR, HD, bl_trans HW.out (bl_drewN _ _)⟩, by simp only [intOf]; omega⟩
      · have hb1 : (x != y) = true := by simp [hxy]
        have HXY := Lib.hid hxy; clear hxy
        have hll := differTo_len a b k
        have d1 := HD.out.cell 1
        have f1 := HD.out.frozen 1
        go_wp2_with fail
        go_quiet (fail)
        rename_i nq
        have HP := Lib.hid (PushI.mk' (w := wr.drewN nq) (w0 := w) HO.out (bl_trans HW.out (bl_drewN wr nq)) HW.out.size (k : Int))
        have HD1 : Hid (Blk ((wr.drewN nq).alloc (.cells #[.int .i64 (k : Int)] 3)) (w.heap.size + 1) 38 [.slice (some ad) a.length c, .slice E n ec]) := Blk.alloc HD.out _
        have HR1 : Hid (Blk ((wr.drewN nq).alloc (.cells #[.int .i64 (k : Int)] 3)) w.heap.size 38 [.slice none 0 0, .slice none 0 0]) := Blk.alloc HR.out _
        go_wp2_with (at_builtin; go_must (refine wpList_pushI rfl _ _ rfl w.heap.size _ (differTo a b k) rfl HP.out.own wr.heap.size 1 (k : Int) rfl HP.out.box (by omega) HP.out.up ?_); (intro v1 w1 ho hg); have HD2 := Lib.hid (HD1.out.grown hg (fun e => HP.out.own.ne_blk HD1.out (by decide) e.symm)); have HR2 := Lib.hid (HR1.out.grown hg (fun e => HP.out.own.ne_blk HR1.out (by decide) e.symm)); have HB2 := Lib.hid (HP.out.below (Nat.le_refl _) hg); obtain ⟨g1, cp1, rfl, _, _⟩ := ho.form (by simp); have HO2 := Lib.hid ho; clear ho hg d1 f1; have d1 := HD2.out.cell 1; have f1 := HD2.out.frozen 1)
        refine ⟨⟨k + 1, _, _, _, by omega, rfl, by
            rw [differTo_yes (by rw [HX.out, HY.out]; exact HXY.out)]
            have e2 : (differTo a b k ++ [(k : Int)]).length = (differTo a b k).length + 1 := by simp
            rw [← e2]
            exact HO2.out.grown (gr_set1 w1 (w.heap.size + 1) 1 _) (fun g hg e => HO2.out.ne_blk HD2.out (by decide) (by rw [hg, e])), HR2.out.far (by simp) _, HD2.out.set_ 1 _, HB2.out.setCell (by simp) _⟩, by simp only [intOf]; omega⟩
    · have HE : Hid (differF a b = differTo a b k) := by
        unfold differF; rw [show min a.length b.length = k by have := HL.out; omega]; rfl
      have hlen := differTo_len a b k
      have d0 : wr.cell? ⟨w.heap.size + 1, 0, none⟩ = some (.slice A a.length c) := HD.out.cell 0
      have d1 : wr.cell? ⟨w.heap.size + 1, 1, none⟩ = some (.slice E n ec) := HD.out.cell 1
      have r0 : wr.cell? ⟨w.heap.size, 0, none⟩ = some (.slice none 0 0) := HR.out.cell 0
      have r1 : wr.cell? ⟨w.heap.size, 1, none⟩ = some (.slice none 0 0) := HR.out.cell 1
      have f0 := HR.out.frozen 0
      have f1 := HR.out.frozen 1
      go_wp2_with fail
      refine bodyPost_ret (v := .agg #[.slice A a.length c, .slice E n ec]) (by simp [results, Try.results44, go_sem, r0, r1]) rfl ?_
      have hg : wr.grownBy ((wr.setCell ⟨w.heap.size, 0, none⟩ (.slice A a.length c)).setCell ⟨w.heap.size, 1, none⟩ (.slice E n ec)) (some w.heap.size) :=
        gr_set2 wr _ 0 1 _ _
      have ho := HO.out.grown hg (fun g hg e => HO.out.ne_blk HR.out (by decide) (by rw [hg, e]))
      exact ⟨_, rfl, by rw [HE.out]; exact ho.si (by omega) (differTo_i64 (by omega)), ho.new (Nat.le_refl _), (HW.out.setCell (Nat.le_refl _) _).setCell (Nat.le_refl _) _⟩
end Go.Proofs.Ytkamgnihpcafdaa
