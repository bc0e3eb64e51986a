/- Texts of a claim, merged: words, plain facts and walks that the last of its texts uses. -/
import Derived.Test.YtlofhnmpbpjigaaZA1
import Derived.Test.YtlofhnmpbpjigaaZA2
import Derived.Test.YtlofhnmpbpjigaaZA4
import Derived.Test.YtlofhnmpbpjigaaZA6
import Derived.Test.YtlofhnmpbpjigaaZA8
import Derived.Laws.StructEq
set_option linter.unusedSimpArgs false
set_option linter.unusedVariables false

namespace Go.Proofs.Ytlofhnmpbpjigaa
open Go.RowKit
set_option maxRecDepth 100000
noncomputable def mwE (cols : Int) (rows : List (List Int)) (word : List Int) : Int := if bitE cols rows ≠ 0 then bitE cols rows else wordE cols word
theorem mwE_ok {cols : Int} {rows : List (List Int)} {word : List Int} (h : mwE cols rows word = 0) : bitE cols rows = 0 ∧ wordE cols word = 0 := by
 unfold mwE at h
 by_cases h1 : bitE cols rows = 0
 ·rw [if_neg (by simpa using h1)] at h; exact ⟨h1, h⟩
 ·rw [if_pos h1] at h; exact absurd h h1
structure MW (n : Nat) (rows : List (List Int)) (word : List Int) : Prop where
 nn : n ≤ 256
 rl : rows.length ≤ 256
 br : BitRows n rows
 wl : word.length = n
 wb : Bit word
set_option maxHeartbeats 16000000 in
theorem gsum_any (w : World) (g n p : Nat) (but : Int) (iv dv : Value) (rows : List (List Int)) (inp : List Int) (F : Nat → Nat → Int) (h : GR w g (cksTo rows n rows.length) (atTo rows n rows.length 0)) (hi : SI w iv inp) (hd : SS w dv (dnM rows n F))
  (hF : ∀ j p, -cer ≤ F j p ∧ F j p ≤ cer) (hp : p < n) (hn : n ≤ 256) (hr : rows.length ≤ 256) (hil : inp.length = n) (hib : ∀ k, -1048576 ≤ inp.getD k 0 ∧ inp.getD k 0 ≤ 1048576) :
  Calls Try.prog 34 #[.pointer (some ⟨g, 0, none⟩), iv, dv, .int .i64 (p : Int), .int .i64 but] w (RetI w (sumV (inp.getD p 0) (inTo rows F p but rows.length))) := by
 obtain ⟨cv, gA, h0, h1, hs, he⟩ := h
 rw [atTo_len] at h1
 obtain ⟨EA, ec, es, hc, HES, HEE⟩ := he.elt (p := p) (by rw [atTo_len]; exact hp)
 rw [atTo_getD hp, if_neg (by omega)] at HEE
 have HAT := Lib.hid (fun k => @edges_at rows p rows.length k)
 have hel := edgesTo_len rows p rows.length
 rw [HEE.out] at HAT hel
 have HSC : Hid (msgE F p but es = inTo rows F p but rows.length) := hid' (by show _ = _; rw [← HEE.out, msgE_edges])
 rw [← HSC.out]
 have HFB := Lib.hid (fun k => lsum_bd (msgE_bd hF p but (es.take k)))
 have HFL := Lib.hid (fun k => msgE_len F p but (es.take k))
 have HFF := Lib.hid hF
 obtain ⟨ia, z0, hia, hic, _, HZ0⟩ : ∃ ia x, iv = .slice (some ia) n (match iv with | .slice _ _ c => c | _ => 0) ∧ w.cell? (ia.add p) = some (.int .i64 x) ∧ Hid (I64 x) ∧ Hid (inp.getD p 0 = x) := by
  obtain ⟨A, c, rfl, hia⟩ := hi
  obtain ⟨ad, x, rfl, hc2, hx1, hx2⟩ := hia.elt (k := p) (by omega)
  exact ⟨ad, x, by rw [hil], hc2, hx1, hx2⟩
 obtain ⟨ic, hice⟩ : ∃ ic, ic = (match iv with | .slice _ _ c => c | _ => 0) := ⟨_, rfl⟩
 rw [← hice] at hia
 subst hia
 clear hice
 have hzb := hib p
 rw [HZ0.out] at hzb ⊢
 obtain ⟨DA, dc, rfl, _⟩ := id hd
 rw [dnM_len] at *
 have HD := Lib.hid hd
 have HPN : Hid (∀ j, j < rows.length → (rows.getD j []).getD p 0 = 1 → (dnL (rows.getD j []) n (F j)).getD (onesTo (rows.getD j []) p).length 0 = F j p ∧ (onesTo (rows.getD j []) p).length < (dnL (rows.getD j []) n (F j)).length) := hid' fun j _ h => by
  refine ⟨dnL_at h hp, ?_⟩
  rw [dnL_len]; exact (ones_at h hp).2
 clear he hs h0 hi hd HSC HEE hib hF
 generalize hrr : rows.length = r at *
 have HRR := Lib.hid hrr; clear hrr
 generalize hem : es.length = em at *
 have HEM := Lib.hid hem; clear hem
 go_enter Try.func34, Try.ntmps34
 go_wp2_with fail
 go_loopw [11, 27] (fun s i wr => ∃ k : Nat, k ≤ em ∧ i = .int .i64 (k : Int) ∧ s = .int .i64 (z0 + lsum (msgE F p but (es.take k))) ∧ Hid (cer ∉ msgE F p but (es.take k)) ∧ Hid (Below w.heap.size w wr)) (fun _ i _ => em - (intOf i).toNat)
 case atStart => exact ⟨0, Nat.zero_le _, rfl, by simp [msgE, lsum], hid' (by simp [msgE]), bl_refl _⟩
 case round =>
  obtain ⟨k, hk, rfl, rfl, HNO, HW⟩ := hrel
  have hlb := HFB.out k
  have hll := HFL.out k
  have htl : (es.take k).length ≤ k := List.length_take_le _ _
  by_cases hkl : k < em
  ·obtain ⟨ad, x, y, hEA, hc0, hc1, HXY⟩ := HES.out.elt (k := k) (by rw [HEM.out]; exact hkl)
   subst hEA
   obtain ⟨j, hj, hje, hrj⟩ := HAT.out k hkl
   rw [HXY.out] at hje
   have hje1 : x = (j : Int) := congrArg Prod.fst hje
   have hje2 : y = ((onesTo (rows.getD j []) p).length : Int) := congrArg Prod.snd hje
   subst hje1
   have HTK : Hid (es.take (k + 1) = es.take k ++ [((j : Int), y)]) := hid' (by show _ = _; rw [take_snocE es k (by rw [HEM.out]; exact hkl), HXY.out])
   have d0 := cell_below HW.out hc0
   have d1 := cell_below HW.out hc1
   have HBX := Lib.hid (bl_trans HW.out (bl_alloc wr (.cells #[.int .i64 (j : Int), .int .i64 y] 62)))
   have HBK := Lib.hid (Blk.new wr 62 [.int .i64 (j : Int), .int .i64 y])
   have b0 : (wr.alloc (.cells #[.int .i64 (j : Int), .int .i64 y] 62)).cell? ⟨wr.heap.size, 0, none⟩ = some (.int .i64 (j : Int)) := HBK.out.cell 0
   have b1 : (wr.alloc (.cells #[.int .i64 (j : Int), .int .i64 y] 62)).cell? ⟨wr.heap.size, 1, none⟩ = some (.int .i64 y) := HBK.out.cell 1
   by_cases hbut : (j : Int) = but
   ·have hbb : ((j : Int) == but) = true := by rw [beq_iff_eq]; exact hbut
    have HS : Hid (msgE F p but (es.take (k + 1)) = msgE F p but (es.take k)) := hid' (by show _ = _; rw [HTK.out, msgE_snoc_no hbut])
    clear hje hje2 hrj hbut hlb hll htl hc0 hc1
    generalize hs : lsum (msgE F p but (es.take k)) = s at *
    have HSS := Lib.hid hs; clear hs
    go_wp2_with fail
    exact ⟨⟨k + 1, by omega, by push_cast; rfl, by rw [HS.out, HSS.out], by rw [HS.out]; exact HNO, HBX⟩, by simp only [intOf]; omega⟩
   ·have hbb : ((j : Int) == but) = false := by rw [beq_eq_false_iff_ne]; exact hbut
    have hcs := HPN.out j hj hrj
    obtain ⟨yn, hyn⟩ : ∃ yn, yn = (onesTo (rows.getD j []) p).length := ⟨_, rfl⟩
    rw [← hyn] at hje2 hcs
    subst hje2
    obtain ⟨ra, Ak, ck, row, rfl, hd, HRR2, HRE⟩ := (HD.out.below HW.out (Nat.le_refl _)).eltA (k := j) (by rw [dnM_len, HRR.out]; exact hj)
    have hre := HRE.out
    rw [dnM_getD (by rw [HRR.out]; exact hj)] at hre
    rw [hre] at hcs
    obtain ⟨hcs1, hcs2⟩ := hcs
    obtain ⟨rd, z, rfl, he, _, HZ⟩ := HRR2.out.elt (k := yn) hcs2
    have hzf : z = F j p := by rw [← HZ.out]; exact hcs1
    have hd1 := cell_below (bl_alloc wr (.cells #[.int .i64 (j : Int), .int .i64 (yn : Int)] 62)) hd
    have he1 := cell_below (bl_alloc wr (.cells #[.int .i64 (j : Int), .int .i64 (yn : Int)] 62)) he
    have HS : Hid (msgE F p but (es.take (k + 1)) = msgE F p but (es.take k) ++ [z]) := hid' (by show _ = _; rw [HTK.out, msgE_snoc_yes hbut, hzf]; rfl)
    have hzb2 := HFF.out j p
    rw [← hzf] at hzb2
    clear hcs1 hzf hyn hje hrj hre HRE hc0 hc1 HPN
    by_cases hzc : z = 1099511627776
    ·have hzz : (z == 1099511627776) = true := by rw [beq_iff_eq]; exact hzc
     have HV : Hid (sumV z0 (msgE F p but es) = 1099511627776) := hid' (by
      refine sumV_hit (msgE_take_in (k := k + 1) ?_)
      rw [HS.out, hzc]
      exact List.mem_append_right _ (List.mem_singleton.2 rfl))
     clear hlb hll htl hzc hzb2
     go_wp2_with fail
     go_quiet (fail)
     rename_i nq
     go_wp2_with fail
     go_ret
     exact ⟨by rw [HV.out]; rfl, bl_trans HBX.out (bl_drewN _ _)⟩
    ·have hzz : (z == 1099511627776) = false := by rw [beq_eq_false_iff_ne]; exact hzc
     have HNO2 : Hid (cer ∉ msgE F p but (es.take (k + 1))) := hid' (by
      rw [HS.out]
      intro h
      rcases List.mem_append.1 h with h | h
      ·exact HNO.out h
      ·exact hzc (List.mem_singleton.1 h).symm)
     have HLS : Hid (lsum (msgE F p but (es.take (k + 1))) = lsum (msgE F p but (es.take k)) + z) := hid' (by show _ = _; rw [HS.out, lsum_snoc])
     have HWR : Hid (IntKind.i64.wrap (z0 + lsum (msgE F p but (es.take k)) + z) = z0 + lsum (msgE F p but (es.take (k + 1)))) := hid' (by
      show _ = _
      rw [HLS.out, IntWalk.i64_in _ (by unfold cer at *; omega)]; omega)
     have HBQ := Lib.hid (fun q => bl_trans HBX.out (bl_drewN (wr.alloc (.cells #[.int .i64 (j : Int), .int .i64 (yn : Int)] 62)) q))
     clear hlb hll htl hzc hzb2 HS
     have hwr := HWR.out
     generalize z0 + lsum (msgE F p but (es.take k)) = s at *
     generalize hs2 : z0 + lsum (msgE F p but (es.take (k + 1))) = s2 at *
     have HSS := Lib.hid hs2; clear hs2
     go_wp2_with fail
     go_quiet (fail)
     rename_i nq
     go_wp2_with fail
     exact ⟨⟨k + 1, by omega, by push_cast; rfl, by rw [HSS.out], HNO2, HBQ.out _⟩, by simp only [intOf]; omega⟩
  ·obtain rfl : em = k := by omega
   have hte : es.take em = es := by rw [← HEM.out]; exact List.take_of_length_le (Nat.le_refl _)
   rw [hte] at HNO hlb hll ⊢
   have HV := Lib.hid (sumV_no (a := z0) HNO.out)
   clear hte htl
   generalize lsum (msgE F p but es) = s at *
   have HCV := Lib.hid (fun x y : Int => @congrArg Int Ending x y fun z => Ending.returned (.int .i64 z))
   go_wp2_with fail
   all_goals
    go_ret
    exact ⟨by rw [HV.out]; unfold clampV; exact HCV.out _ _ (by omega), HW.out⟩
structure BI (n : Nat) (rows : List (List Int)) (inp : List Int) : Prop where
 nn : n ≤ 256
 rl : rows.length ≤ 256
 br : BitRows n rows
 il : inp.length = n
 ib : ∀ k, -1048576 ≤ inp.getD k 0 ∧ inp.getD k 0 ≤ 1048576
def zdM (rows : List (List Int)) (n : Nat) (k : Nat) : List (List Int) := (List.range k).map fun j => List.replicate (onesTo (rows.getD j []) n).length 0
theorem zdM_len (rows : List (List Int)) (n k : Nat) : (zdM rows n k).length = k := by simp [zdM]
theorem zdM_succ (rows : List (List Int)) (n k : Nat) : zdM rows n (k + 1) = zdM rows n k ++ [List.replicate (onesTo (rows.getD k []) n).length 0] := by unfold zdM; rw [List.range_succ, List.map_append]; rfl
theorem zdM_full (rows : List (List Int)) (n : Nat) : zdM rows n rows.length = dnM rows n (fun _ _ => 0) := List.map_congr_left fun j _ => by
 unfold dnL; rw [List.map_const']
def RetR (w : World) (xss : List (List Int)) (e : Ending) (w' : World) : Prop := ∃ u gs, e = .returned u ∧ OR w.heap.size w' u gs xss ∧ Below w.heap.size w w'
set_option maxHeartbeats 16000000 in
theorem gmsg_any (w : World) (g n : Nat) (rows : List (List Int)) (h : GR w g (cksTo rows n rows.length) (atTo rows n rows.length 0)) (hn : n ≤ 256) (hr : rows.length ≤ 256) :
  Calls Try.prog 21 #[.pointer (some ⟨g, 0, none⟩)] w (RetR w (dnM rows n (fun _ _ => 0))) := by
 obtain ⟨cv, gA, h0, h1, hs, he⟩ := h
 have HZF := Lib.hid (zdM_full rows n)
 have HSS := Lib.hid hs
 obtain ⟨CA, cc, rfl, _⟩ := hs
 rw [cksTo_len] at *
 generalize hrr : rows.length = r at *
 clear he h1
 have HO0 : Hid (OR w.heap.size w (.slice none 0 0) (fun _ => 0) (zdM rows n 0)) := hid' (OR.nil _ _ _)
 go_enter Try.func21, Try.ntmps21
 go_wp2_with fail
 go_loopw [3, 11] (fun u i wr => ∃ (k : Nat) (OA : Option Addr) (oc : Nat) (gs : Nat → Nat), k ≤ r ∧ i = .int .i64 (k : Int) ∧ u = .slice OA k oc ∧ Hid (OR w.heap.size wr (.slice OA k oc) gs (zdM rows n k)) ∧ Hid (Below w.heap.size w wr)) (fun _ i _ => r - (intOf i).toNat)
 case atStart => exact ⟨0, none, 0, _, Nat.zero_le _, rfl, rfl, HO0, bl_refl _⟩
 case round =>
  clear HO0
  obtain ⟨k, OA, oc, gs, hk, rfl, rfl, HO, HB⟩ := hrel
  by_cases hkr : k < r
  ·obtain ⟨ra, Ak, ck, row, rfl, hd, HRR, HRE⟩ := (HSS.out.below HB.out (Nat.le_refl _)).eltA (k := k) (by rw [cksTo_len]; exact hkr)
   have hre := HRE.out
   rw [cksTo_getD hkr] at hre
   have hL := onesTo_len (rows.getD k []) n
   rw [hre] at hL
   have HNX : Hid (zdM rows n (k + 1) = zdM rows n k ++ [List.replicate row.length 0]) := hid' (by show _ = _; rw [zdM_succ, hre])
   have HZL := Lib.hid (zdM_len rows n k)
   clear hre HRE HRR
   generalize row.length = L at *
   have hmk := fun (w : World) => run_mkI L (by omega) w
   have HX := Lib.hid (RI.made wr L)
   have hsz := HB.out.size
   have HOa := Lib.hid ((HO.out.alloc (.cells (madeCells #[.int .i64 0] L) 3)))
   have HBa := Lib.hid (HB.out.alloc hsz (.cells (madeCells #[.int .i64 0] L) 3))
   have hda := cell_below (bl_alloc wr (.cells (madeCells #[.int .i64 0] L) 3)) hd
   have hs1 : (wr.alloc (.cells (madeCells #[.int .i64 0] L) 3)).heap.size = wr.heap.size + 1 := World.size_alloc _ _
   have HNO : Hid ((Value.slice OA k oc).ownBlock ≠ some wr.heap.size) := hid' fun e => by have := (HO.out.lt e).2; omega
   have HNJ : Hid (∀ j, j < (zdM rows n k).length → gs j ≠ wr.heap.size) := hid' fun j hj e => by have := (HO.out.row j hj).lt; omega
   have HGX : Hid (w.heap.size ≤ wr.heap.size) := hid' hsz
   have hbx := box1 (w := wr.alloc (.cells (madeCells #[.int .i64 0] L) 3)) (u := .slice (some ⟨wr.heap.size, 0, none⟩) L L) (t := 25)
   rw [hs1] at hbx
   have HBX := Lib.hid hbx
   have HOb := Lib.hid (HOa.out.alloc (.cells #[.slice (some ⟨wr.heap.size, 0, none⟩) L L] 25))
   have HXb := Lib.hid (HX.out.alloc (.cells #[.slice (some ⟨wr.heap.size, 0, none⟩) L L] 25))
   have HBb := Lib.hid (HBa.out.alloc HBa.out.size (.cells #[.slice (some ⟨wr.heap.size, 0, none⟩) L L] 25))
   have HUP := Lib.hid (up_alloc (B := w.heap.size) HBa.out.size (.cells #[.slice (some ⟨wr.heap.size, 0, none⟩) L L] 25))
   clear hsz HO HB hs1 hbx HOa HX HBa
   go_wp2_with (at_builtin; refine wpList_pushR rfl _ _ rfl w.heap.size _ gs (zdM rows n k) rfl HOb.out (wr.heap.size + 1) 1 wr.heap.size (List.replicate L 0) rfl (by rw [List.length_replicate]; exact HBX.out) HXb.out HGX.out HNO.out HNJ.out (by rw [HZL.out]; omega) HUP.out ?_; (intro v5 w5 ho5 hg5 hv5); go_must (have HB5 := Lib.hid (HOb.out.bgrown HBb.out HUP.out hg5); rw [← HNX.out] at ho5; obtain ⟨A5, c5, rfl⟩ := ho5.form; rw [zdM_len] at ho5 ⊢; have HO5 := Lib.hid ho5; clear ho5 hg5 hv5))
   exact ⟨⟨k + 1, A5, c5, _, by omega, by push_cast; rfl, rfl, HO5, HB5⟩, by simp only [intOf]; omega⟩
  ·obtain rfl : k = r := by omega
   rw [HZF.out] at HO
   go_wp2_with fail
   go_ret
   exact ⟨_, gs, rfl, HO.out, HB.out⟩
set_option maxHeartbeats 16000000 in
theorem gbel_any (w : World) (g n : Nat) (iv dv : Value) (rows : List (List Int)) (inp : List Int) (F : Nat → Nat → Int) (h : GR w g (cksTo rows n rows.length) (atTo rows n rows.length 0)) (hi : SI w iv inp) (hd : SS w dv (dnM rows n F))
  (hF : ∀ j p, -cer ≤ F j p ∧ F j p ≤ cer) (hb : BI n rows inp) :
  Calls Try.prog 23 #[.pointer (some ⟨g, 0, none⟩), iv, dv] w (RetO w (belL rows n inp F)) := by
 have HCL := Lib.hid (fun w' (hw : Below w.heap.size w w') p (hp : p < n) => gsum_any w' g n p (-1) iv dv rows inp F (h.below hw (Nat.le_refl _)) (hi.below hw (Nat.le_refl _)) (hd.below hw (Nat.le_refl _)) hF hp hb.nn hb.rl hb.il hb.ib)
 have hnn := hb.nn
 obtain ⟨IA, ic, rfl, _⟩ := hi
 rw [hb.il] at *
 obtain ⟨DA, dc, rfl, _⟩ := hd
 rw [dnM_len] at *
 have HBE : Hid (belL rows n inp F = rowOf n fun p => sumV (inp.getD p 0) (inTo rows F p (-1) rows.length)) := rfl
 clear h hF hb
 generalize rows.length = r at *
 have hmk := fun (w : World) => run_mkI n (by omega) w
 have HX := Lib.hid (RI.made w n)
 have HBa := Lib.hid (bl_alloc w (.cells (madeCells #[.int .i64 0] n) 3))
 go_enter Try.func23, Try.ntmps23
 go_wp2_with fail
 clear hmk
 generalize w.alloc (.cells (madeCells #[.int .i64 0] n) 3) = w0 at *
 go_loopw [14] (fun i wr => ∃ k : Nat, k ≤ n ∧ i = .int .i64 (k : Int) ∧ Hid (RI wr w.heap.size (fillTo n (fun p => sumV (inp.getD p 0) (inTo rows F p (-1) r)) (fun _ => 0) k)) ∧ Hid (Below w.heap.size w wr)) (fun i _ => n - (intOf i).toNat)
 case atStart => exact ⟨0, Nat.zero_le _, rfl, by rw [fillTo_zero, rowOf_zero]; exact HX, HBa⟩
 case round =>
  clear HX HBa
  obtain ⟨k, hk, rfl, HX, HB⟩ := hrel
  by_cases hkn : k < n
  ·have HFS := Lib.hid (fillTo_set (f := fun p => sumV (inp.getD p 0) (inTo rows F p (-1) r)) (g := fun _ => 0) hkn)
   go_wp2_with fail
   refine (HCL.out _ HB.out k hkn).mono ?_
   rintro e w1 ⟨rfl, hb1⟩
   have HX1 := Lib.hid (HX.out.belowS hb1)
   have HB1 := Lib.hid (bl_trans HB.out hb1)
   have d1 := HX1.out.cell k (by rw [fillTo_len]; exact hkn)
   rw [fillTo_getD hkn] at d1
   have f1 := HX1.out.frozen k
   have HX2 := Lib.hid (HX1.out.set k (sumV (inp.getD k 0) (inTo rows F k (-1) r)))
   rw [HFS.out] at HX2
   have HB2 := Lib.hid (HB1.out.setCell (p := ⟨w.heap.size, k, none⟩) (Nat.le_refl _) (.int .i64 (sumV (inp.getD k 0) (inTo rows F k (-1) r))))
   clear hb1 HX HB
   generalize sumV (inp.getD k 0) (inTo rows F k (-1) r) = s at *
   go_wp2_with fail
   exact ⟨⟨k + 1, by omega, by push_cast; rfl, HX2, HB2⟩, by simp only [intOf]; omega⟩
  ·obtain rfl : n = k := by omega
   rw [fillTo_full, ← HBE.out] at HX
   have HL : Hid ((belL rows n inp F).length = n) := by show _ = _; unfold belL; rw [rowOf_len]
   go_wp2_with fail
   go_ret
   have := HX.out.oi (B := w.heap.size) (Nat.le_refl _) (by rw [HL.out]; omega)
   rw [HL.out] at this
   exact ⟨_, rfl, this, HB.out⟩
theorem decL_fill (l : List Int) : decL l = rowOf l.length fun p => if l.getD p 0 < 0 then 1 else 0 := by
 refine List.ext_getElem (by simp [decL, rowOf]) fun i h1 h2 => ?_
 have h3 : i < l.length := by simpa [decL] using h1
 simp [decL, rowOf, List.getD, h3]
set_option maxHeartbeats 8000000 in
theorem mdec_any (w : World) (v : Value) (l : List Int) (hv : SI w v l) : Calls Try.prog 25 #[v] w (RetO w (decL l)) := by
 obtain ⟨A, c, rfl, hl⟩ := hv
 have hn := hl.len
 have HL := Lib.hid hl.si; clear hl
 have HDE := Lib.hid (decL_fill l)
 generalize hm : l.length = m at *
 have HM := Lib.hid hm; clear hm
 have hmk := fun (w : World) => run_mkI m (by omega) w
 have HX := Lib.hid (RI.made w m)
 have HBa := Lib.hid (bl_alloc w (.cells (madeCells #[.int .i64 0] m) 3))
 go_enter Try.func25, Try.ntmps25
 go_wp2_with fail
 clear hmk
 generalize w.alloc (.cells (madeCells #[.int .i64 0] m) 3) = w0 at *
 go_loopw [11] (fun i wr => ∃ k : Nat, k ≤ m ∧ i = .int .i64 (k : Int) ∧ Hid (RI wr w.heap.size (fillTo m (fun p => if l.getD p 0 < 0 then 1 else 0) (fun _ => 0) k)) ∧ Hid (Below w.heap.size w wr)) (fun i _ => m - (intOf i).toNat)
 case atStart => exact ⟨0, Nat.zero_le _, rfl, by rw [fillTo_zero, rowOf_zero]; exact HX, HBa⟩
 case round =>
  clear HX HBa
  obtain ⟨k, hk, rfl, HX, HB⟩ := hrel
  by_cases hkm : k < m
  ·obtain ⟨ad, x, rfl, hc, _, HXE⟩ := (HL.out.below HB.out (Nat.le_refl _)).elt (k := k) (by rw [HM.out]; exact hkm)
   by_cases hx : x < 0
   ·have hd : decide (x < 0) = true := decide_eq_true hx
    have HFS : Hid ((fillTo m (fun p => if l.getD p 0 < 0 then 1 else 0) (fun _ => 0) k).set k 1 = fillTo m (fun p => if l.getD p 0 < 0 then 1 else 0) (fun _ => 0) (k + 1)) := hid' (by
     show _ = _
     rw [← fillTo_set hkm, HXE.out, if_pos hx])
    have d1 := HX.out.cell k (by rw [fillTo_len]; exact hkm)
    have f1 := HX.out.frozen k
    have HX2 := Lib.hid (HX.out.set k 1)
    rw [HFS.out] at HX2
    have HB2 := Lib.hid (HB.out.setCell (p := ⟨w.heap.size, k, none⟩) (Nat.le_refl _) (.int .i64 1))
    generalize (fillTo m (fun p => if l.getD p 0 < 0 then 1 else 0) (fun _ => 0) k).getD k 0 = y at *
    clear HFS hx
    go_wp2_with fail
    exact ⟨⟨k + 1, by omega, by push_cast; rfl, HX2, HB2⟩, by simp only [intOf]; omega⟩
   ·have hd : decide (x < 0) = false := decide_eq_false hx
    have HFS := Lib.hid (fillTo_stay (N := m) (f := fun p => if l.getD p 0 < 0 then (1 : Int) else 0) (g := fun _ => 0) (k := k) (fun _ => by rw [HXE.out, if_neg hx]))
    clear hx
    go_wp2_with fail
    exact ⟨⟨k + 1, by omega, by push_cast; rfl, by rw [HFS.out]; exact HX, HB⟩, by simp only [intOf]; omega⟩
  ·obtain rfl : m = k := by omega
   rw [fillTo_full, ← HDE.out] at HX
   have HLN : Hid ((decL l).length = m) := by show _ = _; unfold decL; rw [List.length_map, HM.out]
   go_wp2_with fail
   go_ret
   have := HX.out.oi (B := w.heap.size) (Nat.le_refl _) (by rw [HLN.out]; omega)
   rw [HLN.out] at this
   exact ⟨_, rfl, this, HB.out⟩
set_option maxHeartbeats 8000000 in
theorem rdec_any (w : World) (v : Value) (l : List Int) (hv : SI w v l) : Calls Try.prog 12 #[v] w (RetO w (decL l)) := by
 obtain ⟨A, c, rfl, hl⟩ := hv
 have hn := hl.len
 have HL := Lib.hid hl.si; clear hl
 have HDE := Lib.hid (decL_fill l)
 generalize hm : l.length = m at *
 have HM := Lib.hid hm; clear hm
 have hmk := fun (w : World) => run_mkI m (by omega) w
 have HX := Lib.hid (RI.made w m)
 have HBa := Lib.hid (bl_alloc w (.cells (madeCells #[.int .i64 0] m) 3))
 go_enter Try.func12, Try.ntmps12
 go_wp2_with fail
 clear hmk
 generalize w.alloc (.cells (madeCells #[.int .i64 0] m) 3) = w0 at *
 go_loopw [4] (fun i wr => ∃ k : Nat, k ≤ m ∧ i = .int .i64 (k : Int) ∧ Hid (RI wr w.heap.size (fillTo m (fun p => if l.getD p 0 < 0 then 1 else 0) (fun _ => 0) k)) ∧ Hid (Below w.heap.size w wr)) (fun i _ => m - (intOf i).toNat)
 case atStart => exact ⟨0, Nat.zero_le _, rfl, by rw [fillTo_zero, rowOf_zero]; exact HX, HBa⟩
 case round =>
  clear HX HBa
  obtain ⟨k, hk, rfl, HX, HB⟩ := hrel
  by_cases hkm : k < m
  ·obtain ⟨ad, x, rfl, hc, _, HXE⟩ := (HL.out.below HB.out (Nat.le_refl _)).elt (k := k) (by rw [HM.out]; exact hkm)
   by_cases hx : x < 0
   ·have hd : decide (x < 0) = true := decide_eq_true hx
    have HFS : Hid ((fillTo m (fun p => if l.getD p 0 < 0 then 1 else 0) (fun _ => 0) k).set k 1 = fillTo m (fun p => if l.getD p 0 < 0 then 1 else 0) (fun _ => 0) (k + 1)) := hid' (by
     show _ = _
     rw [← fillTo_set hkm, HXE.out, if_pos hx])
    have d1 := HX.out.cell k (by rw [fillTo_len]; exact hkm)
    have f1 := HX.out.frozen k
    have HX2 := Lib.hid (HX.out.set k 1)
    rw [HFS.out] at HX2
    have HB2 := Lib.hid (HB.out.setCell (p := ⟨w.heap.size, k, none⟩) (Nat.le_refl _) (.int .i64 1))
    generalize (fillTo m (fun p => if l.getD p 0 < 0 then 1 else 0) (fun _ => 0) k).getD k 0 = y at *
    clear HFS hx
    go_wp2_with fail
    exact ⟨⟨k + 1, by omega, by push_cast; rfl, HX2, HB2⟩, by simp only [intOf]; omega⟩
   ·have hd : decide (x < 0) = false := decide_eq_false hx
    have HFS := Lib.hid (fillTo_stay (N := m) (f := fun p => if l.getD p 0 < 0 then (1 : Int) else 0) (g := fun _ => 0) (k := k) (fun _ => by rw [HXE.out, if_neg hx]))
    clear hx
    go_wp2_with fail
    exact ⟨⟨k + 1, by omega, by push_cast; rfl, by rw [HFS.out]; exact HX, HB⟩, by simp only [intOf]; omega⟩
  ·obtain rfl : m = k := by omega
   rw [fillTo_full, ← HDE.out] at HX
   have HLN : Hid ((decL l).length = m) := by show _ = _; unfold decL; rw [List.length_map, HM.out]
   go_wp2_with fail
   go_ret
   have := HX.out.oi (B := w.heap.size) (Nat.le_refl _) (by rw [HLN.out]; omega)
   rw [HLN.out] at this
   exact ⟨_, rfl, this, HB.out⟩
theorem for_none {rows : List (List Int)} {n : Nat} {j : Nat} (h : forTo rows n j = none) : ∀ {k}, j ≤ k → forTo rows n k = none
 | 0, hk => by
  obtain rfl : j = 0 := by omega
  exact h
 | k + 1, hk => by
  by_cases e : j = k + 1
  ·rw [← e]; exact h
  ·rw [forTo, for_none h (k := k) (by omega)]; rfl
theorem join_none {row : List Int} {n j i : Nat} {l : List Int} (h : joinTo row n j i l = none) : ∀ {k}, i ≤ k → joinTo row n j k l = none
 | 0, hk => by
  obtain rfl : i = 0 := by omega
  exact h
 | k + 1, hk => by
  by_cases e : i = k + 1
  ·rw [← e]; exact h
  ·rw [joinTo, join_none h (k := k) (by omega)]; rfl
theorem join_len {row : List Int} {n j : Nat} : ∀ {k : Nat} {l l' : List Int}, joinTo row n j k l = some l' → l'.length = l.length
 | 0, l, l', h => by rw [← Option.some.inj h]
 | k + 1, l, l', h => by
  rw [joinTo] at h
  cases hq : joinTo row n j k l with
  | none => rw [hq] at h; cases h
  | some l1 =>
   rw [hq] at h
   replace h : (if row.getD k 0 = 0 then some l1 else if l1.getD k 0 = l1.getD (n + j) 0 then none else some (mrg l1 (l1.getD k 0) (l1.getD (n + j) 0))) = some l' := h
   have ih := join_len hq
   split at h
   ·rw [← Option.some.inj h]; exact ih
   ·split at h
    ·cases h
    ·rw [← Option.some.inj h, mrg_len]; exact ih
theorem for_len {rows : List (List Int)} {n : Nat} : ∀ {j : Nat} {l : List Int}, forTo rows n j = some l → l.length = n + rows.length
 | 0, l, h => by rw [← Option.some.inj h, rowOf_len]
 | j + 1, l, h => by
  rw [forTo] at h
  cases hq : forTo rows n j with
  | none => rw [hq] at h; cases h
  | some l1 =>
   rw [hq] at h
   rw [join_len (show joinTo (rows.getD j []) n j n l1 = some l from h), for_len hq]
theorem join_step {row : List Int} {n j k : Nat} {l l1 : List Int} (h : joinTo row n j k l = some l1) : joinTo row n j (k + 1) l = if row.getD k 0 = 0 then some l1 else if l1.getD k 0 = l1.getD (n + j) 0 then none else some (mrg l1 (l1.getD k 0) (l1.getD (n + j) 0)) := by
 rw [joinTo, h]; rfl
theorem for_step {rows : List (List Int)} {n j : Nat} {l : List Int} (h : forTo rows n j = some l) : forTo rows n (j + 1) = joinTo (rows.getD j []) n j n l := by
 rw [forTo, h]; rfl
theorem mrg_row {l : List Int} {N : Nat} (h : l.length = N) (a b : Int) : rowOf N (fun p => if l.getD p 0 = a then b else l.getD p 0) = mrg l a b := by
 refine List.ext_getElem (by rw [rowOf_len, mrg_len, h]) fun i h1 h2 => ?_
 have h3 : i < l.length := by rw [mrg_len] at h2; exact h2
 simp [rowOf, mrg, List.getD, h3]
set_option maxHeartbeats 64000000 in
theorem forest_any (w : World) (n : Nat) (rv : Value) (rows : List (List Int)) (hv : SS w rv rows) (hb : BitRows n rows) (hrl : rows.length ≤ 256) (hnn : n ≤ 256) :
  Calls Try.prog 8 #[.agg #[.int .i64 (n : Int), rv]] w (RetB w (forestB rows n)) := by
 have HV := Lib.hid hv; have HBR := Lib.hid hb
 obtain ⟨RA, rc, rfl, _⟩ := HV.out
 clear hv hb
 have HFO : Hid (forestB rows n = (forTo rows n rows.length).isSome) := rfl
 generalize forestB rows n = ans at *
 have HF0 : Hid (forTo rows n 0 = some (rowOf (n + rows.length) fun i => (i : Int))) := rfl
 have HLE := Lib.hid (fun j l (h : forTo rows n j = some l) => for_len h)
 generalize hr : rows.length = r at *
 have HR := Lib.hid hr; clear hr
 obtain ⟨N, hN⟩ : ∃ N, N = n + r := ⟨_, rfl⟩
 rw [← hN] at HF0 HLE
 have hNN : (n : Int) + (r : Int) = (N : Int) := by rw [hN]; push_cast; rfl
 have hN2 : N ≤ 512 := by omega
 have hnN : n ≤ N := by omega
 have hwN : IntKind.i64.wrap ((n : Int) + (r : Int)) = (N : Int) := by rw [hNN]; exact IntWalk.i64_in _ (by omega)
 have hwN2 : wrap64 ((n : Int) + (r : Int)) = (N : Int) := by rw [hNN]; unfold wrap64; omega
 have hmk := fun (w : World) => run_mkI N (by omega) w
 have HRN : Hid (∀ j, j < r → n + j < N) := hid' fun j hj => by omega
 clear hN
 have HF := Lib.hid (MBox.mk' w n (.slice RA r rc))
 go_enter Try.func8, Try.ntmps8
 go_upto_region 1 with fail
 generalize w.alloc (.cells #[.int .i64 (n : Int), .slice RA r rc] 24) = w0 at *
 have d0 := HF.out.d0; have d1 := HF.out.d1
 have HX := Lib.hid (RI.made w0 N)
 have hal := bl_alloc w0 (.cells (madeCells #[.int .i64 0] N) 3)
 have HFa := Lib.hid (HF.out.on hal)
 have HGX : Hid (w.heap.size < w0.heap.size) := hid' HF.out.blk.lt
 clear hal HF
 go_wp2_with fail
 clear d0 d1 hmk hNN hwN hwN2
 generalize w0.alloc (.cells (madeCells #[.int .i64 0] N) 3) = w2 at *
 generalize hgx : w0.heap.size = gx at *
 clear hgx
 go_loopw [4] (fun i wr => ∃ k : Nat, k ≤ N ∧ i = .int .i64 (k : Int) ∧ Hid (RI wr gx (fillTo N (fun p => (p : Int)) (fun _ => 0) k)) ∧ Hid (MBox w wr n (.slice RA r rc))) (fun i _ => N - (intOf i).toNat)
 case atStart => exact ⟨0, Nat.zero_le _, rfl, by rw [fillTo_zero, rowOf_zero]; exact HX, HFa⟩
 case round =>
  clear HX HFa
  obtain ⟨k, hk, rfl, HX, HF⟩ := hrel
  by_cases hkN : k < N
  ·have u0 := HX.out.cell k (by rw [fillTo_len]; exact hkN)
   have uf := HX.out.frozen k
   have HX2 : Hid (RI (wr.setCell ⟨gx, k, none⟩ (.int .i64 (k : Int))) gx (fillTo N (fun p => (p : Int)) (fun _ => 0) (k + 1))) := hid' (by rw [← fillTo_set hkN]; exact HX.out.set k (k : Int))
   have HF2 := Lib.hid (HF.out.grown (gr_set1 wr gx k (.int .i64 (k : Int))) (fun q e => by have := Option.some.inj e; have := HGX.out; omega))
   clear HX HF
   generalize (fillTo N (fun p => (p : Int)) (fun _ => 0) k).getD k 0 = y at *
   go_wp2_with fail
   exact ⟨⟨k + 1, by omega, by push_cast; rfl, HX2, HF2⟩, by simp only [intOf]; omega⟩
  ·obtain rfl : N = k := by omega
   rw [fillTo_full] at HX
   go_wp2_with fail
   clear hk hkN
   go_loopw [5] (fun i wr => ∃ (j : Nat) (l : List Int), j ≤ r ∧ i = .int .i64 (j : Int) ∧ Hid (forTo rows n j = some l) ∧ Hid (RI wr gx l) ∧ Hid (MBox w wr n (.slice RA r rc))) (fun i _ => r - (intOf i).toNat)
   case atStart => exact ⟨0, _, Nat.zero_le _, rfl, HF0, HX, HF⟩
   case round =>
    clear HX HF
    obtain ⟨j, l, hj, rfl, HJ, HX, HF⟩ := hrel
    have d0 := HF.out.d0; have d1 := HF.out.d1
    by_cases hjr : j < r
    ·obtain ⟨ra, Ak, ck, row, rfl, hd0, HRR0, HRE⟩ := HV.out.eltA (k := j) (by rw [HR.out]; exact hjr)
     obtain ⟨hrl2, hrb⟩ := HBR.out j (by rw [HR.out]; exact hjr)
     rw [HRE.out] at hrl2 hrb
     have HRL := Lib.hid hrl2; have HRB := Lib.hid hrb; clear hrl2 hrb
     have HD0 := Lib.hid hd0; clear hd0
     have HJS : Hid (forTo rows n (j + 1) = joinTo row n j n l) := hid' (by rw [for_step HJ.out, HRE.out])
     have HLL := Lib.hid (HLE.out j l HJ.out)
     have hnj := HRN.out j hjr
     have hw1 : IntKind.i64.wrap ((n : Int) + (j : Int)) = ((n + j : Nat) : Int) := by rw [show (n : Int) + (j : Int) = ((n + j : Nat) : Int) by push_cast; rfl]; exact IntWalk.i64_in _ (by omega)
     have hw2 : (n : Int) + (j : Int) = ((n + j : Nat) : Int) := by push_cast; rfl
     obtain ⟨nj, hnjE⟩ : ∃ nj, nj = n + j := ⟨_, rfl⟩
     rw [← hnjE] at hnj hw1 hw2
     have HNJ := Lib.hid hnjE; clear hnjE
     go_wp2_with fail
     clear d0 d1
     go_loopw [6] (fun i wr => ∃ (p : Nat) (l1 : List Int), p ≤ n ∧ i = .int .i64 (p : Int) ∧ Hid (joinTo row n j p l = some l1) ∧ Hid (RI wr gx l1) ∧ Hid (MBox w wr n (.slice (some ra) r rc))) (fun i _ => n - (intOf i).toNat)
     case atStart => exact ⟨0, l, Nat.zero_le _, rfl, rfl, HX, HF⟩
     case round =>
      clear HX HF
      obtain ⟨p, l1, hp, rfl, HJ1, HX, HF⟩ := hrel
      have d0 := HF.out.d0; have d1 := HF.out.d1
      have HL1 : Hid (l1.length = N) := hid' ((join_len HJ1.out).trans HLL.out)
      by_cases hpn : p < n
      ·have hd := cell_below HF.out.bel HD0.out
       obtain ⟨rd, x, rfl, he, _, HXE⟩ := (HRR0.out.below HF.out.bel (Nat.le_refl _)).elt (k := p) (by rw [HRL.out]; exact hpn)
       have hrl3 : p < row.length := by rw [HRL.out]; exact hpn
       have HST := Lib.hid (join_step HJ1.out)
       rw [HXE.out, ← HNJ.out] at HST
       by_cases hx0 : x = 0
       ·have hxx : (x == 0) = true := by rw [beq_iff_eq]; exact hx0
        rw [if_pos hx0] at HST
        clear hx0
        go_wp2_with fail
        exact ⟨⟨p + 1, l1, by omega, by push_cast; rfl, HST, HX, HF⟩, by simp only [intOf]; omega⟩
       ·have hxx : (x == 0) = false := by rw [beq_eq_false_iff_ne]; exact hx0
        rw [if_neg hx0] at HST
        clear hx0
        have u0 := HX.out.cell p (by rw [HL1.out]; omega)
        have u1 := HX.out.cell nj (by rw [HL1.out]; omega)
        obtain ⟨a, ha⟩ : ∃ a, a = l1.getD p 0 := ⟨_, rfl⟩
        obtain ⟨b, hb⟩ : ∃ b, b = l1.getD nj 0 := ⟨_, rfl⟩
        rw [← ha] at u0 HST
        rw [← hb] at u1 HST
        clear ha hb
        have hpN : p < N := by omega
        by_cases hab : a = b
        ·have hbb : (a == b) = true := by rw [beq_iff_eq]; exact hab
         rw [if_pos hab] at HST
         have HANS : Hid (ans = false) := hid' (by
          show _ = _
          have h1 : forTo rows n (j + 1) = none := by rw [HJS.out]; exact join_none HST.out (by omega)
          rw [HFO.out, for_none h1 (by omega)]; rfl)
         clear hab
         go_wp2_with fail
         go_ret
         exact ⟨by rw [HANS.out]; rfl, HF.out.bel⟩
        ·have hbb : (a == b) = false := by rw [beq_eq_false_iff_ne]; exact hab
         rw [if_neg hab] at HST
         clear hab
         have HXS : Hid (RI wr gx (fillTo N (fun q => if l1.getD q 0 = a then b else l1.getD q 0) (fun q => l1.getD q 0) 0)) := hid' (by rw [fillTo_zero, rowOf_self HL1.out]; exact HX.out)
         have HMG := Lib.hid (mrg_row HL1.out a b)
         go_wp2_with fail
         clear u0 u1 d0 d1 hd he
         go_loopw [9] (fun i wr => ∃ (q : Nat), q ≤ N ∧ i = .int .i64 (q : Int) ∧ Hid (RI wr gx (fillTo N (fun q => if l1.getD q 0 = a then b else l1.getD q 0) (fun q => l1.getD q 0) q)) ∧ Hid (MBox w wr n (.slice (some ra) r rc))) (fun i _ => N - (intOf i).toNat)
         case atStart => exact ⟨0, Nat.zero_le _, rfl, HXS, HF⟩
         case round =>
          clear HX HF HXS
          obtain ⟨q, hq, rfl, HX, HF⟩ := hrel
          by_cases hqN : q < N
          ·have u0 := HX.out.cell q (by rw [fillTo_len]; exact hqN)
           rw [fillTo_getD hqN] at u0
           obtain ⟨y, hy⟩ : ∃ y, y = l1.getD q 0 := ⟨_, rfl⟩
           rw [← hy] at u0
           by_cases hya : y = a
           ·have hyb : (y == a) = true := by rw [beq_iff_eq]; exact hya
            have HX2 : Hid (RI (wr.setCell ⟨gx, q, none⟩ (.int .i64 b)) gx (fillTo N (fun q => if l1.getD q 0 = a then b else l1.getD q 0) (fun q => l1.getD q 0) (q + 1))) := hid' (by
             rw [← fillTo_set hqN, ← hy, if_pos hya]; exact HX.out.set q b)
            have HF2 := Lib.hid (HF.out.grown (gr_set1 wr gx q (.int .i64 b)) (fun q e => by have := Option.some.inj e; have := HGX.out; omega))
            have uf := HX.out.frozen q
            clear hy hya HX HF
            go_wp2_with fail
            exact ⟨⟨q + 1, by omega, by push_cast; rfl, HX2, HF2⟩, by simp only [intOf]; omega⟩
           ·have hyb : (y == a) = false := by rw [beq_eq_false_iff_ne]; exact hya
            have HX2 : Hid (RI wr gx (fillTo N (fun q => if l1.getD q 0 = a then b else l1.getD q 0) (fun q => l1.getD q 0) (q + 1))) := hid' (by
             rw [fillTo_stay (fun _ => by rw [← hy, if_neg hya])]; exact HX.out)
            clear hy hya
            go_wp2_with fail
            exact ⟨⟨q + 1, by omega, by push_cast; rfl, HX2, HF⟩, by simp only [intOf]; omega⟩
          ·obtain rfl : N = q := by omega
           rw [fillTo_full, HMG.out] at HX
           go_wp2_with fail
           exact ⟨⟨p + 1, _, by omega, by push_cast; rfl, HST, HX, HF⟩, by simp only [intOf]; omega⟩
      ·obtain rfl : n = p := by omega
       have HJN : Hid (forTo rows n (j + 1) = some l1) := hid' (HJS.out.trans HJ1.out)
       go_wp2_with fail
       exact ⟨⟨j + 1, l1, by omega, by push_cast; rfl, HJN, HX, HF⟩, by simp only [intOf]; omega⟩
    ·obtain rfl : r = j := by omega
     have HANS : Hid (ans = true) := hid' (by show _ = _; rw [HFO.out, HJ.out]; rfl)
     go_wp2_with fail
     go_ret
     exact ⟨by rw [HANS.out]; rfl, HF.out.bel⟩
set_option maxHeartbeats 4000000 in
theorem rOdd_any (w : World) (lv wv : Value) (row word : List Int) (hl : SI w lv row) (hw : SI w wv word) (hn : row.length = word.length) (hr : Bit row) (hb : Bit word) (hn2 : word.length ≤ 256) :
  Calls Try.prog 29 #[lv, wv] w (RetB w (oddF row word)) := by
 have HE : Hid (oddF row word = decide (dotN row word row.length % 2 = 1)) := rfl
 have HDB := Lib.hid (fun k => dotN_bd hr hb k)
 have HRB := Lib.hid hr; have HWB := Lib.hid hb
 have HL := Lib.hid hl; have HW := Lib.hid hw; clear hl hw hr hb
 obtain ⟨A, c, rfl, _⟩ := HL.out
 obtain ⟨B, d, rfl, _⟩ := HW.out
 rw [← hn] at hn2
 have HN := Lib.hid hn; clear hn
 go_enter Try.func29, Try.ntmps29
 go_wp2_with fail
 go_loopw [5, 6] (fun s i wr => ∃ k : Nat, k ≤ row.length ∧ i = .int .i64 (k : Int) ∧ s = .int .i64 (dotN row word k) ∧ Hid (Below w.heap.size w wr)) (fun _ i _ => row.length - (intOf i).toNat)
 case atStart => exact ⟨0, Nat.zero_le _, rfl, rfl, bl_refl _⟩
 case round =>
  obtain ⟨k, hk, rfl, rfl, HB⟩ := hrel
  have hsb := HDB.out k
  by_cases hlt : k < row.length
  ·obtain ⟨ad, x, rfl, hc, _, HX⟩ := (HL.out.below HB.out (Nat.le_refl _)).elt hlt
   obtain ⟨bd, y, rfl, hd, _, HY⟩ := (HW.out.below HB.out (Nat.le_refl _)).elt (k := k) (by rw [← HN.out]; exact hlt)
   have hxb := HRB.out k
   have hyb := HWB.out k
   rw [HX.out] at hxb
   rw [HY.out] at hyb
   have hkw : k < word.length := by rw [← HN.out]; exact hlt
   have HS : Hid (dotN row word (k + 1) = dotN row word k + x * y) := hid' (by show _ = _; rw [dotN, HX.out, HY.out])
   generalize dotN row word k = s at *
   obtain ⟨hs0, hs1⟩ := hsb
   have hw1 : IntKind.i64.wrap (x * y) = x * y := IntWalk.i64_in _ (by rcases hxb with h | h <;> rcases hyb with h2 | h2 <;> rw [h, h2] <;> omega)
   have hw2 : IntKind.i64.wrap (s + x * y) = s + x * y := IntWalk.i64_in _ (by rcases hxb with h | h <;> rcases hyb with h2 | h2 <;> rw [h, h2] <;> omega)
   clear hxb hyb
   go_wp2_with fail
   go_quiet (fail)
   go_wp2_with fail
   exact ⟨⟨k + 1, by omega, by push_cast; rfl, by rw [HS.out], bl_trans HB.out (bl_drewN _ _)⟩, by simp only [intOf]; omega⟩
  ·obtain rfl : row.length = k := by omega
   generalize dotN row word row.length = s at *
   obtain ⟨hs0, hs1⟩ := hsb
   by_cases ho : s % 2 = 1
   ·have hb : (s % 2 == 1) = true := by rw [beq_iff_eq]; exact ho
    have HE2 : Hid (oddF row word = true) := hid' (by rw [HE.out]; simpa using ho)
    clear ho
    go_wp2_with fail
    go_ret
    exact ⟨by rw [HE2.out]; rfl, HB.out⟩
   ·have hb : (s % 2 == 1) = false := by rw [beq_eq_false_iff_ne]; exact ho
    have HE2 : Hid (oddF row word = false) := hid' (by rw [HE.out]; simpa using ho)
    clear ho
    go_wp2_with fail
    go_ret
    exact ⟨by rw [HE2.out]; rfl, HB.out⟩
set_option maxHeartbeats 8000000 in
theorem rUnsat_any (w : World) (cols : Int) (n : Nat) (rv wv : Value) (rows : List (List Int)) (word : List Int) (hv : SS w rv rows) (hw : SI w wv word) (hm : MW n rows word) :
  Calls Try.prog 14 #[.agg #[.int .i64 cols, rv], wv] w (RetO w (unsTo rows word rows.length)) := by
 have HV := Lib.hid hv; have HW := Lib.hid hw; have HM := Lib.hid hm
 have hrl := hm.rl
 have hwl : word.length ≤ 256 := by rw [hm.wl]; exact hm.nn
 clear hv hw hm
 obtain ⟨RA, rc, rfl, _⟩ := HV.out
 have HF := Lib.hid (MBox.mk' w cols (.slice RA rows.length rc))
 generalize hr : rows.length = r at HF HV hrl ⊢
 have HR := Lib.hid hr; clear hr
 have HO0 : Hid (OI (w.heap.size + 1) (w.alloc (.cells #[.int .i64 cols, .slice RA r rc] 24)) (.slice none 0 0) (unsTo rows word 0)) := OI.nil _ _
 go_enter Try.func14, Try.ntmps14
 go_wp2_with fail
 go_loopw [5, 6] (fun u i wr => ∃ (k : Nat) (A : Option Addr) (m c : Nat), k ≤ r ∧ i = .int .i64 (k : Int) ∧ u = .slice A m c ∧ Hid (OI (w.heap.size + 1) wr u (unsTo rows word k)) ∧ Hid (MBox w wr cols (.slice RA r rc)) ∧ Hid (w.heap.size + 1 ≤ wr.heap.size)) (fun _ i _ => r - (intOf i).toNat)
 case atStart => exact ⟨0, none, 0, 0, Nat.zero_le _, rfl, rfl, HO0, HF, hid' (by rw [World.size_alloc]; omega)⟩
 case round =>
  clear HO0 HF
  obtain ⟨k, A, m, c, hk, rfl, rfl, HO, HF, HZ⟩ := hrel
  have d0 := HF.out.d0; have d1 := HF.out.d1
  by_cases hlt : k < r
  ·obtain ⟨ad, Ak, ck, x, rfl, hc, HX, HXE⟩ := (HV.out.below HF.out.bel (Nat.le_refl _)).eltA (k := k) (by rw [HR.out]; exact hlt)
   obtain ⟨hx1, hx2⟩ := HM.out.br k (by rw [HR.out]; exact hlt)
   rw [HXE.out] at hx1 hx2
   have HX1 := Lib.hid hx1; have HX2 := Lib.hid hx2; clear hx1 hx2
   go_wp2_with fail
   refine (rOdd_any _ _ wv x word HX.out.si (HW.out.below HF.out.bel (Nat.le_refl _)) (by rw [HX1.out, HM.out.wl]) HX2.out HM.out.wb hwl).mono ?_
   rintro e w3 ⟨rfl, hb3⟩
   have HF3 := Lib.hid (HF.out.on hb3)
   have HO3 := Lib.hid (HO.out.below hb3 (Nat.le_refl _))
   have HZ3 : Hid (w.heap.size + 1 ≤ w3.heap.size) := hid' (Nat.le_trans HZ.out hb3.size)
   clear hb3 d0 d1 hc
   cases ho : oddF x word
   ·have HU : Hid (unsTo rows word (k + 1) = unsTo rows word k) := unsTo_no (by rw [HXE.out]; exact ho)
    clear ho
    go_wp2_with fail
    exact ⟨⟨k + 1, A, m, c, by omega, by push_cast; rfl, rfl, by rw [HU.out]; exact HO3, HF3, HZ3⟩, by simp only [intOf]; omega⟩
   ·have HU : Hid (unsTo rows word (k + 1) = unsTo rows word k ++ [(k : Int)]) := unsTo_yes (by rw [HXE.out]; exact ho)
    clear ho
    have hul := unsTo_len rows word k
    have HP := Lib.hid (PushI.mk' (w0 := w) HO3.out HF3.out.bel HZ3.out (k : Int))
    have HFa := Lib.hid (HF3.out.on (bl_alloc w3 (.cells #[.int .i64 (k : Int)] 3)))
    go_wp2_with (at_builtin; refine wpList_pushI rfl _ _ rfl (w.heap.size + 1) _ (unsTo rows word k) rfl HP.out.own w3.heap.size 1 (k : Int) rfl HP.out.box (by omega) HP.out.up ?_; (intro v1 w5 ho hg); (rw [← HU.out] at ho; have HO5 := Lib.hid ho; have HF5 := Lib.hid (HFa.out.grown hg (fun q e => by have := (HP.out.own.lt e).1; omega)); have HZ5 : Hid (w.heap.size + 1 ≤ w5.heap.size) := hid' (Nat.le_trans HP.out.up hg.size); clear ho hg))
    obtain ⟨A5, c5, rfl⟩ := HO5.out.form'
    exact ⟨⟨k + 1, A5, _, c5, by omega, by push_cast; rfl, rfl, HO5, HF5, HZ5⟩, by simp only [intOf]; omega⟩
  ·obtain rfl : r = k := by omega
   go_wp2_with fail
   go_ret
   exact ⟨_, rfl, HO.out.mono (by omega), HF.out.bel⟩
set_option maxHeartbeats 8000000 in
theorem w01_any (w : World) (n x : Nat) (hn : n ≤ 256) (hx : x ≤ 1000000000) : Calls Try.prog 24 #[.int .i64 (n : Int), .int .i64 (x : Int)] w (RetO w (w01 n x)) := by
 obtain ⟨f, hf⟩ : ∃ f : Nat → Int, f = fun k => ((x / 2 ^ k % 2 : Nat) : Int) := ⟨_, rfl⟩
 have HW : Hid (w01 n x = rowOf n f) := hid' (by show _ = _; rw [hf]; rfl)
 have HF : Hid (∀ k, f k = ((x / 2 ^ k % 2 : Nat) : Int)) := hid' fun k => by rw [hf]
 have HWL := Lib.hid (w01_len n x)
 generalize w01 n x = wx at *
 clear hf
 have hmk := fun (w : World) => run_mkI n (by omega) w
 have HX := Lib.hid (RI.made w n)
 have HBa := Lib.hid (bl_alloc w (.cells (madeCells #[.int .i64 0] n) 3))
 have hx0 : Hid (x = x / 2 ^ 0) := hid' (by simp)
 go_enter Try.func24, Try.ntmps24
 go_wp2_with fail
 clear hmk
 generalize w.alloc (.cells (madeCells #[.int .i64 0] n) 3) = w0 at *
 go_loopw [1, 6] (fun xv i wr => ∃ k a : Nat, k ≤ n ∧ a ≤ x ∧ i = .int .i64 (k : Int) ∧ xv = .int .i64 (a : Int) ∧ Hid (a = x / 2 ^ k) ∧ Hid (RI wr w.heap.size (fillTo n f (fun _ => 0) k)) ∧ Hid (Below w.heap.size w wr)) (fun _ i _ => n - (intOf i).toNat)
 case atStart => exact ⟨0, x, Nat.zero_le _, Nat.le_refl _, rfl, rfl, hx0, by rw [fillTo_zero, rowOf_zero]; exact HX, HBa⟩
 case round =>
  clear HX HBa hx0
  obtain ⟨k, a, hk, hax, rfl, rfl, HA, HX, HB⟩ := hrel
  by_cases hkn : k < n
  ·obtain ⟨d, hd⟩ : ∃ d, d = a % 2 := ⟨_, rfl⟩
   obtain ⟨b, hb⟩ : ∃ b, b = a / 2 := ⟨_, rfl⟩
   have hrem : ((a : Int) % 2) = (d : Int) := by rw [hd]; omega
   have hquo : ((a : Int) / 2) = (b : Int) := by rw [hb]; omega
   have HBN : Hid (b = x / 2 ^ (k + 1)) := hid' (by rw [hb, HA.out, Nat.pow_succ, Nat.div_div_eq_div_mul])
   have hbx : b ≤ x := by omega
   have HFK : Hid (f k = (d : Int)) := hid' (by show _ = _; rw [HF.out, hd, HA.out])
   have u0 := HX.out.cell k (by rw [fillTo_len]; exact hkn)
   have uf := HX.out.frozen k
   have HX2 : Hid (RI (wr.setCell ⟨w.heap.size, k, none⟩ (.int .i64 (d : Int))) w.heap.size (fillTo n f (fun _ => 0) (k + 1))) := hid' (by rw [← fillTo_set hkn, HFK.out]; exact HX.out.set k (d : Int))
   have HB2 := Lib.hid (HB.out.setCell (p := ⟨w.heap.size, k, none⟩) (Nat.le_refl _) (.int .i64 (d : Int)))
   clear hd hb HX HB HA
   generalize (fillTo n f (fun _ => 0) k).getD k 0 = y at *
   go_wp2_with fail
   exact ⟨⟨k + 1, b, by omega, hbx, by push_cast; rfl, rfl, HBN, HX2, HB2⟩, by simp only [intOf]; omega⟩
  ·obtain rfl : n = k := by omega
   rw [fillTo_full, ← HW.out] at HX
   go_wp2_with fail
   go_ret
   have := HX.out.oi (B := w.heap.size) (Nat.le_refl _) (by rw [HWL.out]; omega)
   rw [HWL.out] at this
   exact ⟨_, rfl, this, HB.out⟩
theorem costL_bd {w inp : List Int} (hw : Bit w) (hb : ∀ k, -1048576 ≤ inp.getD k 0 ∧ inp.getD k 0 ≤ 1048576) (k : Nat) : -(1048576 * (k : Int)) ≤ costL w inp k ∧ costL w inp k ≤ 1048576 * (k : Int) := by
 rw [costL_cst hw]; exact cst_bd hb _ _
theorem lst_bd {rows : List (List Int)} {n : Nat} {inp : List Int} (hb : ∀ k, -1048576 ≤ inp.getD k 0 ∧ inp.getD k 0 ≤ 1048576) (hn : n ≤ 256) (i : Nat) (b : Int) : ∀ X, -268435456 ≤ lstTo rows n inp i b X ∧ lstTo rows n inp i b X ≤ 1125899906842624
 | 0 => by rw [lstTo]; omega
 | X + 1 => by
  have ih := lst_bd (rows := rows) hb hn i b X
  have hc := costL_bd (w01_bit n X) hb n
  rw [lstTo]; split <;> omega
theorem pow10_le {k n : Nat} (h : k ≤ n) (hn : n ≤ 10) : 2 ^ k ≤ 1024 := by
 have : 2 ^ k ≤ 2 ^ 10 := Nat.pow_le_pow_right (by omega) (by omega)
 omega
theorem exa_uns {rows : List (List Int)} {n : Nat} {inp : List Int} {i : Nat} {b : Int} {x : Nat} (h : unsTo rows (w01 n x) rows.length ≠ []) : lstTo rows n inp i b (x + 1) = lstTo rows n inp i b x := by
 rw [lstTo, if_neg (fun e => h e.1)]
theorem exa_sat {rows : List (List Int)} {n : Nat} {inp : List Int} {i : Nat} {b : Int} {x : Nat} (h : unsTo rows (w01 n x) rows.length = []) : lstTo rows n inp i b (x + 1) = if (w01 n x).getD i 0 = b then min (lstTo rows n inp i b x) (costL (w01 n x) inp n) else lstTo rows n inp i b x := by
 rw [lstTo]
 by_cases e : (w01 n x).getD i 0 = b
 ·rw [if_pos ⟨h, e⟩, if_pos e]
 ·rw [if_neg (fun e2 => e e2.2), if_neg e]
set_option maxHeartbeats 32000000 in
theorem exact_any (w : World) (n i : Nat) (rv iv : Value) (rows : List (List Int)) (inp : List Int) (hv : SS w rv rows) (hi : SI w iv inp) (hb : BI n rows inp) (hn : n ≤ 10) (hin : i < n) :
  Calls Try.prog 10 #[.agg #[.int .i64 (n : Int), rv], iv, .int .i64 (i : Int)] w (RetI w (exaF rows n inp i)) := by
 have HV := Lib.hid hv; have HI := Lib.hid hi; have HBI := Lib.hid hb
 have HIP := Lib.hid hb.ib
 obtain ⟨RA, rc, rfl, _⟩ := HV.out
 obtain ⟨IA, ic, rfl, _⟩ := HI.out
 have HIL := Lib.hid hb.il
 generalize hil : inp.length = il at *
 have hiln : il = n := HIL.out
 obtain ⟨T, hT⟩ : ∃ T, T = 2 ^ n := ⟨_, rfl⟩
 have hT10 : T ≤ 1024 := by rw [hT]; exact pow10_le (Nat.le_refl _) hn
 have HEX : Hid (exaF rows n inp i = if lstTo rows n inp i 1 T = 1125899906842624 then cer else lstTo rows n inp i 1 T - lstTo rows n inp i 0 T) := hid' (by show _ = _; rw [hT]; rfl)
 have HTT := Lib.hid hT
 have HL0 : Hid (∀ b, lstTo rows n inp i b 0 = 1125899906842624) := hid' fun b => rfl
 have HLU := Lib.hid (fun b x (h : unsTo rows (w01 n x) rows.length ≠ []) => exa_uns (inp := inp) (i := i) (b := b) h)
 have HLS := Lib.hid (fun b x (h : unsTo rows (w01 n x) rows.length = []) => exa_sat (inp := inp) (i := i) (b := b) h)
 have HLB := Lib.hid (fun b X => lst_bd (rows := rows) HIP.out (by omega : n ≤ 256) i b X)
 have HUN := Lib.hid (fun (w' : World) (u : Value) (x : Nat) (h1 : SS w' (.slice RA rows.length rc) rows) (hu : SI w' u (w01 n x)) => rUnsat_any w' n n (.slice RA rows.length rc) u rows (w01 n x) h1 hu ⟨hb.nn, hb.rl, hb.br, w01_len _ _, w01_bit _ _⟩)
 have HUL := Lib.hid (fun x => unsTo_len rows (w01 n x) rows.length)
 clear hv hi hb hT
 generalize exaF rows n inp i = ans at *
 generalize lstTo rows n inp i = LT at *
 generalize hr : rows.length = r at *
 clear hr
 have HF := Lib.hid (MBox.mk' w n (.slice RA r rc))
 have HB0 := Lib.hid (Blk.new (w.alloc (.cells #[.int .i64 (n : Int), .slice RA r rc] 24)) 3 [.int .i64 1125899906842624, .int .i64 1125899906842624])
 have HF0 := Lib.hid (HF.out.on (bl_alloc (w.alloc (.cells #[.int .i64 (n : Int), .slice RA r rc] 24)) (.cells #[.int .i64 1125899906842624, .int .i64 1125899906842624] 3)))
 have HGX : Hid (w.heap.size < w.heap.size + 1) := hid' (by omega)
 rw [World.size_alloc] at HB0
 go_enter Try.func10, Try.ntmps10
 go_upto_region 2 with fail
 generalize (w.alloc (.cells #[.int .i64 (n : Int), .slice RA r rc] 24)).alloc (.cells #[.int .i64 1125899906842624, .int .i64 1125899906842624] 3) = w0 at *
 clear HF
 have HX : Hid (RI w0 (w.heap.size + 1) [LT 0 0, LT 1 0]) := hid' (by rw [HL0.out, HL0.out]; exact HB0.out)
 clear HB0
 generalize hgl : w.heap.size + 1 = gl at *
 clear hgl
 have d0 := HF0.out.d0; have d1 := HF0.out.d1
 go_wp2_with fail
 go_loop [8, 9] (fun t k => ∃ (j a : Nat), j ≤ n ∧ a ≤ 1024 ∧ k = .int .i64 (j : Int) ∧ t = .int .i64 (a : Int) ∧ Hid (a = 2 ^ j)) (fun _ k => n - (intOf k).toNat)
 case atStart => exact ⟨0, 1, Nat.zero_le _, by omega, rfl, rfl, hid' rfl⟩
 case round =>
  obtain ⟨j, a, hj, ha, rfl, rfl, HA⟩ := hrel
  by_cases hjn : j < n
  ·have h2 : 2 ^ (j + 1) ≤ 1024 := pow10_le (by omega) hn
   have HA2 : Hid (a * 2 = 2 ^ (j + 1)) := hid' (by rw [HA.out, Nat.pow_succ])
   have ha2 : a * 2 ≤ 1024 := by rw [HA2.out]; exact h2
   clear h2
   obtain ⟨b, hb⟩ : ∃ b, b = a * 2 := ⟨_, rfl⟩
   rw [← hb] at HA2 ha2
   have hw1 : (a : Int) * 2 = (b : Int) := by omega
   clear hb
   go_wp2_with fail
   exact ⟨⟨j + 1, b, by omega, ha2, by push_cast; rfl, rfl, HA2⟩, by simp only [intOf]; omega⟩
  ·obtain rfl : n = j := by omega
   have haT : a = T := by rw [HA.out, HTT.out]
   subst haT
   go_wp2_with fail
   clear d0 d1 hj ha hjn HA HTT
   go_loopw [10] (fun xv wr => ∃ x : Nat, x ≤ a ∧ xv = .int .i64 (x : Int) ∧ Hid (RI wr gl [LT 0 x, LT 1 x]) ∧ Hid (MBox w wr n (.slice RA r rc))) (fun xv _ => a - (intOf xv).toNat)
   case atStart => exact ⟨0, Nat.zero_le _, rfl, HX, HF0⟩
   case round =>
    clear HX HF0
    obtain ⟨x, hx, rfl, HX, HF⟩ := hrel
    have d0 := HF.out.d0; have d1 := HF.out.d1
    by_cases hxa : x < a
    ·go_wp2_with fail
     refine (w01_any _ n x (by omega) (by omega)).mono ?_
     rintro e w1 ⟨u, rfl, ho1, hb1⟩
     obtain ⟨UA, uc, rfl⟩ := ho1.form'
     have hwb := w01_bit n x
     have HWB := Lib.hid hwb
     have HWL := Lib.hid (w01_len n x)
     have HU1 := Lib.hid (ho1.si (by rw [w01_len]; omega) (fun k => by rcases hwb k with h | h <;> rw [h]; exact I64.zero; exact I64.one))
     have HLU1 := Lib.hid (fun b => HLU.out b x); have HLS1 := Lib.hid (fun b => HLS.out b x)
     have HUN1 := Lib.hid (fun w' u h1 h2 => HUN.out w' u x h1 h2)
     have hul := HUL.out x
     have HCB := Lib.hid (costL_bd hwb HIP.out)
     have HCS : Hid (∀ k, costL (w01 n x) inp (k + 1) = costL (w01 n x) inp k + (w01 n x).getD k 0 * inp.getD k 0) := hid' fun k => rfl
     have HCZ : Hid (costL (w01 n x) inp 0 = 0) := rfl
     clear hwb
     generalize unsTo rows (w01 n x) r = us at *
     generalize w01 n x = wx at *
     rw [HWL.out] at HU1 ⊢
     have HX1 := Lib.hid (HX.out.belowS hb1); have HF1 := Lib.hid (HF.out.on hb1)
     clear ho1 hb1 d0 d1 HX HF
     have d0 := HF1.out.d0; have d1 := HF1.out.d1
     go_wp2_with fail
     refine (HUN1.out _ _ (HV.out.below HF1.out.bel (Nat.le_refl _)) HU1.out).mono ?_
     rintro e w2 ⟨u2, rfl, ho2, hb2⟩
     obtain ⟨VA, vc, rfl⟩ := ho2.form'
     have HU2 := Lib.hid (HU1.out.below hb2 (Nat.le_refl _)); have HX2 := Lib.hid (HX1.out.belowS hb2); have HF2 := Lib.hid (HF1.out.on hb2)
     clear ho2 hb2 d0 d1 HX1 HF1 HU1
     by_cases hus : us = []
     case neg =>
      have hp : 0 < us.length := List.length_pos_iff.2 hus
      have hpp : decide ((0 : Int) < (us.length : Int)) = true := decide_eq_true (by omega)
      have e0 := HLU1.out 0 hus; have e1 := HLU1.out 1 hus
      have HX3 : Hid (RI w2 gl [LT 0 (x + 1), LT 1 (x + 1)]) := hid' (by rw [e0, e1]; exact HX2.out)
      clear e0 e1 hus
      generalize us.length = ul at *
      have hpp2 : decide (0 < ul) = true := decide_eq_true hp
      go_wp2_with fail
      exact ⟨⟨x + 1, by omega, by push_cast; rfl, HX3, HF2⟩, by simp only [intOf]; omega⟩
     have e0 := Lib.hid (HLS1.out 0 hus); have e1 := Lib.hid (HLS1.out 1 hus)
     have hl0 : us.length = 0 := by rw [hus]; rfl
     rw [hl0]
     clear hus hul hl0 HLS1 HLU1 HUN1
     have d0 := HF2.out.d0; have d1 := HF2.out.d1
     go_wp2_with fail
     clear d0 d1
     go_loopw [12, 13] (fun cv kv wr => ∃ k : Nat, k ≤ n ∧ kv = .int .i64 (k : Int) ∧ cv = .int .i64 (costL wx inp k) ∧ Hid (RI wr gl [LT 0 x, LT 1 x]) ∧ Hid (MBox w wr n (.slice RA r rc)) ∧ Hid (SI wr (.slice UA n uc) wx)) (fun _ kv _ => n - (intOf kv).toNat)
     case atStart => exact ⟨0, Nat.zero_le _, rfl, by rw [HCZ.out], HX2, HF2, HU2⟩
     case round =>
      clear HX2 HF2 HU2
      obtain ⟨k, hk, rfl, rfl, HX, HF, HU⟩ := hrel
      have d0 := HF.out.d0; have d1 := HF.out.d1
      have hcb := HCB.out k
      by_cases hkn : k < n
      ·obtain ⟨ud, y, rfl, huc, _, HY⟩ := HU.out.elt (k := k) (by rw [HWL.out]; exact hkn)
       obtain ⟨id_, z, rfl, hic, _, HZ⟩ := (HI.out.below HF.out.bel (Nat.le_refl _)).elt (k := k) (by rw [hil]; omega)
       have hyb := HWB.out k
       have hzb := HIP.out k
       rw [HY.out] at hyb
       rw [HZ.out] at hzb
       have HS : Hid (costL wx inp (k + 1) = costL wx inp k + y * z) := hid' (by show _ = _; rw [HCS.out, HY.out, HZ.out])
       generalize costL wx inp k = s at *
       obtain ⟨hs0, hs1⟩ := hcb
       have hw1 : IntKind.i64.wrap (y * z) = y * z := IntWalk.i64_in _ (by rcases hyb with h | h <;> rw [h] <;> omega)
       have hw2 : IntKind.i64.wrap (s + y * z) = s + y * z := IntWalk.i64_in _ (by rcases hyb with h | h <;> rw [h] <;> omega)
       have hki : k < il := by omega
       clear hyb hzb
       go_wp2_with fail
       go_quiet (fail)
       go_wp2_with fail
       exact ⟨⟨k + 1, by omega, by push_cast; rfl, by rw [HS.out], HX.out.drewN _, HF.out.on (bl_drewN _ _), HU.out.below (bl_drewN _ _) (Nat.le_refl _)⟩, by simp only [intOf]; omega⟩
      ·obtain rfl : n = k := by omega
       obtain ⟨ud, y, rfl, huc, _, HY⟩ := HU.out.elt (k := i) (by rw [HWL.out]; exact hin)
       have hyb := HWB.out i
       rw [HY.out] at hyb
       obtain ⟨cc, hcc⟩ : ∃ cc, cc = costL wx inp n := ⟨_, rfl⟩
       rw [← hcc] at hcb e0 e1 ⊢
       clear hcc
       rw [HY.out] at e0 e1
       have hb0 := HLB.out 0 x; have hb1 := HLB.out 1 x
       obtain ⟨l0, hl0⟩ : ∃ l, l = LT 0 x := ⟨_, rfl⟩
       obtain ⟨l1, hl1⟩ : ∃ l, l = LT 1 x := ⟨_, rfl⟩
       rw [← hl0] at hb0 e0 HX
       rw [← hl1] at hb1 e1 HX
       have q0 : wr.cell? ⟨gl, 0, none⟩ = some (.int .i64 l0) := HX.out.cell 0 (by simp)
       have q1 : wr.cell? ⟨gl, 1, none⟩ = some (.int .i64 l1) := HX.out.cell 1 (by simp)
       have qf0 := HX.out.frozen 0; have qf1 := HX.out.frozen 1
       clear hl0 hl1
       have hmn : Hid (∀ l c : Int, (if l < c then l else c) = min l c) := hid' fun l c => by split <;> omega
       rcases hyb with rfl | rfl
       ·obtain ⟨m, hm⟩ : ∃ m, m = min l0 cc := ⟨_, rfl⟩
        have HX2 : Hid (RI (wr.setCell ⟨gl, 0, none⟩ (.int .i64 m)) gl [LT 0 (x + 1), LT 1 (x + 1)]) := hid' (by
         rw [e0.out, e1.out]
         rw [if_pos rfl, if_neg (by decide), ← hm]
         exact HX.out.set 0 m)
        have HF2 := Lib.hid (HF.out.grown (gr_set1 wr gl 0 (.int .i64 m)) (fun q e => by have := Option.some.inj e; have := HGX.out; omega))
        have hm2 : (if l0 < cc then l0 else cc) = m := by rw [hm]; split <;> omega
        have hm3 : (if cc < l0 then cc else l0) = m := by rw [hm]; split <;> omega
        have hm4 : min l0 cc = m := hm.symm
        clear HX HF hm
        go_wp2_with fail
        go_still_tail 15, (by kernel_rfl)
        change wpList _ _ _ _ _ wr.drew
        go_wp2_with fail
        exact ⟨⟨x + 1, by omega, by push_cast; rfl, HX2.out.drew, HF2.out.on (bl_drew _)⟩, by simp only [intOf]; omega⟩
       ·obtain ⟨m, hm⟩ : ∃ m, m = min l1 cc := ⟨_, rfl⟩
        have HX2 : Hid (RI (wr.setCell ⟨gl, 1, none⟩ (.int .i64 m)) gl [LT 0 (x + 1), LT 1 (x + 1)]) := hid' (by
         rw [e0.out, e1.out]
         rw [if_neg (by decide), if_pos rfl, ← hm]
         exact HX.out.set 1 m)
        have HF2 := Lib.hid (HF.out.grown (gr_set1 wr gl 1 (.int .i64 m)) (fun q e => by have := Option.some.inj e; have := HGX.out; omega))
        have hm2 : (if l1 < cc then l1 else cc) = m := by rw [hm]; split <;> omega
        have hm3 : (if cc < l1 then cc else l1) = m := by rw [hm]; split <;> omega
        have hm4 : min l1 cc = m := hm.symm
        clear HX HF hm
        go_wp2_with fail
        go_still_tail 15, (by kernel_rfl)
        change wpList _ _ _ _ _ wr.drew
        go_wp2_with fail
        exact ⟨⟨x + 1, by omega, by push_cast; rfl, HX2.out.drew, HF2.out.on (bl_drew _)⟩, by simp only [intOf]; omega⟩
    ·obtain rfl : a = x := by omega
     have q0 : wr.cell? ⟨gl, 0, none⟩ = some (.int .i64 (LT 0 a)) := HX.out.cell 0 (by simp)
     have q1 : wr.cell? ⟨gl, 1, none⟩ = some (.int .i64 (LT 1 a)) := HX.out.cell 1 (by simp)
     have hb0 := HLB.out 0 a; have hb1 := HLB.out 1 a
     generalize LT 0 a = l0 at *
     generalize LT 1 a = l1 at *
     by_cases h1 : l1 = 1125899906842624
     ·have e1 : (l1 == 1125899906842624) = true := by rw [beq_iff_eq]; exact h1
      have HANS : Hid (ans = 1099511627776) := hid' (by show _ = _; rw [HEX.out, if_pos h1]; rfl)
      clear h1
      go_wp2_with fail
      go_ret
      exact ⟨by rw [HANS.out]; rfl, HF.out.bel⟩
     ·have e1 : (l1 == 1125899906842624) = false := by rw [beq_eq_false_iff_ne]; exact h1
      have HANS : Hid (ans = l1 - l0) := hid' (by show _ = _; rw [HEX.out, if_neg h1])
      clear h1
      have hw1 : IntKind.i64.wrap (l1 - l0) = l1 - l0 := IntWalk.i64_in _ (by omega)
      go_wp2_with fail
      go_quiet (fail)
      go_wp2_with fail
      go_ret
      exact ⟨by rw [HANS.out]; rfl, bl_trans HF.out.bel (bl_drewN _ _)⟩
theorem set_self {l : List (List Int)} {j : Nat} (h : j < l.length) : l.set j (l.getD j []) = l := by
 refine List.ext_getElem (by simp) fun i h1 h2 => ?_
 by_cases e : j = i
 ·subst e; simp [List.getD, h]
 ·simp [List.getElem_set, e]
set_option maxHeartbeats 64000000 in
theorem ground_any (w : World) (g n : Nat) (iv dv : Value) (rows : List (List Int)) (inp : List Int) (F : Nat → Nat → Int) (h : GR w g (cksTo rows n rows.length) (atTo rows n rows.length 0)) (hi : SI w iv inp) (hd : SS w dv (dnM rows n F))
  (hF : ∀ j p, -cer ≤ F j p ∧ F j p ≤ cer) (hb : BI n rows inp) :
  Calls Try.prog 22 #[.pointer (some ⟨g, 0, none⟩), iv, dv] w (RetR w (dnM rows n (nxM rows n inp F))) := by
 have HCL := Lib.hid (fun w' (hw : Below w.heap.size w w') p (hp : p < n) (j : Nat) => gsum_any w' g n p (j : Int) iv dv rows inp F (h.below hw (Nat.le_refl _)) (hi.below hw (Nat.le_refl _)) (hd.below hw (Nat.le_refl _)) hF hp hb.nn hb.rl hb.il hb.ib)
 have HMG := Lib.hid (gmsg_any w g n rows h hb.nn hb.rl)
 have hnn := hb.nn; have hrl := hb.rl
 obtain ⟨cv, gA, h0, h1, hs, he⟩ := h
 have HSS := Lib.hid hs
 have HH0 := Lib.hid h0
 obtain ⟨CA, cc, rfl, _⟩ := hs
 obtain ⟨IA, ic, rfl, _⟩ := hi
 rw [hb.il] at *
 obtain ⟨DA, dc, rfl, _⟩ := hd
 rw [dnM_len] at *
 rw [cksTo_len] at *
 have HUD : Hid (∀ j t, sumV (inp.getD ((onesTo (rows.getD j []) n).getD t 0).toNat 0) (inTo rows F ((onesTo (rows.getD j []) n).getD t 0).toNat j rows.length) = upF rows n inp F j t) := hid' fun _ _ => rfl
 have HUB := Lib.hid (upF_bd rows n inp F)
 have HNV := Lib.hid (fun j t ht => @nx_val rows n inp F j t ht)
 generalize hG : nxM rows n inp F = G at *
 have HM0 := Lib.hid (mixM_zero rows n G)
 have HMF := Lib.hid (mixM_full rows n G)
 have HMX := Lib.hid (fun j hj => @mixM_next rows n G j hj)
 have HMD := Lib.hid (fun j q hq => @mixM_getD rows n G j q hq)
 have HMLn := Lib.hid (mixM_len rows n G)
 clear h0 h1 he hF hb hG
 generalize hr : rows.length = r at *
 clear hr
 go_enter Try.func22, Try.ntmps22
 go_wp2_with fail
 refine HMG.out.mono ?_
 rintro e w1 ⟨u7, gs, rfl, ho1, hb1⟩
 rw [← HM0.out] at ho1
 obtain ⟨NA, nc, rfl⟩ := ho1.form
 rw [HMLn.out] at ho1 ⊢
 have HO1 := Lib.hid ho1; have HB1 := Lib.hid hb1
 have h01 := cell_below hb1 HH0.out
 clear ho1 hb1
 go_wp2_with fail
 clear h01
 go_loopw [28] (fun i wr => ∃ j : Nat, j ≤ r ∧ i = .int .i64 (j : Int) ∧ Hid (OR w.heap.size wr (.slice NA r nc) gs (mixM rows n G j)) ∧ Hid (Below w.heap.size w wr)) (fun i _ => r - (intOf i).toNat)
 case atStart => exact ⟨0, Nat.zero_le _, rfl, HO1, HB1⟩
 case round =>
  clear HO1 HB1
  obtain ⟨j, hj, rfl, HO, HB⟩ := hrel
  by_cases hjr : j < r
  ·obtain ⟨ra, Ak, ck, L, rfl, hd0, HLR, HLE⟩ := HSS.out.eltA (k := j) (by rw [cksTo_len]; exact hjr)
   have hle := HLE.out
   rw [cksTo_getD hjr] at hle
   have hml := onesTo_len (rows.getD j []) n
   have HOG := Lib.hid (fun t => @ones_get (rows.getD j []) n t)
   have HNVj := Lib.hid (HNV.out j)
   have HUDj := Lib.hid (HUD.out j)
   have HDR := Lib.hid (dnL_row (rows.getD j []) n (G j))
   have HMDj := Lib.hid (HMD.out j j hjr)
   have HMXj := Lib.hid (HMX.out j hjr)
   have HUBj := Lib.hid (HUB.out j)
   rw [hle] at hml HOG HNVj HUDj HDR HMDj
   rw [if_neg (Nat.lt_irrefl _)] at HMDj
   have HD0 := Lib.hid hd0
   have hdr := cell_below HB.out hd0
   clear hle HLE hd0
   generalize hU : upF rows n inp F j = U at *
   clear hU
   generalize hm : L.length = m at *
   have HLM := Lib.hid hm; clear hm
   obtain ⟨V, hV⟩ : ∃ V : Nat → Int, V = fun t => G j (L.getD t 0).toNat := ⟨_, rfl⟩
   have HVD : Hid (∀ t, G j (L.getD t 0).toNat = V t) := hid' fun t => by rw [hV]
   have HDV : Hid (dnL (rows.getD j []) n (G j) = rowOf m V) := hid' (by show _ = _; rw [HDR.out, hV])
   clear hV HDR
   have hmk := fun (w : World) => run_mkI m (by omega) w
   have HX := Lib.hid (RI.made wr m)
   have HBa := Lib.hid (HB.out.alloc HB.out.size (.cells (madeCells #[.int .i64 0] m) 3))
   have HOa := Lib.hid (HO.out.alloc (.cells (madeCells #[.int .i64 0] m) 3))
   have HGO : Hid (∀ g, some wr.heap.size = some g → (Value.slice NA r nc).ownBlock ≠ some g ∧ ∀ q, q < (mixM rows n G j).length → gs q ≠ g) := hid' fun g e => by
    have e2 := Option.some.inj e
    subst e2
    exact ⟨fun h => by have := (HO.out.lt h).2; omega, fun q hq h => by have := (HO.out.row q hq).lt; omega⟩
   have HGX : Hid (w.heap.size ≤ wr.heap.size) := hid' HB.out.size
   clear HO HB
   go_wp2_with fail
   clear hdr
   generalize wr.alloc (.cells (madeCells #[.int .i64 0] m) 3) = w2 at *
   generalize hgx : wr.heap.size = gu at *
   clear hgx
   go_loopw [10, 11, 12, 13, 38] (fun a b c d i wr => ∃ k : Nat, k ≤ m ∧ i = .int .i64 (k : Int) ∧ a = .int .i64 (scanTo U k).fst ∧ b = .int .i64 (scanTo U k).snd ∧ c = .int .i64 (scanTo U k).at_ ∧ d = .int .i64 (scanTo U k).mns ∧ Hid (RI wr gu (fillTo m U (fun _ => 0) k)) ∧ Hid (OR w.heap.size wr (.slice NA r nc) gs (mixM rows n G j)) ∧ Hid (Below w.heap.size w wr)) (fun _ _ _ _ i _ => m - (intOf i).toNat)
   case atStart => exact ⟨0, Nat.zero_le _, rfl, rfl, rfl, rfl, rfl, by rw [fillTo_zero, rowOf_zero]; exact HX, HOa, HBa⟩
   case round =>
    clear HX HOa HBa
    obtain ⟨k, hk, rfl, rfl, rfl, rfl, rfl, HX, HO, HB⟩ := hrel
    by_cases hkm : k < m
    ·obtain ⟨la, z, hla, hc, _, HZ⟩ := (HLR.out.below HB.out (Nat.le_refl _)).elt (k := k) (by rw [HLM.out]; exact hkm)
     subst hla
     obtain ⟨p, hpn, hp1, hp2, hp3⟩ := HOG.out k hkm
     have hzp := HZ.out
     rw [hp1] at hzp
     subst hzp
     have HUK : Hid (sumV (inp.getD p 0) (inTo rows F p j r) = U k) := hid' (by have h := HUDj.out k; rw [hp1, Int.toNat_natCast] at h; exact h)
     have HSN := Lib.hid (fun A M h1 h2 h3 => @scan_new U k A M h1 h2 h3)
     have HS2 := Lib.hid (fun A M h1 h2 h3 h4 => @scan_snd U k A M h1 h2 h3 h4)
     have HS3 := Lib.hid (fun A M h1 h2 h3 h4 => @scan_old U k A M h1 h2 h3 h4)
     obtain ⟨_, i2, i3, i4, i5, i6, i7, i8, i9⟩ := scan_inv HUBj.out k
     clear i7
     have hxb := HUBj.out k
     have HFS := Lib.hid (fillTo_set (f := U) (g := fun _ => 0) hkm)
     clear hp1 hp2 hp3
     go_wp2_with fail
     refine (HCL.out _ HB.out p hpn j).mono ?_
     rintro e w3 ⟨rfl, hb3⟩
     rw [HUK.out]
     have HX3 := Lib.hid (HX.out.belowS hb3)
     have HB3 := Lib.hid (bl_trans HB.out hb3)
     have HO3 := Lib.hid (HO.out.below hb3)
     have u0 := HX3.out.cell k (by rw [fillTo_len]; exact hkm)
     rw [fillTo_getD hkm] at u0
     have uf := HX3.out.frozen k
     have HX4 := Lib.hid (HX3.out.set k (U k))
     rw [HFS.out] at HX4
     have HO4 := Lib.hid (HO3.out.grown (gr_set1 w3 gu k (.int .i64 (U k))) HGO.out)
     have HB4 := Lib.hid (HB3.out.setCell (p := ⟨gu, k, none⟩) HGX.out (.int .i64 (U k)))
     clear hb3 HX HO HB HX3 HO3 HB3 hc
     have ur : (w3.setCell ⟨gu, k, none⟩ (.int .i64 (U k))).cell? ⟨gu, k, none⟩ = some (.int .i64 (U k)) := by
      have h := HX4.out.cell k (by rw [fillTo_len]; exact hkm)
      rw [← HFS.out] at h
      have : k < (fillTo m U (fun _ => 0) k).length := by rw [fillTo_len]; exact hkm
      simpa [List.getD, List.getElem?_set, this] using h
     generalize (scanTo U k).fst = f at *
     generalize (scanTo U k).snd = s at *
     generalize (scanTo U k).at_ = a at *
     generalize (scanTo U k).mns = mn at *
     generalize U k = x at *
     unfold cer at i3 hxb
     by_cases c1 : x < 0
     ·have e1 : decide (x < 0) = true := decide_eq_true c1
      by_cases c2 : a < 0
      ·have e2 : decide (a < 0) = true := decide_eq_true c2
       have HEQ : Hid (scanTo U (k + 1) = ⟨-x, f, k, mn + 1⟩) := hid' (HSN.out _ _ (if_pos c1) (if_pos c1) (.inl c2))
       clear HSN HS2 HS3
       go_wp2_with fail
       exact ⟨⟨k + 1, by omega, by push_cast; rfl, by rw [HEQ.out], by rw [HEQ.out], by rw [HEQ.out], by rw [HEQ.out], HX4, HO4, HB4⟩, by simp only [intOf]; omega⟩
      ·have e2 : decide (a < 0) = false := decide_eq_false c2
       by_cases c3 : -x < f
       ·have e3 : decide (-x < f) = true := decide_eq_true c3
        have HEQ : Hid (scanTo U (k + 1) = ⟨-x, f, k, mn + 1⟩) := hid' (HSN.out _ _ (if_pos c1) (if_pos c1) (.inr c3))
        clear HSN HS2 HS3
        go_wp2_with fail
        exact ⟨⟨k + 1, by omega, by push_cast; rfl, by rw [HEQ.out], by rw [HEQ.out], by rw [HEQ.out], by rw [HEQ.out], HX4, HO4, HB4⟩, by simp only [intOf]; omega⟩
       ·have e3 : decide (-x < f) = false := decide_eq_false c3
        by_cases c4 : -x < s
        ·have e4 : decide (-x < s) = true := decide_eq_true c4
         have HEQ : Hid (scanTo U (k + 1) = ⟨f, -x, a, mn + 1⟩) := hid' (HS2.out _ _ (if_pos c1) (if_pos c1) (by omega) c4)
         clear HSN HS2 HS3
         go_wp2_with fail
         exact ⟨⟨k + 1, by omega, by push_cast; rfl, by rw [HEQ.out], by rw [HEQ.out], by rw [HEQ.out], by rw [HEQ.out], HX4, HO4, HB4⟩, by simp only [intOf]; omega⟩
        ·have e4 : decide (-x < s) = false := decide_eq_false c4
         have HEQ : Hid (scanTo U (k + 1) = ⟨f, s, a, mn + 1⟩) := hid' (HS3.out _ _ (if_pos c1) (if_pos c1) (by omega) (by omega))
         clear HSN HS2 HS3
         go_wp2_with fail
         exact ⟨⟨k + 1, by omega, by push_cast; rfl, by rw [HEQ.out], by rw [HEQ.out], by rw [HEQ.out], by rw [HEQ.out], HX4, HO4, HB4⟩, by simp only [intOf]; omega⟩
     ·have e1 : decide (x < 0) = false := decide_eq_false c1
      by_cases c2 : a < 0
      ·have e2 : decide (a < 0) = true := decide_eq_true c2
       have HEQ : Hid (scanTo U (k + 1) = ⟨x, f, k, mn⟩) := hid' (HSN.out _ _ (if_neg c1) (if_neg c1) (.inl c2))
       clear HSN HS2 HS3
       go_wp2_with fail
       exact ⟨⟨k + 1, by omega, by push_cast; rfl, by rw [HEQ.out], by rw [HEQ.out], by rw [HEQ.out], by rw [HEQ.out], HX4, HO4, HB4⟩, by simp only [intOf]; omega⟩
      ·have e2 : decide (a < 0) = false := decide_eq_false c2
       by_cases c3 : x < f
       ·have e3 : decide (x < f) = true := decide_eq_true c3
        have HEQ : Hid (scanTo U (k + 1) = ⟨x, f, k, mn⟩) := hid' (HSN.out _ _ (if_neg c1) (if_neg c1) (.inr c3))
        clear HSN HS2 HS3
        go_wp2_with fail
        exact ⟨⟨k + 1, by omega, by push_cast; rfl, by rw [HEQ.out], by rw [HEQ.out], by rw [HEQ.out], by rw [HEQ.out], HX4, HO4, HB4⟩, by simp only [intOf]; omega⟩
       ·have e3 : decide (x < f) = false := decide_eq_false c3
        by_cases c4 : x < s
        ·have e4 : decide (x < s) = true := decide_eq_true c4
         have HEQ : Hid (scanTo U (k + 1) = ⟨f, x, a, mn⟩) := hid' (HS2.out _ _ (if_neg c1) (if_neg c1) (by omega) c4)
         clear HSN HS2 HS3
         go_wp2_with fail
         exact ⟨⟨k + 1, by omega, by push_cast; rfl, by rw [HEQ.out], by rw [HEQ.out], by rw [HEQ.out], by rw [HEQ.out], HX4, HO4, HB4⟩, by simp only [intOf]; omega⟩
        ·have e4 : decide (x < s) = false := decide_eq_false c4
         have HEQ : Hid (scanTo U (k + 1) = ⟨f, s, a, mn⟩) := hid' (HS3.out _ _ (if_neg c1) (if_neg c1) (by omega) (by omega))
         clear HSN HS2 HS3
         go_wp2_with fail
         exact ⟨⟨k + 1, by omega, by push_cast; rfl, by rw [HEQ.out], by rw [HEQ.out], by rw [HEQ.out], by rw [HEQ.out], HX4, HO4, HB4⟩, by simp only [intOf]; omega⟩
    ·obtain rfl : k = m := by omega
     rw [fillTo_full] at HX
     have HXr0 : Hid (RI wr gu (rowOf k U)) := HX
     have HO0 : Hid (OR w.heap.size wr (.slice NA r nc) gs ((mixM rows n G j).set j (fillTo k V (fun _ => 0) 0))) := hid' (by
      have h := set_self (l := mixM rows n G j) (j := j) (by rw [HMLn.out]; exact hjr)
      rw [HMDj.out] at h
      rw [fillTo_zero, rowOf_zero, h]
      exact HO.out)
     obtain ⟨_, i2, i3, i4, i5, i6, _, i8, i9⟩ := scan_inv HUBj.out k
     clear HX HO
     generalize (scanTo U k).fst = fS at *
     generalize (scanTo U k).snd = sS at *
     generalize (scanTo U k).at_ = aS at *
     generalize (scanTo U k).mns = mS at *
     unfold cer at i3
     go_wp2_with fail
     go_loopw [81] (fun i wr => ∃ k2 : Nat, k2 ≤ k ∧ i = .int .i64 (k2 : Int) ∧ Hid (OR w.heap.size wr (.slice NA r nc) gs ((mixM rows n G j).set j (fillTo k V (fun _ => 0) k2))) ∧ Hid (RI wr gu (rowOf k U)) ∧ Hid (Below w.heap.size w wr)) (fun i _ => k - (intOf i).toNat)
     case atStart => exact ⟨0, Nat.zero_le _, rfl, HO0, HXr0, HB⟩
     case round =>
      clear HO0 HXr0 HB
      obtain ⟨k2, hk2, rfl, HO, HXr, HB⟩ := hrel
      by_cases hkk : k2 < k
      case neg =>
       obtain rfl : k2 = k := by omega
       have HE : Hid ((mixM rows n G j).set j (fillTo k2 V (fun _ => 0) k2) = mixM rows n G (j + 1)) := hid' (by show _ = _; rw [fillTo_full, ← HDV.out]; exact HMXj.out)
       rw [HE.out] at HO
       go_wp2_with fail
       exact ⟨⟨j + 1, by omega, by push_cast; rfl, HO, HB⟩, by simp only [intOf]; omega⟩
      have ux := HXr.out.cell k2 (by rw [rowOf_len]; exact hkk)
      rw [rowOf_getD hkk] at ux
      obtain ⟨hnv1, hnv2⟩ := HNVj.out k2 hkk
      rw [HVD.out] at hnv1
      have HVK := Lib.hid hnv1; clear hnv1
      generalize U k2 = x at *
      have hlen : ((mixM rows n G j).set j (fillTo k V (fun _ => 0) k2)).length = r := by rw [List.length_set, HMLn.out]
      obtain ⟨gv, hNA, hh⟩ := HO.out.hd (j := j) (by rw [hlen]; exact hjr)
      have hget : ((mixM rows n G j).set j (fillTo k V (fun _ => 0) k2)).getD j [] = fillTo k V (fun _ => 0) k2 := by
       rw [getD_setS _ _ _ _ (by rw [HMLn.out]; exact hjr), if_pos rfl]
      rw [hget, fillTo_len] at hh
      have hrow := HO.out.row j (by rw [hlen]; exact hjr)
      rw [hget] at hrow
      have us := hrow.cell k2 (by rw [fillTo_len]; exact hkk)
      rw [fillTo_getD hkk] at us
      have uf := hrow.frozen k2
      have HFS := Lib.hid (fillTo_set (f := V) (g := fun _ => 0) hkk)
      have ho2 := HO.out.set (i := j) (by rw [hlen]; exact hjr) k2 (V k2)
      rw [hget, HFS.out, List.set_set] at ho2
      have HO2 := Lib.hid ho2
      have HB2 := Lib.hid (HO.out.setBelow HB.out (i := j) (by rw [hlen]; exact hjr) k2 (.int .i64 (V k2)))
      have hgg : gu ≠ gs j := fun e => (HGO.out gu rfl).2 j (by rw [HMLn.out]; exact hjr) e.symm
      have HXrF : Hid (∀ v, RI (wr.setCell ⟨gs j, k2, none⟩ v) gu (rowOf k U)) := hid' fun v => HXr.out.far (p := ⟨gs j, k2, none⟩) hgg v
      subst hNA
      clear ho2 hrow hget hlen HO HXr HB
      generalize gs j = gj at *
      by_cases ca : aS = (k2 : Int)
      ·have hba : ((k2 : Int) == aS) = true := by rw [beq_iff_eq]; omega
       by_cases cx : x < 0
       ·have hbx : decide (x < 0) = true := decide_eq_true cx
        rw [if_pos cx] at hnv2
        by_cases co : (mS - 1) % 2 = 1
        ·have HVK2 : Hid (V k2 = -sS) := hid' (by rw [HVK.out, if_pos ca, if_pos cx]; rw [decide_eq_true (show (mS - 1) % 2 = 1 by omega)]; rfl)
         have hbo : ((mS - 1) % 2 == 1) = true := by rw [beq_iff_eq]; omega
         rw [HVK2.out] at HO2 HB2
         clear HVK HVK2
         go_wp2_with fail
         exact ⟨⟨k2 + 1, by omega, by push_cast; rfl, HO2, HXrF.out _, HB2⟩, by simp only [intOf]; omega⟩
        ·have HVK2 : Hid (V k2 = sS) := hid' (by rw [HVK.out, if_pos ca, if_pos cx]; rw [decide_eq_false (show ¬ (mS - 1) % 2 = 1 by omega)]; rfl)
         have hbo : ((mS - 1) % 2 == 1) = false := by rw [beq_eq_false_iff_ne]; omega
         rw [HVK2.out] at HO2 HB2
         clear HVK HVK2
         go_wp2_with fail
         exact ⟨⟨k2 + 1, by omega, by push_cast; rfl, HO2, HXrF.out _, HB2⟩, by simp only [intOf]; omega⟩
       ·have hbx : decide (x < 0) = false := decide_eq_false cx
        rw [if_neg cx] at hnv2
        by_cases co : (mS - 0) % 2 = 1
        ·have HVK2 : Hid (V k2 = -sS) := hid' (by rw [HVK.out, if_pos ca, if_neg cx]; rw [decide_eq_true (show (mS - 0) % 2 = 1 by omega)]; rfl)
         have hbo : ((mS) % 2 == 1) = true := by rw [beq_iff_eq]; omega
         rw [HVK2.out] at HO2 HB2
         clear HVK HVK2
         go_wp2_with fail
         exact ⟨⟨k2 + 1, by omega, by push_cast; rfl, HO2, HXrF.out _, HB2⟩, by simp only [intOf]; omega⟩
        ·have HVK2 : Hid (V k2 = sS) := hid' (by rw [HVK.out, if_pos ca, if_neg cx]; rw [decide_eq_false (show ¬ (mS - 0) % 2 = 1 by omega)]; rfl)
         have hbo : ((mS) % 2 == 1) = false := by rw [beq_eq_false_iff_ne]; omega
         rw [HVK2.out] at HO2 HB2
         clear HVK HVK2
         go_wp2_with fail
         exact ⟨⟨k2 + 1, by omega, by push_cast; rfl, HO2, HXrF.out _, HB2⟩, by simp only [intOf]; omega⟩
      ·have hba : ((k2 : Int) == aS) = false := by rw [beq_eq_false_iff_ne]; omega
       by_cases cx : x < 0
       ·have hbx : decide (x < 0) = true := decide_eq_true cx
        rw [if_pos cx] at hnv2
        by_cases co : (mS - 1) % 2 = 1
        ·have HVK2 : Hid (V k2 = -fS) := hid' (by rw [HVK.out, if_neg ca, if_pos cx]; rw [decide_eq_true (show (mS - 1) % 2 = 1 by omega)]; rfl)
         have hbo : ((mS - 1) % 2 == 1) = true := by rw [beq_iff_eq]; omega
         rw [HVK2.out] at HO2 HB2
         clear HVK HVK2
         go_wp2_with fail
         exact ⟨⟨k2 + 1, by omega, by push_cast; rfl, HO2, HXrF.out _, HB2⟩, by simp only [intOf]; omega⟩
        ·have HVK2 : Hid (V k2 = fS) := hid' (by rw [HVK.out, if_neg ca, if_pos cx]; rw [decide_eq_false (show ¬ (mS - 1) % 2 = 1 by omega)]; rfl)
         have hbo : ((mS - 1) % 2 == 1) = false := by rw [beq_eq_false_iff_ne]; omega
         rw [HVK2.out] at HO2 HB2
         clear HVK HVK2
         go_wp2_with fail
         exact ⟨⟨k2 + 1, by omega, by push_cast; rfl, HO2, HXrF.out _, HB2⟩, by simp only [intOf]; omega⟩
       ·have hbx : decide (x < 0) = false := decide_eq_false cx
        rw [if_neg cx] at hnv2
        by_cases co : (mS - 0) % 2 = 1
        ·have HVK2 : Hid (V k2 = -fS) := hid' (by rw [HVK.out, if_neg ca, if_neg cx]; rw [decide_eq_true (show (mS - 0) % 2 = 1 by omega)]; rfl)
         have hbo : ((mS) % 2 == 1) = true := by rw [beq_iff_eq]; omega
         rw [HVK2.out] at HO2 HB2
         clear HVK HVK2
         go_wp2_with fail
         exact ⟨⟨k2 + 1, by omega, by push_cast; rfl, HO2, HXrF.out _, HB2⟩, by simp only [intOf]; omega⟩
        ·have HVK2 : Hid (V k2 = fS) := hid' (by rw [HVK.out, if_neg ca, if_neg cx]; rw [decide_eq_false (show ¬ (mS - 0) % 2 = 1 by omega)]; rfl)
         have hbo : ((mS) % 2 == 1) = false := by rw [beq_eq_false_iff_ne]; omega
         rw [HVK2.out] at HO2 HB2
         clear HVK HVK2
         go_wp2_with fail
         exact ⟨⟨k2 + 1, by omega, by push_cast; rfl, HO2, HXrF.out _, HB2⟩, by simp only [intOf]; omega⟩
  ·obtain rfl : j = r := by omega
   rw [HMF.out] at HO
   go_wp2_with fail
   go_ret
   exact ⟨_, gs, rfl, HO.out, HB.out⟩
structure MR (n : Nat) (rows : List (List Int)) : Prop where
 nn : n ≤ 256
 rl : rows.length ≤ 256
 br : BitRows n rows
theorem mr_of {cols : Int} {rows : List (List Int)} (h : bitE cols rows = 0) : ∃ n : Nat, cols = (n : Int) ∧ MR n rows := by
 obtain ⟨a, b, c, d⟩ := bitE_ok h
 refine ⟨cols.toNat, by omega, by omega, c, fun j hj => ?_⟩
 obtain ⟨d1, d2⟩ := d j hj
 exact ⟨by omega, d2⟩
def okB (x : Int) : Prop := -1048576 ≤ x ∧ x ≤ 1048576
def okI (l : List Int) : Prop := ∀ k, k < l.length → okB (l.getD k 0)
open Classical in
noncomputable def inpE (cols : Int) (inp : List Int) (t : Int) : Int := if (inp.length : Int) ≠ cols then 4 else if ¬ okI inp then 6 else if t < 0 ∨ 256 < t then 6 else 0
noncomputable def argE (cols : Int) (rows : List (List Int)) (inp : List Int) (t : Int) : Int := if bitE cols rows ≠ 0 then bitE cols rows else inpE cols inp t
theorem inpE_len {cols : Int} {inp : List Int} {t : Int} (h : (inp.length : Int) ≠ cols) : inpE cols inp t = 4 := by unfold inpE; rw [if_pos h]
theorem inpE_bad {cols : Int} {inp : List Int} {t : Int} (h : (inp.length : Int) = cols) {k : Nat} (hk : k < inp.length) (hb : ¬ okB (inp.getD k 0)) : inpE cols inp t = 6 := by
 unfold inpE; rw [if_neg (fun e => e h), if_pos (fun e => hb (e k hk))]
theorem inpE_rng {cols : Int} {inp : List Int} {t : Int} (h : (inp.length : Int) = cols) (ho : okI inp) (ht : t < 0 ∨ 256 < t) : inpE cols inp t = 6 := by
 unfold inpE; rw [if_neg (fun e => e h), if_neg (fun e => e ho), if_pos ht]
theorem inpE_ok {cols : Int} {inp : List Int} {t : Int} (h : (inp.length : Int) = cols) (ho : okI inp) (ht : ¬ (t < 0 ∨ 256 < t)) : inpE cols inp t = 0 := by
 unfold inpE; rw [if_neg (fun e => e h), if_neg (fun e => e ho), if_neg ht]
theorem inpE_of {cols : Int} {inp : List Int} {t : Int} (h : inpE cols inp t = 0) : (inp.length : Int) = cols ∧ okI inp ∧ 0 ≤ t ∧ t ≤ 256 := by
 by_cases h1 : (inp.length : Int) = cols
 ·by_cases h2 : okI inp
  ·by_cases h3 : t < 0 ∨ 256 < t
   ·rw [inpE_rng h1 h2 h3] at h; cases h
   ·exact ⟨h1, h2, by omega, by omega⟩
  ·unfold inpE at h; rw [if_neg (fun e => e h1), if_pos h2] at h; cases h
 ·rw [inpE_len h1] at h; cases h
theorem argE_of {cols : Int} {rows : List (List Int)} {inp : List Int} {t : Int} (h : argE cols rows inp t = 0) : ∃ (n s : Nat), cols = (n : Int) ∧ t = (s : Int) ∧ s ≤ 256 ∧ bitE cols rows = 0 ∧ MR n rows ∧ BI n rows inp := by
 unfold argE at h
 by_cases hb : bitE cols rows = 0
 ·rw [if_neg (fun e => e hb)] at h
  obtain ⟨h1, h2, h3, h4⟩ := inpE_of h
  obtain ⟨n, hn, hm⟩ := mr_of hb
  refine ⟨n, t.toNat, hn, by omega, by omega, hb, hm, ⟨hm.nn, hm.rl, hm.br, by omega, fun k => ?_⟩⟩
  by_cases hk : k < inp.length
  ·exact h2 k hk
  ·rw [getD_len (by omega)]; omega
 ·rw [if_pos hb] at h; exact absurd h hb
set_option maxHeartbeats 16000000 in
theorem inputs_any (w : World) (cols t : Int) (rv iv : Value) (inp : List Int) (hi : SI w iv inp) :
  Calls Try.prog 20 #[.agg #[.int .i64 cols, rv], iv, .int .i64 t] w (RetI w (inpE cols inp t)) := by
 obtain ⟨IA, ic, rfl, hia⟩ := id hi
 have hil := hia.len
 have HI := Lib.hid hi; clear hi hia
 have HB := Lib.hid (MBox.mk' w cols rv)
 generalize hm : inp.length = m at *
 have HM := Lib.hid hm; clear hm
 by_cases hc : (m : Int) = cols
 case neg =>
  have hcb : ((m : Int) != cols) = true := by rw [bne_iff_ne]; exact hc
  have HE : Hid (inpE cols inp t = 4) := hid' (inpE_len (by rw [HM.out]; exact hc))
  clear hc
  go_enter Try.func20, Try.ntmps20
  go_wp2_with fail
  generalize w.alloc (.cells #[.int .i64 cols, rv] 24) = w0 at *
  have d0 := HB.out.d0; have d1 := HB.out.d1
  go_wp2_with fail
  go_ret
  exact ⟨by rw [HE.out]; rfl, HB.out.bel⟩
 subst hc
 have hcb : ((m : Int) != (m : Int)) = false := by simp
 have HBAD : Hid (∀ k, k < m → ¬ okB (inp.getD k 0) → inpE (m : Int) inp t = 6) := hid' fun k hk h => inpE_bad (by rw [HM.out]) (by rw [HM.out]; exact hk) h
 have HRNG : Hid ((∀ k, k < m → okB (inp.getD k 0)) → (t < 0 ∨ 256 < t) → inpE (m : Int) inp t = 6) := hid' fun h ht => inpE_rng (by rw [HM.out]) (fun k hk => h k (by rw [← HM.out]; exact hk)) ht
 have HOK : Hid ((∀ k, k < m → okB (inp.getD k 0)) → ¬ (t < 0 ∨ 256 < t) → inpE (m : Int) inp t = 0) := hid' fun h ht => inpE_ok (by rw [HM.out]) (fun k hk => h k (by rw [← HM.out]; exact hk)) ht
 go_enter Try.func20, Try.ntmps20
 go_wp2_with fail
 generalize w.alloc (.cells #[.int .i64 (m : Int), rv] 24) = w0 at *
 have d0 := HB.out.d0; have d1 := HB.out.d1
 have HI0 := Lib.hid (HI.out.below HB.out.bel (Nat.le_refl _))
 go_wp2_with fail
 clear d0 d1
 go_loop [16] (fun i => ∃ k : Nat, k ≤ m ∧ i = .int .i64 (k : Int) ∧ Hid (∀ i, i < k → okB (inp.getD i 0))) (fun i => m - (intOf i).toNat)
 case atStart => exact ⟨0, Nat.zero_le _, rfl, hid' fun i hi => absurd hi (Nat.not_lt_zero _)⟩
 case round =>
  obtain ⟨k, hk, rfl, HG⟩ := hrel
  by_cases hkm : k < m
  ·obtain ⟨ad, x, rfl, hcc, _, HX⟩ := HI0.out.elt (k := k) (by rw [HM.out]; exact hkm)
   by_cases hx1 : x < -1048576
   ·have e1 : decide (x < -1048576) = true := decide_eq_true hx1
    have HE : Hid (inpE (m : Int) inp t = 6) := hid' (HBAD.out k hkm (by rw [HX.out]; unfold okB; omega))
    go_wp2_with fail
    go_ret
    exact ⟨by rw [HE.out]; rfl, HB.out.bel⟩
   ·have e1 : decide (x < -1048576) = false := decide_eq_false hx1
    by_cases hx2 : 1048576 < x
    ·have e2 : decide (1048576 < x) = true := decide_eq_true hx2
     have HE : Hid (inpE (m : Int) inp t = 6) := hid' (HBAD.out k hkm (by rw [HX.out]; unfold okB; omega))
     go_wp2_with fail
     go_ret
     exact ⟨by rw [HE.out]; rfl, HB.out.bel⟩
    ·have e2 : decide (1048576 < x) = false := decide_eq_false hx2
     have HG2 : Hid (∀ i, i < k + 1 → okB (inp.getD i 0)) := hid' fun i hi => by
      by_cases e : i = k
      ·rw [e, HX.out]; exact ⟨by omega, by omega⟩
      ·exact HG.out i (by omega)
     go_wp2_with fail
     exact ⟨⟨k + 1, by omega, by push_cast; rfl, HG2⟩, by simp only [intOf]; omega⟩
  ·obtain rfl : k = m := by omega
   by_cases ht1 : t < 0
   ·have e1 : decide (t < 0) = true := decide_eq_true ht1
    have HE := Lib.hid (HRNG.out HG.out (.inl ht1))
    go_wp2_with fail
    go_ret
    exact ⟨by rw [HE.out]; rfl, HB.out.bel⟩
   ·have e1 : decide (t < 0) = false := decide_eq_false ht1
    by_cases ht2 : 256 < t
    ·have e2 : decide (256 < t) = true := decide_eq_true ht2
     have HE := Lib.hid (HRNG.out HG.out (.inr ht2))
     go_wp2_with fail
     go_ret
     exact ⟨by rw [HE.out]; rfl, HB.out.bel⟩
    ·have e2 : decide (256 < t) = false := decide_eq_false ht2
     have HE := Lib.hid (HOK.out HG.out (by omega))
     go_wp2_with fail
     go_ret
     exact ⟨by rw [HE.out]; rfl, HB.out.bel⟩
set_option maxHeartbeats 16000000 in
theorem rargs_any (w : World) (cols t : Int) (rv iv : Value) (rows : List (List Int)) (inp : List Int) (hv : SS w rv rows) (hi : SI w iv inp) :
  Calls Try.prog 7 #[.agg #[.int .i64 cols, rv], iv, .int .i64 t] w (RetI w (argE cols rows inp t)) := by
 have HV := Lib.hid hv; clear hv
 obtain ⟨RA, rc, rfl, _⟩ := HV.out
 have HM0 : Hid (matE 2 1 [] cols rows = bitE cols rows) := rfl
 obtain ⟨IA, ic, rfl, hia⟩ := id hi
 have hil := hia.len
 have HI := Lib.hid hi; clear hi hia
 have HB := Lib.hid (MBox.mk' w cols (.slice RA rows.length rc))
 generalize hm : inp.length = m at *
 have HM := Lib.hid hm; clear hm
 generalize hr : rows.length = r at *
 clear hr
 by_cases hb : bitE cols rows = 0
 case neg =>
  have hbb : (bitE cols rows != 0) = true := by rw [bne_iff_ne]; exact hb
  have HE : Hid (argE cols rows inp t = bitE cols rows) := hid' (by unfold argE; rw [if_pos hb])
  rw [HE.out]
  clear hb
  go_enter Try.func7, Try.ntmps7
  go_wp2_with fail
  generalize w.alloc (.cells #[.int .i64 cols, .slice RA r rc] 24) = w0 at *
  have d0 := HB.out.d0; have d1 := HB.out.d1
  go_wp2_with fail
  refine Kept.start (S := fun w' => w'.cell? ⟨w.heap.size, 0, none⟩ = some (.int .i64 cols) ∧ w'.cell? ⟨w.heap.size, 1, none⟩ = some (.slice RA r rc)) (by kernel_rfl) (⟨d0, d1⟩) (fun hHeld => ?_)
  change Kept _ _ _ _ 4 _ _ _
  refine Kept.tk 1 (v := ?_) rfl ?_ hHeld ?_
  rotate_left
  ·intro w' h; (try dsimp only at h); go_simp <;> with_reducible rfl
  try simp only [tda, tdb, tdc, Act.put, tdd, tde, tdf]
  refine Kept.only (i := 0) (by kernel_rfl) rfl (fun K hK => ?_)
  go_simp
  refine (rTwo45_any _).mono ?_; rintro e w3 ⟨rfl, hb3⟩; have HF3 := Lib.hid ((HB.out.on (bl_drew _)).on hb3); clear hb3; have e0 := HF3.out.d0; have e1 := HF3.out.d1
  refine hK.out _ _ (⟨e0, e1⟩) (fun hHeld2 => ?_)
  clear hK K
  replace hHeld := hHeld2
  clear hHeld2
  try simp only [tda, tdb, tdc, Act.put, tdd, tde, tdf]
  refine Kept.only (i := 2) (by kernel_rfl) rfl (fun K hK => ?_)
  go_simp
  refine (rMCheck_any _ 2 1 cols (.slice none 0 0) (.slice RA r rc) [] rows (SI.none_ _) (HV.out.below HF3.out.bel (Nat.le_refl _))).mono ?_; rintro e w4 ⟨rfl, hb4⟩; rw [HM0.out]; have HF4 := Lib.hid (HF3.out.on hb4); clear hb4; have f0 := HF4.out.d0; have f1 := HF4.out.d1
  refine hK.out _ _ (⟨f0, f1⟩) (fun hHeld2 => ?_)
  clear hK K
  replace hHeld := hHeld2
  clear hHeld2
  try simp only [tda, tdb, tdc, Act.put, tdd, tde, tdf]
  refine Kept.only (i := 3) (by kernel_rfl) rfl (fun K hK => ?_)
  go_simp
  refine hK.out _ _ hHeld (fun hHeld2 => ?_)
  clear hK K
  clear hHeld2
  refine Kept.done (by kernel_rfl) ?_
  try simp only [tda, tdb, tdc, Act.put, tdd, tde, tdf]
  clear hHeld
  clear d0 d1 e0 e1
  generalize bitE cols rows = er at *
  go_wp2_with fail
  go_ret
  exact ⟨rfl, HF4.out.bel⟩
 have HAE : Hid (argE cols rows inp t = inpE cols inp t) := hid' (by unfold argE; rw [if_neg (fun e => e hb)])
 rw [HAE.out]
 rw [hb] at HM0
 clear hb HAE
 by_cases hc : (m : Int) = cols
 case neg =>
  have hcb : ((m : Int) != cols) = true := by rw [bne_iff_ne]; exact hc
  have HE : Hid (inpE cols inp t = 4) := hid' (inpE_len (by rw [HM.out]; exact hc))
  clear hc
  go_enter Try.func7, Try.ntmps7
  go_wp2_with fail
  generalize w.alloc (.cells #[.int .i64 cols, .slice RA r rc] 24) = w0 at *
  have d0 := HB.out.d0; have d1 := HB.out.d1
  go_wp2_with fail
  refine Kept.start (S := fun w' => w'.cell? ⟨w.heap.size, 0, none⟩ = some (.int .i64 cols) ∧ w'.cell? ⟨w.heap.size, 1, none⟩ = some (.slice RA r rc)) (by kernel_rfl) (⟨d0, d1⟩) (fun hHeld => ?_)
  change Kept _ _ _ _ 4 _ _ _
  refine Kept.tk 1 (v := ?_) rfl ?_ hHeld ?_
  rotate_left
  ·intro w' h; (try dsimp only at h); go_simp <;> with_reducible rfl
  try simp only [tda, tdb, tdc, Act.put, tdd, tde, tdf]
  refine Kept.only (i := 0) (by kernel_rfl) rfl (fun K hK => ?_)
  go_simp
  refine (rTwo45_any _).mono ?_; rintro e w3 ⟨rfl, hb3⟩; have HF3 := Lib.hid ((HB.out.on (bl_drew _)).on hb3); clear hb3; have e0 := HF3.out.d0; have e1 := HF3.out.d1
  refine hK.out _ _ (⟨e0, e1⟩) (fun hHeld2 => ?_)
  clear hK K
  replace hHeld := hHeld2
  clear hHeld2
  try simp only [tda, tdb, tdc, Act.put, tdd, tde, tdf]
  refine Kept.only (i := 2) (by kernel_rfl) rfl (fun K hK => ?_)
  go_simp
  refine (rMCheck_any _ 2 1 cols (.slice none 0 0) (.slice RA r rc) [] rows (SI.none_ _) (HV.out.below HF3.out.bel (Nat.le_refl _))).mono ?_; rintro e w4 ⟨rfl, hb4⟩; rw [HM0.out]; have HF4 := Lib.hid (HF3.out.on hb4); clear hb4; have f0 := HF4.out.d0; have f1 := HF4.out.d1
  refine hK.out _ _ (⟨f0, f1⟩) (fun hHeld2 => ?_)
  clear hK K
  replace hHeld := hHeld2
  clear hHeld2
  try simp only [tda, tdb, tdc, Act.put, tdd, tde, tdf]
  refine Kept.only (i := 3) (by kernel_rfl) rfl (fun K hK => ?_)
  go_simp
  refine hK.out _ _ hHeld (fun hHeld2 => ?_)
  clear hK K
  clear hHeld2
  refine Kept.done (by kernel_rfl) ?_
  try simp only [tda, tdb, tdc, Act.put, tdd, tde, tdf]
  clear hHeld
  clear d0 d1 e0 e1
  go_wp2_with fail
  go_ret
  exact ⟨by rw [HE.out]; rfl, HF4.out.bel⟩
 subst hc
 have hcb : ((m : Int) != (m : Int)) = false := by simp
 have HBAD : Hid (∀ k, k < m → ¬ okB (inp.getD k 0) → inpE (m : Int) inp t = 6) := hid' fun k hk h => inpE_bad (by rw [HM.out]) (by rw [HM.out]; exact hk) h
 have HRNG : Hid ((∀ k, k < m → okB (inp.getD k 0)) → (t < 0 ∨ 256 < t) → inpE (m : Int) inp t = 6) := hid' fun h ht => inpE_rng (by rw [HM.out]) (fun k hk => h k (by rw [← HM.out]; exact hk)) ht
 have HOK : Hid ((∀ k, k < m → okB (inp.getD k 0)) → ¬ (t < 0 ∨ 256 < t) → inpE (m : Int) inp t = 0) := hid' fun h ht => inpE_ok (by rw [HM.out]) (fun k hk => h k (by rw [← HM.out]; exact hk)) ht
 go_enter Try.func7, Try.ntmps7
 go_wp2_with fail
 generalize w.alloc (.cells #[.int .i64 (m : Int), .slice RA r rc] 24) = w0 at *
 have d0 := HB.out.d0; have d1 := HB.out.d1
 go_wp2_with fail
 refine Kept.start (S := fun w' => w'.cell? ⟨w.heap.size, 0, none⟩ = some (.int .i64 (m : Int)) ∧ w'.cell? ⟨w.heap.size, 1, none⟩ = some (.slice RA r rc)) (by kernel_rfl) (⟨d0, d1⟩) (fun hHeld => ?_)
 change Kept _ _ _ _ 4 _ _ _
 refine Kept.tk 1 (v := ?_) rfl ?_ hHeld ?_
 rotate_left
 ·intro w' h; (try dsimp only at h); go_simp <;> with_reducible rfl
 try simp only [tda, tdb, tdc, Act.put, tdd, tde, tdf]
 refine Kept.only (i := 0) (by kernel_rfl) rfl (fun K hK => ?_)
 go_simp
 refine (rTwo45_any _).mono ?_; rintro e w3 ⟨rfl, hb3⟩; have HF3 := Lib.hid ((HB.out.on (bl_drew _)).on hb3); clear hb3; have e0 := HF3.out.d0; have e1 := HF3.out.d1
 refine hK.out _ _ (⟨e0, e1⟩) (fun hHeld2 => ?_)
 clear hK K
 replace hHeld := hHeld2
 clear hHeld2
 try simp only [tda, tdb, tdc, Act.put, tdd, tde, tdf]
 refine Kept.only (i := 2) (by kernel_rfl) rfl (fun K hK => ?_)
 go_simp
 refine (rMCheck_any _ 2 1 (m : Int) (.slice none 0 0) (.slice RA r rc) [] rows (SI.none_ _) (HV.out.below HF3.out.bel (Nat.le_refl _))).mono ?_; rintro e w4 ⟨rfl, hb4⟩; rw [HM0.out]; have HF4 := Lib.hid (HF3.out.on hb4); clear hb4; have f0 := HF4.out.d0; have f1 := HF4.out.d1
 refine hK.out _ _ (⟨f0, f1⟩) (fun hHeld2 => ?_)
 clear hK K
 replace hHeld := hHeld2
 clear hHeld2
 try simp only [tda, tdb, tdc, Act.put, tdd, tde, tdf]
 refine Kept.only (i := 3) (by kernel_rfl) rfl (fun K hK => ?_)
 go_simp
 refine hK.out _ _ hHeld (fun hHeld2 => ?_)
 clear hK K
 clear hHeld2
 refine Kept.done (by kernel_rfl) ?_
 try simp only [tda, tdb, tdc, Act.put, tdd, tde, tdf]
 clear hHeld
 clear d0 d1 e0 e1
 have HI0 := Lib.hid (HI.out.below HF4.out.bel (Nat.le_refl _))
 go_wp2_with fail
 clear f0 f1
 go_loop [8] (fun i => ∃ k : Nat, k ≤ m ∧ i = .int .i64 (k : Int) ∧ Hid (∀ i, i < k → okB (inp.getD i 0))) (fun i => m - (intOf i).toNat)
 case atStart => exact ⟨0, Nat.zero_le _, rfl, hid' fun i hi => absurd hi (Nat.not_lt_zero _)⟩
 case round =>
  obtain ⟨k, hk, rfl, HG⟩ := hrel
  by_cases hkm : k < m
  ·obtain ⟨ad, x, rfl, hcc, _, HX⟩ := HI0.out.elt (k := k) (by rw [HM.out]; exact hkm)
   by_cases hx1 : x < -1048576
   ·have e1 : decide (x < -1048576) = true := decide_eq_true hx1
    have HE : Hid (inpE (m : Int) inp t = 6) := hid' (HBAD.out k hkm (by rw [HX.out]; unfold okB; omega))
    go_wp2_with fail
    go_ret
    exact ⟨by rw [HE.out]; rfl, HF4.out.bel⟩
   ·have e1 : decide (x < -1048576) = false := decide_eq_false hx1
    by_cases hx2 : 1048576 < x
    ·have e2 : decide (1048576 < x) = true := decide_eq_true hx2
     have HE : Hid (inpE (m : Int) inp t = 6) := hid' (HBAD.out k hkm (by rw [HX.out]; unfold okB; omega))
     go_wp2_with fail
     go_ret
     exact ⟨by rw [HE.out]; rfl, HF4.out.bel⟩
    ·have e2 : decide (1048576 < x) = false := decide_eq_false hx2
     have HG2 : Hid (∀ i, i < k + 1 → okB (inp.getD i 0)) := hid' fun i hi => by
      by_cases e : i = k
      ·rw [e, HX.out]; exact ⟨by omega, by omega⟩
      ·exact HG.out i (by omega)
     go_wp2_with fail
     exact ⟨⟨k + 1, by omega, by push_cast; rfl, HG2⟩, by simp only [intOf]; omega⟩
  ·obtain rfl : k = m := by omega
   by_cases ht1 : t < 0
   ·have e1 : decide (t < 0) = true := decide_eq_true ht1
    have HE := Lib.hid (HRNG.out HG.out (.inl ht1))
    go_wp2_with fail
    go_ret
    exact ⟨by rw [HE.out]; rfl, HF4.out.bel⟩
   ·have e1 : decide (t < 0) = false := decide_eq_false ht1
    by_cases ht2 : 256 < t
    ·have e2 : decide (256 < t) = true := decide_eq_true ht2
     have HE := Lib.hid (HRNG.out HG.out (.inr ht2))
     go_wp2_with fail
     go_ret
     exact ⟨by rw [HE.out]; rfl, HF4.out.bel⟩
    ·have e2 : decide (256 < t) = false := decide_eq_false ht2
     have HE := Lib.hid (HOK.out HG.out (by omega))
     go_wp2_with fail
     go_ret
     exact ⟨by rw [HE.out]; rfl, HF4.out.bel⟩
def few45 (a b cols : Int) (rows : List (List Int)) : Bool := !(decide (a < (rows.length : Int)) || decide (b < cols)) && rows.all fun r => decide ((r.length : Int) ≤ b)
set_option maxHeartbeats 8000000 in
theorem few45_any (w : World) (a b cols : Int) (rv : Value) (rows : List (List Int)) (hv : SS w rv rows) :
   Calls Try.prog 6 #[.agg #[.int .i64 cols, rv], .int .i64 a, .int .i64 b] w (RetB w (few45 a b cols rows)) := by
 have HV := Lib.hid hv; clear hv
 obtain ⟨RA, rc, rfl, hs⟩ := HV.out
 have hrl := hs.len
 clear hs
 have HF := Lib.hid (MBox.mk' w cols (.slice RA rows.length rc))
 have HR1 : Hid (a < (rows.length : Int) → few45 a b cols rows = false) := hid' fun h => by unfold few45; rw [decide_eq_true h]; rfl
 have HR2 : Hid (b < cols → few45 a b cols rows = false) := hid' fun h => by unfold few45; rw [decide_eq_true h]; simp
 have HR3 : Hid (¬ a < (rows.length : Int) → ¬ b < cols → few45 a b cols rows = rows.all fun r => decide ((r.length : Int) ≤ b)) := hid' fun h1 h2 => by unfold few45; rw [decide_eq_false h1, decide_eq_false h2]; rfl
 generalize hr : rows.length = r at *
 have HR := Lib.hid hr; clear hr
 by_cases h1 : a < (r : Int)
 · have b1 : decide (a < (r : Int)) = true := by simpa using h1
   have HE : Hid (few45 a b cols rows = false) := HR1.out h1
   clear h1
   go_enter Try.func6, Try.ntmps6
   go_wp2_with fail
   go_ret
   exact ⟨by rw [HE.out]; rfl, HF.out.bel⟩
 have b1 : decide (a < (r : Int)) = false := by simpa using h1
 by_cases h2 : b < cols
 · have b2 : decide (b < cols) = true := by simpa using h2
   have HE : Hid (few45 a b cols rows = false) := HR2.out h2
   clear h1 h2
   go_enter Try.func6, Try.ntmps6
   go_wp2_with fail
   go_ret
   exact ⟨by rw [HE.out]; rfl, HF.out.bel⟩
 have b2 : decide (b < cols) = false := by simpa using h2
 have HE : Hid (few45 a b cols rows = rows.all fun r => decide ((r.length : Int) ≤ b)) := HR3.out h1 h2
 clear h1 h2 HR1 HR2 HR3
 go_enter Try.func6, Try.ntmps6
 go_wp2_with fail
 clear b1 b2
 generalize hw0 : w.alloc (.cells #[.int .i64 cols, .slice RA r rc] 24) = w0 at *
 clear hw0
 have d0 := HF.out.d0; have d1 := HF.out.d1
 go_loop [7] (fun i => ∃ k : Nat, k ≤ r ∧ i = .int .i64 (k : Int) ∧ Hid (∀ j, j < k → ((rows.getD j []).length : Int) ≤ b)) (fun i => r - (intOf i).toNat)
 case atStart => exact ⟨0, Nat.zero_le _, rfl, hid' fun j hj => absurd hj (by omega)⟩
 case round =>
   obtain ⟨k, hk, rfl, HG⟩ := hrel
   by_cases hlt : k < r
   · obtain ⟨ad, Ak, ck, x, rfl, hc, HX, HXE⟩ := (HV.out.below HF.out.bel (Nat.le_refl _)).eltA (k := k) (by rw [HR.out]; exact hlt)
     by_cases hx : b < (x.length : Int)
     · have HE2 : Hid (few45 a b cols rows = false) := hid' (by
         rw [HE.out]
         exact all_not (k := k) (by rw [HR.out]; exact hlt) (by rw [HXE.out]; exact decide_eq_false (by omega)))
       go_wp2_with fail
       go_ret
       exact ⟨by rw [HE2.out]; rfl, HF.out.bel⟩
     · have HXX : Hid ((x.length : Int) ≤ b) := hid' (by omega)
       go_wp2_with fail
       go_round
       case rel => exact ⟨k + 1, by omega, by go_num, hid' fun j hj => by
         by_cases e : j = k
         · subst e; rw [HXE.out]; exact HXX.out
         · exact HG.out j (by omega)⟩
       case measure => simp [intOf]; omega
   · obtain rfl : r = k := by omega
     have HE2 : Hid (few45 a b cols rows = true) := hid' (by
       rw [HE.out]
       exact all_of_getD fun j hj => decide_eq_true (HG.out j (by rw [← HR.out]; exact hj)))
     go_wp2_with fail
     go_ret
     exact ⟨by rw [HE2.out]; rfl, HF.out.bel⟩
theorem SS.two {w : World} {g : Nat} {u0 u1 : Value} {x0 x1 : List Int} (h : Blk w g 25 [u0, u1]) (h0 : SI w u0 x0) (h1 : SI w u1 x1) : SS w (.slice (some ⟨g, 0, none⟩) 2 2) [x0, x1] := by
 refine ⟨some ⟨g, 0, none⟩, 2, rfl, by simp, by simp, fun k hk => ?_⟩
 match k, hk with
 | 0, _ => exact ⟨⟨g, 0, none⟩, u0, rfl, by have := h.cell 0; simpa [Addr.add] using this, h0⟩
 | 1, _ => exact ⟨⟨g, 0, none⟩, u1, rfl, by have := h.cell 1; simpa [Addr.add] using this, h1⟩
def pathR : List (List Int) := [[1, 1, 0], [0, 1, 1]]
def RetPath (w : World) (e : Ending) (w' : World) : Prop := ∃ rv, e = .returned (.agg #[.int .i64 3, rv]) ∧ SS w' rv pathR ∧ Below w.heap.size w w'
theorem wf3 (a b c : Int) (ha : a = 0 ∨ a = 1) (hb : b = 0 ∨ b = 1) (hc : c = 0 ∨ c = 1) : ∀ k, I64 (([a, b, c] : List Int).getD k 0) := fun k => by
 match k with
 | 0 => exact I64.of_small (by simp; omega) (by simp; omega)
 | 1 => exact I64.of_small (by simp; omega) (by simp; omega)
 | 2 => exact I64.of_small (by simp; omega) (by simp; omega)
 | k + 3 => exact I64.zero
def pathW (w : World) (o : Obj) : World := (((w.alloc o).alloc (.cells #[.int .i64 1, .int .i64 1, .int .i64 0] 3)).alloc (.cells #[.int .i64 0, .int .i64 1, .int .i64 1] 3)).alloc (.cells #[.slice (some ⟨w.heap.size + 1, 0, none⟩) 3 3, .slice (some ⟨w.heap.size + 1 + 1, 0, none⟩) 3 3] 25)
theorem pathW_ok (w : World) (o : Obj) : SS (pathW w o) (.slice (some ⟨w.heap.size + 1 + 1 + 1, 0, none⟩) 2 2) pathR ∧ Below w.heap.size w (pathW w o) := by
 obtain ⟨w1, hw1⟩ : ∃ w1, w1 = w.alloc o := ⟨_, rfl⟩
 have s1 : w1.heap.size = w.heap.size + 1 := by rw [hw1, World.size_alloc]
 have hb1 : Below w.heap.size w w1 := by rw [hw1]; exact bl_alloc _ _
 obtain ⟨w2, hw2⟩ : ∃ w2, w2 = w1.alloc (.cells #[.int .i64 1, .int .i64 1, .int .i64 0] 3) := ⟨_, rfl⟩
 have r2 : RI w2 w1.heap.size [1, 1, 0] := by rw [hw2]; exact Blk.new w1 3 [.int .i64 1, .int .i64 1, .int .i64 0]
 have b2 : Below w1.heap.size w1 w2 := by rw [hw2]; exact bl_alloc _ _
 have s2 : w2.heap.size = w.heap.size + 1 + 1 := by rw [hw2, World.size_alloc, s1]
 obtain ⟨w3, hw3⟩ : ∃ w3, w3 = w2.alloc (.cells #[.int .i64 0, .int .i64 1, .int .i64 1] 3) := ⟨_, rfl⟩
 have r3 : RI w3 w2.heap.size [0, 1, 1] := by rw [hw3]; exact Blk.new w2 3 [.int .i64 0, .int .i64 1, .int .i64 1]
 have b3 : Below w2.heap.size w2 w3 := by rw [hw3]; exact bl_alloc _ _
 have s3 : w3.heap.size = w.heap.size + 1 + 1 + 1 := by rw [hw3, World.size_alloc, s2]
 rw [s1] at r2
 rw [s2] at r3
 obtain ⟨w4, hw4⟩ : ∃ w4, w4 = w3.alloc (.cells #[.slice (some ⟨w.heap.size + 1, 0, none⟩) 3 3, .slice (some ⟨w.heap.size + 1 + 1, 0, none⟩) 3 3] 25) := ⟨_, rfl⟩
 have r4 : Blk w4 w3.heap.size 25 [.slice (some ⟨w.heap.size + 1, 0, none⟩) 3 3, .slice (some ⟨w.heap.size + 1 + 1, 0, none⟩) 3 3] := by rw [hw4]; exact Blk.new w3 25 [.slice (some ⟨w.heap.size + 1, 0, none⟩) 3 3, .slice (some ⟨w.heap.size + 1 + 1, 0, none⟩) 3 3]
 have b4 : Below w3.heap.size w3 w4 := by rw [hw4]; exact bl_alloc _ _
 rw [s3] at r4
 have q2 : RI w4 (w.heap.size + 1) [1, 1, 0] := (r2.belowS b3).belowS b4
 have q3 : RI w4 (w.heap.size + 1 + 1) [0, 1, 1] := r3.belowS b4
 have e : pathW w o = w4 := by rw [hw4, hw3, hw2, hw1]; rfl
 rw [e]
 refine ⟨SS.two r4 ?_ ?_, bl_trans (bl_trans (bl_trans hb1 b2) b3) b4⟩
 ·exact RI.si q2 (by simp) (wf3 1 1 0 (by omega) (by omega) (by omega))
 ·exact RI.si q3 (by simp) (wf3 0 1 1 (by omega) (by omega) (by omega))
theorem pathW_at (w : World) (o : Obj) : (pathW w o).heap[w.heap.size]? = some o := by
 unfold pathW
 rw [heap_alloc_old _ _ (by simp only [World.size_alloc]; omega), heap_alloc_old _ _ (by simp only [World.size_alloc]; omega), heap_alloc_old _ _ (by simp only [World.size_alloc]; omega), heap_alloc_new]
set_option maxHeartbeats 4000000 in
theorem path45_any (w : World) : Calls Try.prog 15 #[] w (RetPath w) := by
 have h1 := fun o => pathW_ok w o
 have h2 := fun o => pathW_at w o
 have HS := Lib.hid h1; have HH := Lib.hid h2
 clear h1 h2
 go_enter Try.func15, Try.ntmps15
 go_wp2_with fail
 refine bodyPost_ret (results_cell_row rfl _ _ w.heap.size _ _ _ _ rfl (HH.out _) rfl rfl rfl) rfl ?_
 exact ⟨_, rfl, (HS.out _).1, (HS.out _).2⟩
theorem path_mw : mwE 3 pathR [1, 0, 0] = 0 := by
 have h1 : bitE 3 pathR = 0 := by unfold bitE; rw [matE_ok field_two', order21]; decide
 unfold mwE
 rw [if_neg (by simpa using h1)]
 decide
theorem tmod_two (y : Int) : ∃ z, y.tmod 2 = z ∧ -1 ≤ z ∧ z ≤ 1 := by
 refine ⟨y.tmod 2, rfl, ?_, ?_⟩
 ·have := Int.lt_tmod_of_pos y (show (0 : Int) < 2 by omega); omega
 ·have := Int.tmod_lt_of_pos y (show (0 : Int) < 2 by omega); omega
theorem modP21 : ModP 2 1 [] := ⟨fun _ => rfl, fun h => absurd rfl h⟩
theorem order21_ne : orderF 2 1 ≠ 0 := by rw [order21]; decide
theorem rNull2_any (w : World) (n : Nat) (v : Value) (rows : List (List Int)) (hv : SS w v rows) (hm : MR n rows) :
  Calls Try.prog 27 #[.agg #[.int .i64 2, .int .i64 1, .slice none 0 0], v, .int .i64 (n : Int)] w (RetNu w (nullL (refOps 2 1 []) rows n)) :=
 rNull_any w 2 1 n (.slice none 0 0) v [] rows (SI.none_ w) hv (by rw [order21]; exact two_fld) order21_ne modP21 (by rw [order21]; exact bit_rows hm.br) (by have := hm.nn; omega) (by have := hm.rl; omega)
theorem rAddTo2_any (w : World) (v u : Value) (xs ys : List Int) (hv : SI w v xs) (hu : SI w u ys) (hn : xs.length ≤ 100000000) (hxy : xs.length ≤ ys.length) :
  Calls Try.prog 28 #[.agg #[.int .i64 2, .int .i64 1, .slice none 0 0], v, .int .i64 1, u] w (RetO w (addToL (refOps 2 1 []) xs 1 ys)) :=
 rAddTo_any w 2 1 1 (.slice none 0 0) v u [] xs ys (SI.none_ w) hv hu hn hxy order21_ne modP21
theorem null2_rows {n : Nat} {rows : List (List Int)} (hm : MR n rows) : Rows 2 n (nullL (refOps 2 1 []) rows n) := (null_rref two_fld (bit_rows hm.br)).rows
theorem null2_len {n : Nat} {rows : List (List Int)} (hm : MR n rows) : (nullL (refOps 2 1 []) rows n).length ≤ n := by
 have hN := null_rref two_fld (bit_rows hm.br)
 have h1 := (elimTo_piv (refOps 2 1 []) (nullTo (refOps 2 1 []) (canonL (refOps 2 1 []) rows n) (pivL (refOps 2 1 []) rows n) n n) n).2
 rw [← hN.len]; exact h1
set_option maxHeartbeats 16000000 in
theorem cw_any (w : World) (n : Nat) (rv mv : Value) (rows : List (List Int)) (msg : List Int) (hv : SS w rv rows) (hg : SI w mv msg) (hm : MR n rows) :
  Calls Try.prog 13 #[.agg #[.int .i64 (n : Int), rv], mv] w (RetO w (cwL (refOps 2 1 []) (nullL (refOps 2 1 []) rows n) msg n)) := by
 have HV := Lib.hid hv; have HG := Lib.hid hg; have HM := Lib.hid hm
 have hnn := hm.nn
 have HNR := Lib.hid (null2_rows hm); have hnl := null2_len hm
 have HCS := Lib.hid (fun i hi => (cwTo_span two_fld (null2_rows hm) msg i hi).1)
 have HCE : Hid (cwL (refOps 2 1 []) (nullL (refOps 2 1 []) rows n) msg n = cwTo (refOps 2 1 []) (nullL (refOps 2 1 []) rows n) msg n (min (nullL (refOps 2 1 []) rows n).length msg.length)) := rfl
 have HNU := Lib.hid (fun w' (hs : SS w' rv rows) => rNull2_any w' n rv rows hs hm)
 have HAD := Lib.hid (fun w' v u xs ys h1 h2 h3 h4 => rAddTo2_any w' v u xs ys h1 h2 h3 h4)
 clear hv hg hm
 obtain ⟨RA, rc, rfl, _⟩ := HV.out
 obtain ⟨GA, gc, rfl, hga⟩ := id HG.out
 have hgl := hga.len
 clear hga
 have HF := Lib.hid (MBox.mk' w n (.slice RA rows.length rc))
 generalize nullL (refOps 2 1 []) rows n = N at *
 generalize refOps 2 1 [] = O at *
 obtain ⟨k1, hk1⟩ : ∃ k1, k1 = msg.length := ⟨_, rfl⟩
 obtain ⟨k2, hk2⟩ : ∃ k2, k2 = N.length := ⟨_, rfl⟩
 rw [← hk1] at HG hgl HCE ⊢
 rw [← hk2] at hnl HCE HCS
 have HK1 := Lib.hid hk1; have HK2 := Lib.hid hk2; clear hk1 hk2
 have hmk := fun (w : World) => run_mkI n (by omega) w
 go_enter Try.func13, Try.ntmps13
 go_wp2_with fail
 generalize hw0 : w.alloc (.cells #[.int .i64 (n : Int), .slice RA rows.length rc] 24) = w0 at *
 clear hw0
 have d0 := HF.out.d0; have d1 := HF.out.d1
 go_wp2_with fail
 refine Kept.start (S := fun w' => w'.cell? ⟨w.heap.size, 0, none⟩ = some (.int .i64 (n : Int)) ∧ w'.cell? ⟨w.heap.size, 1, none⟩ = some (.slice RA rows.length rc)) (by kernel_rfl) (⟨d0, d1⟩) (fun hHeld => ?_)
 change Kept _ _ _ _ 7 _ _ _
 refine Kept.tk 1 (v := ?_) rfl ?_ hHeld ?_
 rotate_left
 ·intro w' h; (try dsimp only at h); go_simp <;> with_reducible rfl
 try simp only [tda, tdb, tdc, Act.put, tdd, tde, tdf]
 refine Kept.tk 2 (v := ?_) rfl ?_ hHeld ?_
 rotate_left
 ·intro w' h; (try dsimp only at h); go_simp <;> with_reducible rfl
 try simp only [tda, tdb, tdc, Act.put, tdd, tde, tdf]
 refine Kept.tk 3 (v := ?_) rfl ?_ hHeld ?_
 rotate_left
 ·intro w' h; (try dsimp only at h); go_simp <;> with_reducible rfl
 try simp only [tda, tdb, tdc, Act.put, tdd, tde, tdf]
 refine Kept.tk 4 (v := ?_) rfl ?_ hHeld ?_
 rotate_left
 ·intro w' h; (try dsimp only at h); go_simp <;> with_reducible rfl
 try simp only [tda, tdb, tdc, Act.put, tdd, tde, tdf]
 refine Kept.only (i := 0) (by kernel_rfl) rfl (fun K hK => ?_)
 go_simp
 refine (rTwo45_any _).mono ?_; rintro e w1 ⟨rfl, hb1⟩; have HF1 := Lib.hid ((HF.out.on (bl_drew _)).on hb1); clear hb1; have e0 := HF1.out.d0; have e1 := HF1.out.d1
 refine hK.out _ _ (⟨e0, e1⟩) (fun hHeld2 => ?_)
 clear hK K
 replace hHeld := hHeld2
 clear hHeld2
 try simp only [tda, tdb, tdc, Act.put, tdd, tde, tdf]
 refine Kept.only (i := 5) (by kernel_rfl) rfl (fun K hK => ?_)
 go_simp
 refine (HNU.out _ (HV.out.below HF1.out.bel (Nat.le_refl _))).mono ?_; rintro e w2 ⟨u2, rfl, h2, _, hb2⟩; obtain ⟨NA, nc, rfl, hns⟩ := h2.out; have HN2 := Lib.hid (show SS w2 (.slice NA N.length nc) N from ⟨NA, nc, rfl, hns⟩); have HF2 := Lib.hid (HF1.out.on hb2); clear hb2 h2 hns; have f0 := HF2.out.d0; have f1 := HF2.out.d1
 refine hK.out _ _ (⟨f0, f1⟩) (fun hHeld2 => ?_)
 clear hK K
 replace hHeld := hHeld2
 clear hHeld2
 try simp only [tda, tdb, tdc, Act.put, tdd, tde, tdf]
 refine Kept.only (i := 6) (by kernel_rfl) rfl (fun K hK => ?_)
 go_simp
 refine hK.out _ _ hHeld (fun hHeld2 => ?_)
 clear hK K
 clear hHeld2
 refine Kept.done (by kernel_rfl) ?_
 try simp only [tda, tdb, tdc, Act.put, tdd, tde, tdf]
 clear hHeld
 clear d0 d1 e0 e1
 rw [← HK2.out] at HN2 ⊢
 go_wp2_with fail
 have HB3 := Lib.hid (bl_alloc w2 (.cells (madeCells #[.int .i64 0] n) 3))
 have HC0 : Hid (OI w2.heap.size (w2.alloc (.cells (madeCells #[.int .i64 0] n) 3)) (.slice (some ⟨w2.heap.size, 0, none⟩) n n) (cwTo O N msg n 0)) := hid' (OI.made (B := w2.heap.size) w2 n (Nat.le_refl _) (by omega))
 clear f0 f1 hmk
 go_loopw [6, 7] (fun u i wr => ∃ (k : Nat) (UA : Option Addr) (uc : Nat), k ≤ k1 ∧ k ≤ k2 ∧ i = .int .i64 (k : Int) ∧ u = .slice UA n uc ∧ Hid (OI w2.heap.size wr (.slice UA n uc) (cwTo O N msg n k)) ∧ Hid (Below w2.heap.size w2 wr)) (fun _ i _ => (k1 - intOf i).toNat)
 case atStart => exact ⟨0, _, _, Nat.zero_le _, Nat.zero_le _, rfl, rfl, HC0, HB3⟩
 case round =>
  clear HC0 HB3
  obtain ⟨k, UA, uc, hkx, hkr, rfl, rfl, HOI, HBr⟩ := hrel
  have HBW := Lib.hid (bl_trans HF2.out.bel HBr.out)
  by_cases hlt : k < k1 ∧ k < k2
  ·obtain ⟨hl1, hl2⟩ := hlt
   obtain ⟨xa, y, rfl, hc, _, HY⟩ := (HG.out.below HBW.out (Nat.le_refl _)).elt (k := k) (by rw [← HK1.out]; exact hl1)
   obtain ⟨z, hz, hz1, hz2⟩ : ∃ z, y.tmod 2 = z ∧ -1 ≤ z ∧ z ≤ 1 := tmod_two y
   by_cases hy0 : z = 0
   ·have hyb : (z != 0) = false := by rw [hy0]; rfl
    have HCN : Hid (cwTo O N msg n (k + 1) = cwTo O N msg n k) := hid' (by have h := cwTo_no (O := O) (l := N) (msg := msg) (n := n) (k := k) (by rw [HY.out, hz]; exact hy0); exact h)
    clear hy0
    go_wp2_with fail
    exact ⟨⟨k + 1, _, _, by omega, by omega, rfl, rfl, by rw [HCN.out]; exact HOI, HBr⟩, by simp only [intOf]; omega⟩
   ·have hyb : (z != 0) = true := by rw [bne_iff_ne]; exact hy0
    obtain ⟨ra, Ak, ck, r, rfl, hd, HRR, HRE⟩ := (HN2.out.below HBr.out (Nat.le_refl _)).eltA (k := k) (by rw [← HK2.out]; exact hl2)
    have HRN : Hid (r.length = n) := by show _ = _; rw [← HRE.out]; exact (HNR.out k (by rw [← HK2.out]; exact hl2)).1
    have HCN : Hid (cwTo O N msg n (k + 1) = addToL O (cwTo O N msg n k) 1 r) := hid' (by have h := cwTo_yes (O := O) (l := N) (msg := msg) (n := n) (k := k) (by rw [HY.out, hz]; exact hy0); rw [HRE.out] at h; exact h)
    have HCL : Hid ((cwTo O N msg n k).length = n) := cwTo_len _ _ _ _ _
    have HCI := Lib.hid (HOI.out.si (by rw [HCL.out]; omega) (fun j => by have := HCS.out k (by omega) j; exact I64.of_small (by omega) (by omega)))
    have HD := Lib.hid hd
    clear hy0
    go_wp2_with fail
    refine Kept.start (S := fun w' => w'.cell? (ra.add k) = some (.slice Ak r.length ck)) (by kernel_rfl) (hd) (fun hHeld => ?_)
    change Kept _ _ _ _ 8 _ _ _
    refine Kept.tk 1 (v := ?_) rfl ?_ hHeld ?_
    rotate_left
    ·intro w' h; (try dsimp only at h); go_simp <;> with_reducible rfl
    try simp only [tda, tdb, tdc, Act.put, tdd, tde, tdf]
    refine Kept.tk 2 (v := ?_) rfl ?_ hHeld ?_
    rotate_left
    ·intro w' h; (try dsimp only at h); go_simp <;> with_reducible rfl
    try simp only [tda, tdb, tdc, Act.put, tdd, tde, tdf]
    refine Kept.tk 3 (v := ?_) rfl ?_ hHeld ?_
    rotate_left
    ·intro w' h; (try dsimp only at h); go_simp <;> with_reducible rfl
    try simp only [tda, tdb, tdc, Act.put, tdd, tde, tdf]
    refine Kept.tk 4 (v := ?_) rfl ?_ hHeld ?_
    rotate_left
    ·intro w' h; (try dsimp only at h); go_simp <;> with_reducible rfl
    try simp only [tda, tdb, tdc, Act.put, tdd, tde, tdf]
    refine Kept.tk 5 (v := ?_) rfl ?_ hHeld ?_
    rotate_left
    ·intro w' h; (try dsimp only at h); go_simp <;> with_reducible rfl
    try simp only [tda, tdb, tdc, Act.put, tdd, tde, tdf]
    refine Kept.only (i := 0) (by kernel_rfl) rfl (fun K hK => ?_)
    go_simp
    refine (rTwo45_any _).mono ?_; rintro e w3 ⟨rfl, hb3⟩; have HB3 := Lib.hid (bl_trans (bl_drew wr) hb3); clear hb3; have hd3 := cell_below HB3.out HD.out
    refine hK.out _ _ (hd3) (fun hHeld2 => ?_)
    clear hK K
    replace hHeld := hHeld2
    clear hHeld2
    try simp only [tda, tdb, tdc, Act.put, tdd, tde, tdf]
    refine Kept.only (i := 6) (by kernel_rfl) rfl (fun K hK => ?_)
    go_simp
    have H3 := HAD.out w3 (.slice UA n uc) (.slice Ak r.length ck) (cwTo O N msg n k) r (HCI.out.below HB3.out (Nat.le_refl _)) (HRR.out.si.below HB3.out (Nat.le_refl _)) (by rw [HCL.out]; omega) (by rw [HCL.out, HRN.out]; exact Nat.le_refl _); refine H3.mono ?_; rintro e w4 ⟨u4, rfl, ho4, hb4⟩; obtain ⟨A4, c4, rfl⟩ := ho4.form'; rw [← HCN.out, cwTo_len] at ho4 ⊢; have HO4 := Lib.hid (ho4.mono (B' := w2.heap.size) (by have h1 := HBr.out.size; have h2 := HB3.out.size; omega)); have HB4 := Lib.hid (bl_trans HBr.out (bl_trans HB3.out hb4)); have hd4 := cell_below (bl_trans HB3.out hb4) HD.out; clear hb4 ho4
    refine hK.out _ _ (hd4) (fun hHeld2 => ?_)
    clear hK K
    replace hHeld := hHeld2
    clear hHeld2
    try simp only [tda, tdb, tdc, Act.put, tdd, tde, tdf]
    refine Kept.only (i := 7) (by kernel_rfl) rfl (fun K hK => ?_)
    go_simp
    refine hK.out _ _ hHeld (fun hHeld2 => ?_)
    clear hK K
    clear hHeld2
    refine Kept.done (by kernel_rfl) ?_
    try simp only [tda, tdb, tdc, Act.put, tdd, tde, tdf]
    clear hHeld
    clear hd hd3 hd4 hc
    go_wp2_with fail
    exact ⟨⟨k + 1, _, _, by omega, by omega, rfl, rfl, HO4, HB4⟩, by simp only [intOf]; omega⟩
  ·have HE : Hid (cwL O N msg n = cwTo O N msg n k) := by show _ = _; rw [HCE.out, show min k2 k1 = k by omega]
   have hsz := HF2.out.bel.size
   have HOW := Lib.hid (HOI.out.mono (B' := w.heap.size) hsz)
   by_cases hl1 : k < k1
   ·have hl2 : ¬ k < k2 := fun h => hlt ⟨hl1, h⟩
    clear hlt hsz
    go_wp2_with fail
    go_ret
    exact ⟨_, rfl, by rw [HE.out]; exact HOW.out, HBW.out⟩
   ·clear hlt hsz
    by_cases hl2 : k < k2
    all_goals
     go_wp2_with fail
     go_ret
     exact ⟨_, rfl, by rw [HE.out]; exact HOW.out, HBW.out⟩
end Go.Proofs.Ytlofhnmpbpjigaa
