/- Texts of a claim, merged: words, plain facts and walks that the last of its texts uses. -/
import Derived.Test.YtgabhlalamnbgaaQ1
import Derived.Test.YtgabhlalamnbgaaQ9
import Derived.Test.YtgabhlalamnbgaaQ11
import Derived.Test.YtgabhlalamnbgaaQ16
set_option linter.unusedSimpArgs false
set_option linter.unusedVariables false

/- (*graph).round. -/
namespace Go.Proofs.Ytgabhlalamnbgaa
open Go.RowKit
set_option linter.unusedVariables false
set_option maxRecDepth 100000

theorem set_self {l : List (List Int)} {j : Nat} (h : j < l.length) : l.set j (l.getD j []) = l := by
  refine List.ext_getElem (by simp) fun i h1 h2 => ?_
  by_cases e : j = i
  · subst e; simp [List.getD, h]
  · simp [List.getElem_set, e]
set_option maxHeartbeats 64000000 in
theorem ground_any (w : World) (g n : Nat) (iv dv : Value) (rows : List (List Int)) (inp : List Int) (F : Nat → Nat → Int) (h : GR w g (cksTo rows n rows.length) (atTo rows n rows.length 0)) (hi : SI w iv inp) (hd : SS w dv (dnM rows n F))
    (hF : ∀ j p, -cer ≤ F j p ∧ F j p ≤ cer) (hb : BI n rows inp) :
    Calls Try.prog 59 #[.pointer (some ⟨g, 0, none⟩), iv, dv] w (RetR w (dnM rows n (nxM rows n inp F))) := by
  have HCL := Lib.hid (fun w' (hw : Below w.heap.size w w') p (hp : p < n) (j : Nat) => gsum_any w' g n p (j : Int) iv dv rows inp F (h.below hw (Nat.le_refl _)) (hi.below hw (Nat.le_refl _)) (hd.below hw (Nat.le_refl _)) hF hp hb.nn hb.rl hb.il hb.ib)
  have HMG := Lib.hid (gmsg_any w g n rows h hb.nn hb.rl)
  have hnn := hb.nn; have hrl := hb.rl
  obtain ⟨cv, gA, h0, h1, hs, he⟩ := h
  have HSS := Lib.hid hs
  have HH0 := Lib.hid h0
  obtain ⟨CA, cc, rfl, _⟩ := hs
  obtain ⟨IA, ic, rfl, _⟩ := hi
  rw [hb.il] at *
  obtain ⟨DA, dc, rfl, _⟩ := hd
  rw [dnM_len] at *
  rw [cksTo_len] at *
  have HUD : Hid (∀ j t, sumV (inp.getD ((onesTo (rows.getD j []) n).getD t 0).toNat 0) (inTo rows F ((onesTo (rows.getD j []) n).getD t 0).toNat j rows.length) = upF rows n inp F j t) := hid' fun _ _ => rfl
  have HUB := Lib.hid (upF_bd rows n inp F)
  have HNV := Lib.hid (fun j t ht => @nx_val rows n inp F j t ht)
  generalize hG : nxM rows n inp F = G at *
  have HM0 := Lib.hid (mixM_zero rows n G)
  have HMF := Lib.hid (mixM_full rows n G)
  have HMX := Lib.hid (fun j hj => @mixM_next rows n G j hj)
  have HMD := Lib.hid (fun j q hq => @mixM_getD rows n G j q hq)
  have HMLn := Lib.hid (mixM_len rows n G)
  clear h0 h1 he hF hb hG
  generalize hr : rows.length = r at *
  clear hr
  go_enter Try.func59, Try.ntmps59
  go_wp2_with fail
  refine HMG.out.mono ?_
  rintro e w1 ⟨u7, gs, rfl, ho1, hb1⟩
  rw [← HM0.out] at ho1
  obtain ⟨NA, nc, rfl⟩ := ho1.form
  rw [HMLn.out] at ho1 ⊢
  have HO1 := Lib.hid ho1; have HB1 := Lib.hid hb1
  have h01 := cell_below hb1 HH0.out
  clear ho1 hb1
  go_wp2_with fail
  clear h01
  go_loopw [28] (fun i wr => ∃ j : Nat, j ≤ r ∧ i = .int .i64 (j : Int) ∧ Hid (OR w.heap.size wr (.slice NA r nc) gs (mixM rows n G j)) ∧ Hid (Below w.heap.size w wr)) (fun i _ => r - (intOf i).toNat)
  case atStart => exact ⟨0, Nat.zero_le _, rfl, HO1, HB1⟩
  case round =>
    clear HO1 HB1
    obtain ⟨j, hj, rfl, HO, HB⟩ := hrel
    by_cases hjr : j < r
    · obtain ⟨ra, Ak, ck, L, rfl, hd0, HLR, HLE⟩ := HSS.out.eltA (k := j) (by rw [cksTo_len]; exact hjr)
      have hle := HLE.out
      rw [cksTo_getD hjr] at hle
      have hml := onesTo_len (rows.getD j []) n
      have HOG := Lib.hid (fun t => @ones_get (rows.getD j []) n t)
      have HNVj := Lib.hid (HNV.out j)
      have HUDj := Lib.hid (HUD.out j)
      have HDR := Lib.hid (dnL_row (rows.getD j []) n (G j))
      have HMDj := Lib.hid (HMD.out j j hjr)
      have HMXj := Lib.hid (HMX.out j hjr)
      have HUBj := Lib.hid (HUB.out j)
      rw [hle] at hml HOG HNVj HUDj HDR HMDj
      rw [if_neg (Nat.lt_irrefl _)] at HMDj
      have HD0 := Lib.hid hd0
      have hdr := cell_below HB.out hd0
      clear hle HLE hd0
      generalize hU : upF rows n inp F j = U at *
      clear hU
      generalize hm : L.length = m at *
      have HLM := Lib.hid hm; clear hm
      obtain ⟨V, hV⟩ : ∃ V : Nat → Int, V = fun t => G j (L.getD t 0).toNat := ⟨_, rfl⟩
      have HVD : Hid (∀ t, G j (L.getD t 0).toNat = V t) := hid' fun t => by rw [hV]
      have HDV : Hid (dnL (rows.getD j []) n (G j) = rowOf m V) := hid' (by show _ = _; rw [HDR.out, hV])
      clear hV HDR
      have hmk := fun (w : World) => run_mkI m (by omega) w
      have HX := Lib.hid (RI.made wr m)
      have HBa := Lib.hid (HB.out.alloc HB.out.size (.cells (madeCells #[.int .i64 0] m) 3))
      have HOa := Lib.hid (HO.out.alloc (.cells (madeCells #[.int .i64 0] m) 3))
      have HGO : Hid (∀ g, some wr.heap.size = some g → (Value.slice NA r nc).ownBlock ≠ some g ∧ ∀ q, q < (mixM rows n G j).length → gs q ≠ g) := hid' fun g e => by
        have e2 := Option.some.inj e
        subst e2
        exact ⟨fun h => by have := (HO.out.lt h).2; omega, fun q hq h => by have := (HO.out.row q hq).lt; omega⟩
      have HGX : Hid (w.heap.size ≤ wr.heap.size) := hid' HB.out.size
      clear HO HB
      go_wp2_with fail
      clear hdr
      generalize wr.alloc (.cells (madeCells #[.int .i64 0] m) 3) = w2 at *
      generalize hgx : wr.heap.size = gu at *
      clear hgx
      go_loopw [10, 11, 12, 13, 38] (fun a b c d i wr => ∃ k : Nat, k ≤ m ∧ i = .int .i64 (k : Int) ∧ a = .int .i64 (scanTo U k).fst ∧ b = .int .i64 (scanTo U k).snd ∧ c = .int .i64 (scanTo U k).at_ ∧ d = .int .i64 (scanTo U k).mns ∧ Hid (RI wr gu (fillTo m U (fun _ => 0) k)) ∧ Hid (OR w.heap.size wr (.slice NA r nc) gs (mixM rows n G j)) ∧ Hid (Below w.heap.size w wr)) (fun _ _ _ _ i _ => m - (intOf i).toNat)
      case atStart => exact ⟨0, Nat.zero_le _, rfl, rfl, rfl, rfl, rfl, by rw [fillTo_zero, rowOf_zero]; exact HX, HOa, HBa⟩
      case round =>
        clear HX HOa HBa
        obtain ⟨k, hk, rfl, rfl, rfl, rfl, rfl, HX, HO, HB⟩ := hrel
        by_cases hkm : k < m
        · obtain ⟨la, z, hla, hc, _, HZ⟩ := (HLR.out.below HB.out (Nat.le_refl _)).elt (k := k) (by rw [HLM.out]; exact hkm)
          subst hla
          obtain ⟨p, hpn, hp1, hp2, hp3⟩ := HOG.out k hkm
          have hzp := HZ.out
          rw [hp1] at hzp
          subst hzp
          have HUK : Hid (sumV (inp.getD p 0) (inTo rows F p j r) = U k) := hid' (by have h := HUDj.out k; rw [hp1, Int.toNat_natCast] at h; exact h)
          have HSN := Lib.hid (fun A M h1 h2 h3 => @scan_new U k A M h1 h2 h3)
          have HS2 := Lib.hid (fun A M h1 h2 h3 h4 => @scan_snd U k A M h1 h2 h3 h4)
          have HS3 := Lib.hid (fun A M h1 h2 h3 h4 => @scan_old U k A M h1 h2 h3 h4)
          obtain ⟨_, i2, i3, i4, i5, i6, i7, i8, i9⟩ := scan_inv HUBj.out k
          clear i7
          have hxb := HUBj.out k
          have HFS := Lib.hid (fillTo_set (f := U) (g := fun _ => 0) hkm)
          clear hp1 hp2 hp3
          go_wp2_with fail
          refine (HCL.out _ HB.out p hpn j).mono ?_
          rintro e w3 ⟨rfl, hb3⟩
          rw [HUK.out]
          have HX3 := Lib.hid (HX.out.belowS hb3)
          have HB3 := Lib.hid (bl_trans HB.out hb3)
          have HO3 := Lib.hid (HO.out.below hb3)
          have u0 := HX3.out.cell k (by rw [fillTo_len]; exact hkm)
          rw [fillTo_getD hkm] at u0
          have uf := HX3.out.frozen k
          have HX4 := Lib.hid (HX3.out.set k (U k))
          rw [HFS.out] at HX4
          have HO4 := Lib.hid (HO3.out.grown (gr_set1 w3 gu k (.int .i64 (U k))) HGO.out)
          have HB4 := Lib.hid (HB3.out.setCell (p := ⟨gu, k, none⟩) HGX.out (.int .i64 (U k)))
          clear hb3 HX HO HB HX3 HO3 HB3 hc
          have ur : (w3.setCell ⟨gu, k, none⟩ (.int .i64 (U k))).cell? ⟨gu, k, none⟩ = some (.int .i64 (U k)) := by
            have h := HX4.out.cell k (by rw [fillTo_len]; exact hkm)
            rw [← HFS.out] at h
            have : k < (fillTo m U (fun _ => 0) k).length := by rw [fillTo_len]; exact hkm
            simpa [List.getD, List.getElem?_set, this] using h
          generalize (scanTo U k).fst = f at *
          generalize (scanTo U k).snd = s at *
          generalize (scanTo U k).at_ = a at *
          generalize (scanTo U k).mns = mn at *
          generalize U k = x at *
          unfold cer at i3 hxb
          by_cases c1 : x < 0
          · have e1 : decide (x < 0) = true := decide_eq_true c1
            by_cases c2 : a < 0
            · have e2 : decide (a < 0) = true := decide_eq_true c2
              have HEQ : Hid (scanTo U (k + 1) = ⟨-x, f, k, mn + 1⟩) := hid' (HSN.out _ _ (if_pos c1) (if_pos c1) (.inl c2))
              clear HSN HS2 HS3
              go_wp2_with fail
              exact ⟨⟨k + 1, by omega, by push_cast; rfl, by rw [HEQ.out], by rw [HEQ.out], by rw [HEQ.out], by rw [HEQ.out], HX4, HO4, HB4⟩, by simp only [intOf]; omega⟩
            · have e2 : decide (a < 0) = false := decide_eq_false c2
              by_cases c3 : -x < f
              · have e3 : decide (-x < f) = true := decide_eq_true c3
                have HEQ : Hid (scanTo U (k + 1) = ⟨-x, f, k, mn + 1⟩) := hid' (HSN.out _ _ (if_pos c1) (if_pos c1) (.inr c3))
                clear HSN HS2 HS3
                go_wp2_with fail
                exact ⟨⟨k + 1, by omega, by push_cast; rfl, by rw [HEQ.out], by rw [HEQ.out], by rw [HEQ.out], by rw [HEQ.out], HX4, HO4, HB4⟩, by simp only [intOf]; omega⟩
              · have e3 : decide (-x < f) = false := decide_eq_false c3
                by_cases c4 : -x < s
                · have e4 : decide (-x < s) = true := decide_eq_true c4
                  have HEQ : Hid (scanTo U (k + 1) = ⟨f, -x, a, mn + 1⟩) := hid' (HS2.out _ _ (if_pos c1) (if_pos c1) (by omega) c4)
                  clear HSN HS2 HS3
                  go_wp2_with fail
                  exact ⟨⟨k + 1, by omega, by push_cast; rfl, by rw [HEQ.out], by rw [HEQ.out], by rw [HEQ.out], by rw [HEQ.out], HX4, HO4, HB4⟩, by simp only [intOf]; omega⟩
                · have e4 : decide (-x < s) = false := decide_eq_false c4
                  have HEQ : Hid (scanTo U (k + 1) = ⟨f, s, a, mn + 1⟩) := hid' (HS3.out _ _ (if_pos c1) (if_pos c1) (by omega) (by omega))
                  clear HSN HS2 HS3
                  go_wp2_with fail
                  exact ⟨⟨k + 1, by omega, by push_cast; rfl, by rw [HEQ.out], by rw [HEQ.out], by rw [HEQ.out], by rw [HEQ.out], HX4, HO4, HB4⟩, by simp only [intOf]; omega⟩
          · have e1 : decide (x < 0) = false := decide_eq_false c1
            by_cases c2 : a < 0
            · have e2 : decide (a < 0) = true := decide_eq_true c2
              have HEQ : Hid (scanTo U (k + 1) = ⟨x, f, k, mn⟩) := hid' (HSN.out _ _ (if_neg c1) (if_neg c1) (.inl c2))
              clear HSN HS2 HS3
              go_wp2_with fail
              exact ⟨⟨k + 1, by omega, by push_cast; rfl, by rw [HEQ.out], by rw [HEQ.out], by rw [HEQ.out], by rw [HEQ.out], HX4, HO4, HB4⟩, by simp only [intOf]; omega⟩
            · have e2 : decide (a < 0) = false := decide_eq_false c2
              by_cases c3 : x < f
              · have e3 : decide (x < f) = true := decide_eq_true c3
                have HEQ : Hid (scanTo U (k + 1) = ⟨x, f, k, mn⟩) := hid' (HSN.out _ _ (if_neg c1) (if_neg c1) (.inr c3))
                clear HSN HS2 HS3
                go_wp2_with fail
                exact ⟨⟨k + 1, by omega, by push_cast; rfl, by rw [HEQ.out], by rw [HEQ.out], by rw [HEQ.out], by rw [HEQ.out], HX4, HO4, HB4⟩, by simp only [intOf]; omega⟩
              · have e3 : decide (x < f) = false := decide_eq_false c3
                by_cases c4 : x < s
                · have e4 : decide (x < s) = true := decide_eq_true c4
                  have HEQ : Hid (scanTo U (k + 1) = ⟨f, x, a, mn⟩) := hid' (HS2.out _ _ (if_neg c1) (if_neg c1) (by omega) c4)
                  clear HSN HS2 HS3
                  go_wp2_with fail
                  exact ⟨⟨k + 1, by omega, by push_cast; rfl, by rw [HEQ.out], by rw [HEQ.out], by rw [HEQ.out], by rw [HEQ.out], HX4, HO4, HB4⟩, by simp only [intOf]; omega⟩
                · have e4 : decide (x < s) = false := decide_eq_false c4
                  have HEQ : Hid (scanTo U (k + 1) = ⟨f, s, a, mn⟩) := hid' (HS3.out _ _ (if_neg c1) (if_neg c1) (by omega) (by omega))
                  clear HSN HS2 HS3
                  go_wp2_with fail
                  exact ⟨⟨k + 1, by omega, by push_cast; rfl, by rw [HEQ.out], by rw [HEQ.out], by rw [HEQ.out], by rw [HEQ.out], HX4, HO4, HB4⟩, by simp only [intOf]; omega⟩
        · obtain rfl : k = m := by omega
          rw [fillTo_full] at HX
          have HXr0 : Hid (RI wr gu (rowOf k U)) := HX
          have HO0 : Hid (OR w.heap.size wr (.slice NA r nc) gs ((mixM rows n G j).set j (fillTo k V (fun _ => 0) 0))) := hid' (by
            have h := set_self (l := mixM rows n G j) (j := j) (by rw [HMLn.out]; exact hjr)
            rw [HMDj.out] at h
            rw [fillTo_zero, rowOf_zero, h]
            exact HO.out)
          obtain ⟨_, i2, i3, i4, i5, i6, _, i8, i9⟩ := scan_inv HUBj.out k
          clear HX HO
          generalize (scanTo U k).fst = fS at *
          generalize (scanTo U k).snd = sS at *
          generalize (scanTo U k).at_ = aS at *
          generalize (scanTo U k).mns = mS at *
          unfold cer at i3
          go_wp2_with fail
          go_loopw [81] (fun i wr => ∃ k2 : Nat, k2 ≤ k ∧ i = .int .i64 (k2 : Int) ∧ Hid (OR w.heap.size wr (.slice NA r nc) gs ((mixM rows n G j).set j (fillTo k V (fun _ => 0) k2))) ∧ Hid (RI wr gu (rowOf k U)) ∧ Hid (Below w.heap.size w wr)) (fun i _ => k - (intOf i).toNat)
          case atStart => exact ⟨0, Nat.zero_le _, rfl, HO0, HXr0, HB⟩
          case round =>
            clear HO0 HXr0 HB
            obtain ⟨k2, hk2, rfl, HO, HXr, HB⟩ := hrel
            by_cases hkk : k2 < k
            case neg =>
              obtain rfl : k2 = k := by omega
              have HE : Hid ((mixM rows n G j).set j (fillTo k2 V (fun _ => 0) k2) = mixM rows n G (j + 1)) := hid' (by show _ = _; rw [fillTo_full, ← HDV.out]; exact HMXj.out)
              rw [HE.out] at HO
              go_wp2_with fail
              exact ⟨⟨j + 1, by omega, by push_cast; rfl, HO, HB⟩, by simp only [intOf]; omega⟩
            have ux := HXr.out.cell k2 (by rw [rowOf_len]; exact hkk)
            rw [rowOf_getD hkk] at ux
            obtain ⟨hnv1, hnv2⟩ := HNVj.out k2 hkk
            rw [HVD.out] at hnv1
            have HVK := Lib.hid hnv1; clear hnv1
            generalize U k2 = x at *
            have hlen : ((mixM rows n G j).set j (fillTo k V (fun _ => 0) k2)).length = r := by rw [List.length_set, HMLn.out]
            obtain ⟨gv, hNA, hh⟩ := HO.out.hd (j := j) (by rw [hlen]; exact hjr)
            have hget : ((mixM rows n G j).set j (fillTo k V (fun _ => 0) k2)).getD j [] = fillTo k V (fun _ => 0) k2 := by
              rw [getD_setS _ _ _ _ (by rw [HMLn.out]; exact hjr), if_pos rfl]
            rw [hget, fillTo_len] at hh
            have hrow := HO.out.row j (by rw [hlen]; exact hjr)
            rw [hget] at hrow
            have us := hrow.cell k2 (by rw [fillTo_len]; exact hkk)
            rw [fillTo_getD hkk] at us
            have uf := hrow.frozen k2
            have HFS := Lib.hid (fillTo_set (f := V) (g := fun _ => 0) hkk)
            have ho2 := HO.out.set (i := j) (by rw [hlen]; exact hjr) k2 (V k2)
            rw [hget, HFS.out, List.set_set] at ho2
            have HO2 := Lib.hid ho2
            have HB2 := Lib.hid (HO.out.setBelow HB.out (i := j) (by rw [hlen]; exact hjr) k2 (.int .i64 (V k2)))
            have hgg : gu ≠ gs j := fun e => (HGO.out gu rfl).2 j (by rw [HMLn.out]; exact hjr) e.symm
            have HXrF : Hid (∀ v, RI (wr.setCell ⟨gs j, k2, none⟩ v) gu (rowOf k U)) := hid' fun v => HXr.out.far (p := ⟨gs j, k2, none⟩) hgg v
            subst hNA
            clear ho2 hrow hget hlen HO HXr HB
            generalize gs j = gj at *
            by_cases ca : aS = (k2 : Int)
            · have hba : ((k2 : Int) == aS) = true := by rw [beq_iff_eq]; omega
              by_cases cx : x < 0
              · have hbx : decide (x < 0) = true := decide_eq_true cx
                rw [if_pos cx] at hnv2
                by_cases co : (mS - 1) % 2 = 1
                · have HVK2 : Hid (V k2 = -sS) := hid' (by rw [HVK.out, if_pos ca, if_pos cx]; rw [decide_eq_true (show (mS - 1) % 2 = 1 by omega)]; rfl)
                  have hbo : ((mS - 1) % 2 == 1) = true := by rw [beq_iff_eq]; omega
                  rw [HVK2.out] at HO2 HB2
                  clear HVK HVK2
                  go_wp2_with fail
                  exact ⟨⟨k2 + 1, by omega, by push_cast; rfl, HO2, HXrF.out _, HB2⟩, by simp only [intOf]; omega⟩
                · have HVK2 : Hid (V k2 = sS) := hid' (by rw [HVK.out, if_pos ca, if_pos cx]; rw [decide_eq_false (show ¬ (mS - 1) % 2 = 1 by omega)]; rfl)
                  have hbo : ((mS - 1) % 2 == 1) = false := by rw [beq_eq_false_iff_ne]; omega
                  rw [HVK2.out] at HO2 HB2
                  clear HVK HVK2
                  go_wp2_with fail
                  exact ⟨⟨k2 + 1, by omega, by push_cast; rfl, HO2, HXrF.out _, HB2⟩, by simp only [intOf]; omega⟩
              · have hbx : decide (x < 0) = false := decide_eq_false cx
                rw [if_neg cx] at hnv2
                by_cases co : (mS - 0) % 2 = 1
                · have HVK2 : Hid (V k2 = -sS) := hid' (by rw [HVK.out, if_pos ca, if_neg cx]; rw [decide_eq_true (show (mS - 0) % 2 = 1 by omega)]; rfl)
                  have hbo : ((mS) % 2 == 1) = true := by rw [beq_iff_eq]; omega
                  rw [HVK2.out] at HO2 HB2
                  clear HVK HVK2
                  go_wp2_with fail
                  exact ⟨⟨k2 + 1, by omega, by push_cast; rfl, HO2, HXrF.out _, HB2⟩, by simp only [intOf]; omega⟩
                · have HVK2 : Hid (V k2 = sS) := hid' (by rw [HVK.out, if_pos ca, if_neg cx]; rw [decide_eq_false (show ¬ (mS - 0) % 2 = 1 by omega)]; rfl)
                  have hbo : ((mS) % 2 == 1) = false := by rw [beq_eq_false_iff_ne]; omega
                  rw [HVK2.out] at HO2 HB2
                  clear HVK HVK2
                  go_wp2_with fail
                  exact ⟨⟨k2 + 1, by omega, by push_cast; rfl, HO2, HXrF.out _, HB2⟩, by simp only [intOf]; omega⟩
            · have hba : ((k2 : Int) == aS) = false := by rw [beq_eq_false_iff_ne]; omega
              by_cases cx : x < 0
              · have hbx : decide (x < 0) = true := decide_eq_true cx
                rw [if_pos cx] at hnv2
                by_cases co : (mS - 1) % 2 = 1
                · have HVK2 : Hid (V k2 = -fS) := hid' (by rw [HVK.out, if_neg ca, if_pos cx]; rw [decide_eq_true (show (mS - 1) % 2 = 1 by omega)]; rfl)
                  have hbo : ((mS - 1) % 2 == 1) = true := by rw [beq_iff_eq]; omega
                  rw [HVK2.out] at HO2 HB2
                  clear HVK HVK2
                  go_wp2_with fail
                  exact ⟨⟨k2 + 1, by omega, by push_cast; rfl, HO2, HXrF.out _, HB2⟩, by simp only [intOf]; omega⟩
                · have HVK2 : Hid (V k2 = fS) := hid' (by rw [HVK.out, if_neg ca, if_pos cx]; rw [decide_eq_false (show ¬ (mS - 1) % 2 = 1 by omega)]; rfl)
                  have hbo : ((mS - 1) % 2 == 1) = false := by rw [beq_eq_false_iff_ne]; omega
                  rw [HVK2.out] at HO2 HB2
                  clear HVK HVK2
                  go_wp2_with fail
                  exact ⟨⟨k2 + 1, by omega, by push_cast; rfl, HO2, HXrF.out _, HB2⟩, by simp only [intOf]; omega⟩
              · have hbx : decide (x < 0) = false := decide_eq_false cx
                rw [if_neg cx] at hnv2
                by_cases co : (mS - 0) % 2 = 1
                · have HVK2 : Hid (V k2 = -fS) := hid' (by rw [HVK.out, if_neg ca, if_neg cx]; rw [decide_eq_true (show (mS - 0) % 2 = 1 by omega)]; rfl)
                  have hbo : ((mS) % 2 == 1) = true := by rw [beq_iff_eq]; omega
                  rw [HVK2.out] at HO2 HB2
                  clear HVK HVK2
                  go_wp2_with fail
                  exact ⟨⟨k2 + 1, by omega, by push_cast; rfl, HO2, HXrF.out _, HB2⟩, by simp only [intOf]; omega⟩
                · have HVK2 : Hid (V k2 = fS) := hid' (by rw [HVK.out, if_neg ca, if_neg cx]; rw [decide_eq_false (show ¬ (mS - 0) % 2 = 1 by omega)]; rfl)
                  have hbo : ((mS) % 2 == 1) = false := by rw [beq_eq_false_iff_ne]; omega
                  rw [HVK2.out] at HO2 HB2
                  clear HVK HVK2
                  go_wp2_with fail
                  exact ⟨⟨k2 + 1, by omega, by push_cast; rfl, HO2, HXrF.out _, HB2⟩, by simp only [intOf]; omega⟩
    · obtain rfl : j = r := by omega
      rw [HMF.out] at HO
      go_wp2_with fail
      go_ret
      exact ⟨_, gs, rfl, HO.out, HB.out⟩
end Go.Proofs.Ytgabhlalamnbgaa

/- message.inputs, ref45.Args. -/
namespace Go.Proofs.Ytgabhlalamnbgaa
open Go.RowKit
set_option linter.unusedVariables false
set_option maxRecDepth 100000

def okB (x : Int) : Prop := -1048576 ≤ x ∧ x ≤ 1048576
def okI (l : List Int) : Prop := ∀ k, k < l.length → okB (l.getD k 0)
open Classical in
noncomputable def inpE (cols : Int) (inp : List Int) (t : Int) : Int := if (inp.length : Int) ≠ cols then 4 else if ¬ okI inp then 6 else if t < 0 ∨ 256 < t then 6 else 0
noncomputable def argE (cols : Int) (rows : List (List Int)) (inp : List Int) (t : Int) : Int := if bitE cols rows ≠ 0 then bitE cols rows else inpE cols inp t
theorem inpE_len {cols : Int} {inp : List Int} {t : Int} (h : (inp.length : Int) ≠ cols) : inpE cols inp t = 4 := by unfold inpE; rw [if_pos h]
theorem inpE_bad {cols : Int} {inp : List Int} {t : Int} (h : (inp.length : Int) = cols) {k : Nat} (hk : k < inp.length) (hb : ¬ okB (inp.getD k 0)) : inpE cols inp t = 6 := by
  unfold inpE; rw [if_neg (fun e => e h), if_pos (fun e => hb (e k hk))]
theorem inpE_rng {cols : Int} {inp : List Int} {t : Int} (h : (inp.length : Int) = cols) (ho : okI inp) (ht : t < 0 ∨ 256 < t) : inpE cols inp t = 6 := by
  unfold inpE; rw [if_neg (fun e => e h), if_neg (fun e => e ho), if_pos ht]
theorem inpE_ok {cols : Int} {inp : List Int} {t : Int} (h : (inp.length : Int) = cols) (ho : okI inp) (ht : ¬ (t < 0 ∨ 256 < t)) : inpE cols inp t = 0 := by
  unfold inpE; rw [if_neg (fun e => e h), if_neg (fun e => e ho), if_neg ht]
theorem inpE_of {cols : Int} {inp : List Int} {t : Int} (h : inpE cols inp t = 0) : (inp.length : Int) = cols ∧ okI inp ∧ 0 ≤ t ∧ t ≤ 256 := by
  by_cases h1 : (inp.length : Int) = cols
  · by_cases h2 : okI inp
    · by_cases h3 : t < 0 ∨ 256 < t
      · rw [inpE_rng h1 h2 h3] at h; cases h
      · exact ⟨h1, h2, by omega, by omega⟩
    · unfold inpE at h; rw [if_neg (fun e => e h1), if_pos h2] at h; cases h
  · rw [inpE_len h1] at h; cases h
theorem argE_of {cols : Int} {rows : List (List Int)} {inp : List Int} {t : Int} (h : argE cols rows inp t = 0) : ∃ (n s : Nat), cols = (n : Int) ∧ t = (s : Int) ∧ s ≤ 256 ∧ bitE cols rows = 0 ∧ MR n rows ∧ BI n rows inp := by
  unfold argE at h
  by_cases hb : bitE cols rows = 0
  · rw [if_neg (fun e => e hb)] at h
    obtain ⟨h1, h2, h3, h4⟩ := inpE_of h
    obtain ⟨n, hn, hm⟩ := mr_of hb
    refine ⟨n, t.toNat, hn, by omega, by omega, hb, hm, ⟨hm.nn, hm.rl, hm.br, by omega, fun k => ?_⟩⟩
    by_cases hk : k < inp.length
    · exact h2 k hk
    · rw [getD_len (by omega)]; omega
  · rw [if_pos hb] at h; exact absurd h hb

set_option maxHeartbeats 16000000 in
theorem inputs_any (w : World) (cols t : Int) (rv iv : Value) (inp : List Int) (hi : SI w iv inp) :
    Calls Try.prog 57 #[.agg #[.int .i64 cols, rv], iv, .int .i64 t] w (RetI w (inpE cols inp t)) := by
  obtain ⟨IA, ic, rfl, hia⟩ := id hi
  have hil := hia.len
  have HI := Lib.hid hi; clear hi hia
  have HB := Lib.hid (MBox.mk' w cols rv)
  generalize hm : inp.length = m at *
  have HM := Lib.hid hm; clear hm
  by_cases hc : (m : Int) = cols
  case neg =>
    have hcb : ((m : Int) != cols) = true := by rw [bne_iff_ne]; exact hc
    have HE : Hid (inpE cols inp t = 4) := hid' (inpE_len (by rw [HM.out]; exact hc))
    clear hc
    go_enter Try.func57, Try.ntmps57
    go_wp2_with fail
    generalize w.alloc (.cells #[.int .i64 cols, rv] 24) = w0 at *
    have d0 := HB.out.d0; have d1 := HB.out.d1
    go_wp2_with fail
    go_ret
    exact ⟨by rw [HE.out]; rfl, HB.out.bel⟩
  subst hc
  have hcb : ((m : Int) != (m : Int)) = false := by simp
  have HBAD : Hid (∀ k, k < m → ¬ okB (inp.getD k 0) → inpE (m : Int) inp t = 6) := hid' fun k hk h => inpE_bad (by rw [HM.out]) (by rw [HM.out]; exact hk) h
  have HRNG : Hid ((∀ k, k < m → okB (inp.getD k 0)) → (t < 0 ∨ 256 < t) → inpE (m : Int) inp t = 6) := hid' fun h ht => inpE_rng (by rw [HM.out]) (fun k hk => h k (by rw [← HM.out]; exact hk)) ht
  have HOK : Hid ((∀ k, k < m → okB (inp.getD k 0)) → ¬ (t < 0 ∨ 256 < t) → inpE (m : Int) inp t = 0) := hid' fun h ht => inpE_ok (by rw [HM.out]) (fun k hk => h k (by rw [← HM.out]; exact hk)) ht
  go_enter Try.func57, Try.ntmps57
  go_wp2_with fail
  generalize w.alloc (.cells #[.int .i64 (m : Int), rv] 24) = w0 at *
  have d0 := HB.out.d0; have d1 := HB.out.d1
  have HI0 := Lib.hid (HI.out.below HB.out.bel (Nat.le_refl _))
  go_wp2_with fail
  clear d0 d1
  go_loop [16] (fun i => ∃ k : Nat, k ≤ m ∧ i = .int .i64 (k : Int) ∧ Hid (∀ i, i < k → okB (inp.getD i 0))) (fun i => m - (intOf i).toNat)
  case atStart => exact ⟨0, Nat.zero_le _, rfl, hid' fun i hi => absurd hi (Nat.not_lt_zero _)⟩
  case round =>
    obtain ⟨k, hk, rfl, HG⟩ := hrel
    by_cases hkm : k < m
    · obtain ⟨ad, x, rfl, hcc, _, HX⟩ := HI0.out.elt (k := k) (by rw [HM.out]; exact hkm)
      by_cases hx1 : x < -1048576
      · have e1 : decide (x < -1048576) = true := decide_eq_true hx1
        have HE : Hid (inpE (m : Int) inp t = 6) := hid' (HBAD.out k hkm (by rw [HX.out]; unfold okB; omega))
        go_wp2_with fail
        go_ret
        exact ⟨by rw [HE.out]; rfl, HB.out.bel⟩
      · have e1 : decide (x < -1048576) = false := decide_eq_false hx1
        by_cases hx2 : 1048576 < x
        · have e2 : decide (1048576 < x) = true := decide_eq_true hx2
          have HE : Hid (inpE (m : Int) inp t = 6) := hid' (HBAD.out k hkm (by rw [HX.out]; unfold okB; omega))
          go_wp2_with fail
          go_ret
          exact ⟨by rw [HE.out]; rfl, HB.out.bel⟩
        · have e2 : decide (1048576 < x) = false := decide_eq_false hx2
          have HG2 : Hid (∀ i, i < k + 1 → okB (inp.getD i 0)) := hid' fun i hi => by
            by_cases e : i = k
            · rw [e, HX.out]; exact ⟨by omega, by omega⟩
            · exact HG.out i (by omega)
          go_wp2_with fail
          exact ⟨⟨k + 1, by omega, by push_cast; rfl, HG2⟩, by simp only [intOf]; omega⟩
    · obtain rfl : k = m := by omega
      by_cases ht1 : t < 0
      · have e1 : decide (t < 0) = true := decide_eq_true ht1
        have HE := Lib.hid (HRNG.out HG.out (.inl ht1))
        go_wp2_with fail
        go_ret
        exact ⟨by rw [HE.out]; rfl, HB.out.bel⟩
      · have e1 : decide (t < 0) = false := decide_eq_false ht1
        by_cases ht2 : 256 < t
        · have e2 : decide (256 < t) = true := decide_eq_true ht2
          have HE := Lib.hid (HRNG.out HG.out (.inr ht2))
          go_wp2_with fail
          go_ret
          exact ⟨by rw [HE.out]; rfl, HB.out.bel⟩
        · have e2 : decide (256 < t) = false := decide_eq_false ht2
          have HE := Lib.hid (HOK.out HG.out (by omega))
          go_wp2_with fail
          go_ret
          exact ⟨by rw [HE.out]; rfl, HB.out.bel⟩

set_option maxHeartbeats 16000000 in
theorem rargs_any (w : World) (cols t : Int) (rv iv : Value) (rows : List (List Int)) (inp : List Int) (hv : SS w rv rows) (hi : SI w iv inp) :
    Calls Try.prog 33 #[.agg #[.int .i64 cols, rv], iv, .int .i64 t] w (RetI w (argE cols rows inp t)) := by
  have HV := Lib.hid hv; clear hv
  obtain ⟨RA, rc, rfl, _⟩ := HV.out
  have HM0 : Hid (matE 2 1 [] cols rows = bitE cols rows) := rfl
  obtain ⟨IA, ic, rfl, hia⟩ := id hi
  have hil := hia.len
  have HI := Lib.hid hi; clear hi hia
  have HB := Lib.hid (MBox.mk' w cols (.slice RA rows.length rc))
  generalize hm : inp.length = m at *
  have HM := Lib.hid hm; clear hm
  generalize hr : rows.length = r at *
  clear hr
  by_cases hb : bitE cols rows = 0
  case neg =>
    have hbb : (bitE cols rows != 0) = true := by rw [bne_iff_ne]; exact hb
    have HE : Hid (argE cols rows inp t = bitE cols rows) := hid' (by unfold argE; rw [if_pos hb])
    rw [HE.out]
    clear hb
    go_enter Try.func33, Try.ntmps33
    go_wp2_with fail
    generalize w.alloc (.cells #[.int .i64 cols, .slice RA r rc] 24) = w0 at *
    have d0 := HB.out.d0; have d1 := HB.out.d1
    go_wp2_with fail
    refine Kept.start (S := fun w' => w'.cell? ⟨w.heap.size, 0, none⟩ = some (.int .i64 cols) ∧ w'.cell? ⟨w.heap.size, 1, none⟩ = some (.slice RA r rc)) (by kernel_rfl) (⟨d0, d1⟩) (fun hHeld => ?_)
    change Kept _ _ _ _ 4 _ _ _
    refine Kept.take (i := 1) (v := ?_) rfl (by kernel_rfl) (by kernel_rfl) (by kernel_rfl) (fun _ _ _ h => h) (Or.inl ⟨by kernel_rfl, ?_⟩) hHeld ?_
    rotate_left
    · intro w' hSw; (try dsimp only at hSw); first | (go_simp; done) | (go_simp; with_reducible rfl)
    try simp only [List.getElem_toArray, List.getElem_cons_zero, List.getElem_cons_succ, Act.put, List.setIfInBounds_toArray, List.set_cons_zero, List.set_cons_succ]
    refine Kept.only (i := 0) (by kernel_rfl) rfl (fun K hK => ?_)
    go_simp
    refine (rTwo45_any _).mono ?_; rintro e w3 ⟨rfl, hb3⟩; have HF3 := Lib.hid ((HB.out.on (bl_drew _)).on hb3); clear hb3; have e0 := HF3.out.d0; have e1 := HF3.out.d1
    refine hK.out _ _ (⟨e0, e1⟩) (fun hHeld2 => ?_)
    clear hK K
    replace hHeld := hHeld2
    clear hHeld2
    try simp only [List.getElem_toArray, List.getElem_cons_zero, List.getElem_cons_succ, Act.put, List.setIfInBounds_toArray, List.set_cons_zero, List.set_cons_succ]
    refine Kept.only (i := 2) (by kernel_rfl) rfl (fun K hK => ?_)
    go_simp
    refine (rMCheck_any _ 2 1 cols (.slice none 0 0) (.slice RA r rc) [] rows (SI.none_ _) (HV.out.below HF3.out.bel (Nat.le_refl _))).mono ?_; rintro e w4 ⟨rfl, hb4⟩; rw [HM0.out]; have HF4 := Lib.hid (HF3.out.on hb4); clear hb4; have f0 := HF4.out.d0; have f1 := HF4.out.d1
    refine hK.out _ _ (⟨f0, f1⟩) (fun hHeld2 => ?_)
    clear hK K
    replace hHeld := hHeld2
    clear hHeld2
    try simp only [List.getElem_toArray, List.getElem_cons_zero, List.getElem_cons_succ, Act.put, List.setIfInBounds_toArray, List.set_cons_zero, List.set_cons_succ]
    refine Kept.only (i := 3) (by kernel_rfl) rfl (fun K hK => ?_)
    go_simp
    refine hK.out _ _ hHeld (fun hHeld2 => ?_)
    clear hK K
    clear hHeld2
    refine Kept.done (by kernel_rfl) ?_
    try simp only [List.getElem_toArray, List.getElem_cons_zero, List.getElem_cons_succ, Act.put, List.setIfInBounds_toArray, List.set_cons_zero, List.set_cons_succ]
    clear hHeld
    clear d0 d1 e0 e1
    generalize bitE cols rows = er at *
    go_wp2_with fail
    go_ret
    exact ⟨rfl, HF4.out.bel⟩
  have HAE : Hid (argE cols rows inp t = inpE cols inp t) := hid' (by unfold argE; rw [if_neg (fun e => e hb)])
  rw [HAE.out]
  rw [hb] at HM0
  clear hb HAE
  by_cases hc : (m : Int) = cols
  case neg =>
    have hcb : ((m : Int) != cols) = true := by rw [bne_iff_ne]; exact hc
    have HE : Hid (inpE cols inp t = 4) := hid' (inpE_len (by rw [HM.out]; exact hc))
    clear hc
    go_enter Try.func33, Try.ntmps33
    go_wp2_with fail
    generalize w.alloc (.cells #[.int .i64 cols, .slice RA r rc] 24) = w0 at *
    have d0 := HB.out.d0; have d1 := HB.out.d1
    go_wp2_with fail
    refine Kept.start (S := fun w' => w'.cell? ⟨w.heap.size, 0, none⟩ = some (.int .i64 cols) ∧ w'.cell? ⟨w.heap.size, 1, none⟩ = some (.slice RA r rc)) (by kernel_rfl) (⟨d0, d1⟩) (fun hHeld => ?_)
    change Kept _ _ _ _ 4 _ _ _
    refine Kept.take (i := 1) (v := ?_) rfl (by kernel_rfl) (by kernel_rfl) (by kernel_rfl) (fun _ _ _ h => h) (Or.inl ⟨by kernel_rfl, ?_⟩) hHeld ?_
    rotate_left
    · intro w' hSw; (try dsimp only at hSw); first | (go_simp; done) | (go_simp; with_reducible rfl)
    try simp only [List.getElem_toArray, List.getElem_cons_zero, List.getElem_cons_succ, Act.put, List.setIfInBounds_toArray, List.set_cons_zero, List.set_cons_succ]
    refine Kept.only (i := 0) (by kernel_rfl) rfl (fun K hK => ?_)
    go_simp
    refine (rTwo45_any _).mono ?_; rintro e w3 ⟨rfl, hb3⟩; have HF3 := Lib.hid ((HB.out.on (bl_drew _)).on hb3); clear hb3; have e0 := HF3.out.d0; have e1 := HF3.out.d1
    refine hK.out _ _ (⟨e0, e1⟩) (fun hHeld2 => ?_)
    clear hK K
    replace hHeld := hHeld2
    clear hHeld2
    try simp only [List.getElem_toArray, List.getElem_cons_zero, List.getElem_cons_succ, Act.put, List.setIfInBounds_toArray, List.set_cons_zero, List.set_cons_succ]
    refine Kept.only (i := 2) (by kernel_rfl) rfl (fun K hK => ?_)
    go_simp
    refine (rMCheck_any _ 2 1 cols (.slice none 0 0) (.slice RA r rc) [] rows (SI.none_ _) (HV.out.below HF3.out.bel (Nat.le_refl _))).mono ?_; rintro e w4 ⟨rfl, hb4⟩; rw [HM0.out]; have HF4 := Lib.hid (HF3.out.on hb4); clear hb4; have f0 := HF4.out.d0; have f1 := HF4.out.d1
    refine hK.out _ _ (⟨f0, f1⟩) (fun hHeld2 => ?_)
    clear hK K
    replace hHeld := hHeld2
    clear hHeld2
    try simp only [List.getElem_toArray, List.getElem_cons_zero, List.getElem_cons_succ, Act.put, List.setIfInBounds_toArray, List.set_cons_zero, List.set_cons_succ]
    refine Kept.only (i := 3) (by kernel_rfl) rfl (fun K hK => ?_)
    go_simp
    refine hK.out _ _ hHeld (fun hHeld2 => ?_)
    clear hK K
    clear hHeld2
    refine Kept.done (by kernel_rfl) ?_
    try simp only [List.getElem_toArray, List.getElem_cons_zero, List.getElem_cons_succ, Act.put, List.setIfInBounds_toArray, List.set_cons_zero, List.set_cons_succ]
    clear hHeld
    clear d0 d1 e0 e1
    go_wp2_with fail
    go_ret
    exact ⟨by rw [HE.out]; rfl, HF4.out.bel⟩
  subst hc
  have hcb : ((m : Int) != (m : Int)) = false := by simp
  have HBAD : Hid (∀ k, k < m → ¬ okB (inp.getD k 0) → inpE (m : Int) inp t = 6) := hid' fun k hk h => inpE_bad (by rw [HM.out]) (by rw [HM.out]; exact hk) h
  have HRNG : Hid ((∀ k, k < m → okB (inp.getD k 0)) → (t < 0 ∨ 256 < t) → inpE (m : Int) inp t = 6) := hid' fun h ht => inpE_rng (by rw [HM.out]) (fun k hk => h k (by rw [← HM.out]; exact hk)) ht
  have HOK : Hid ((∀ k, k < m → okB (inp.getD k 0)) → ¬ (t < 0 ∨ 256 < t) → inpE (m : Int) inp t = 0) := hid' fun h ht => inpE_ok (by rw [HM.out]) (fun k hk => h k (by rw [← HM.out]; exact hk)) ht
  go_enter Try.func33, Try.ntmps33
  go_wp2_with fail
  generalize w.alloc (.cells #[.int .i64 (m : Int), .slice RA r rc] 24) = w0 at *
  have d0 := HB.out.d0; have d1 := HB.out.d1
  go_wp2_with fail
  refine Kept.start (S := fun w' => w'.cell? ⟨w.heap.size, 0, none⟩ = some (.int .i64 (m : Int)) ∧ w'.cell? ⟨w.heap.size, 1, none⟩ = some (.slice RA r rc)) (by kernel_rfl) (⟨d0, d1⟩) (fun hHeld => ?_)
  change Kept _ _ _ _ 4 _ _ _
  refine Kept.take (i := 1) (v := ?_) rfl (by kernel_rfl) (by kernel_rfl) (by kernel_rfl) (fun _ _ _ h => h) (Or.inl ⟨by kernel_rfl, ?_⟩) hHeld ?_
  rotate_left
  · intro w' hSw; (try dsimp only at hSw); first | (go_simp; done) | (go_simp; with_reducible rfl)
  try simp only [List.getElem_toArray, List.getElem_cons_zero, List.getElem_cons_succ, Act.put, List.setIfInBounds_toArray, List.set_cons_zero, List.set_cons_succ]
  refine Kept.only (i := 0) (by kernel_rfl) rfl (fun K hK => ?_)
  go_simp
  refine (rTwo45_any _).mono ?_; rintro e w3 ⟨rfl, hb3⟩; have HF3 := Lib.hid ((HB.out.on (bl_drew _)).on hb3); clear hb3; have e0 := HF3.out.d0; have e1 := HF3.out.d1
  refine hK.out _ _ (⟨e0, e1⟩) (fun hHeld2 => ?_)
  clear hK K
  replace hHeld := hHeld2
  clear hHeld2
  try simp only [List.getElem_toArray, List.getElem_cons_zero, List.getElem_cons_succ, Act.put, List.setIfInBounds_toArray, List.set_cons_zero, List.set_cons_succ]
  refine Kept.only (i := 2) (by kernel_rfl) rfl (fun K hK => ?_)
  go_simp
  refine (rMCheck_any _ 2 1 (m : Int) (.slice none 0 0) (.slice RA r rc) [] rows (SI.none_ _) (HV.out.below HF3.out.bel (Nat.le_refl _))).mono ?_; rintro e w4 ⟨rfl, hb4⟩; rw [HM0.out]; have HF4 := Lib.hid (HF3.out.on hb4); clear hb4; have f0 := HF4.out.d0; have f1 := HF4.out.d1
  refine hK.out _ _ (⟨f0, f1⟩) (fun hHeld2 => ?_)
  clear hK K
  replace hHeld := hHeld2
  clear hHeld2
  try simp only [List.getElem_toArray, List.getElem_cons_zero, List.getElem_cons_succ, Act.put, List.setIfInBounds_toArray, List.set_cons_zero, List.set_cons_succ]
  refine Kept.only (i := 3) (by kernel_rfl) rfl (fun K hK => ?_)
  go_simp
  refine hK.out _ _ hHeld (fun hHeld2 => ?_)
  clear hK K
  clear hHeld2
  refine Kept.done (by kernel_rfl) ?_
  try simp only [List.getElem_toArray, List.getElem_cons_zero, List.getElem_cons_succ, Act.put, List.setIfInBounds_toArray, List.set_cons_zero, List.set_cons_succ]
  clear hHeld
  clear d0 d1 e0 e1
  have HI0 := Lib.hid (HI.out.below HF4.out.bel (Nat.le_refl _))
  go_wp2_with fail
  clear f0 f1
  go_loop [8] (fun i => ∃ k : Nat, k ≤ m ∧ i = .int .i64 (k : Int) ∧ Hid (∀ i, i < k → okB (inp.getD i 0))) (fun i => m - (intOf i).toNat)
  case atStart => exact ⟨0, Nat.zero_le _, rfl, hid' fun i hi => absurd hi (Nat.not_lt_zero _)⟩
  case round =>
    obtain ⟨k, hk, rfl, HG⟩ := hrel
    by_cases hkm : k < m
    · obtain ⟨ad, x, rfl, hcc, _, HX⟩ := HI0.out.elt (k := k) (by rw [HM.out]; exact hkm)
      by_cases hx1 : x < -1048576
      · have e1 : decide (x < -1048576) = true := decide_eq_true hx1
        have HE : Hid (inpE (m : Int) inp t = 6) := hid' (HBAD.out k hkm (by rw [HX.out]; unfold okB; omega))
        go_wp2_with fail
        go_ret
        exact ⟨by rw [HE.out]; rfl, HF4.out.bel⟩
      · have e1 : decide (x < -1048576) = false := decide_eq_false hx1
        by_cases hx2 : 1048576 < x
        · have e2 : decide (1048576 < x) = true := decide_eq_true hx2
          have HE : Hid (inpE (m : Int) inp t = 6) := hid' (HBAD.out k hkm (by rw [HX.out]; unfold okB; omega))
          go_wp2_with fail
          go_ret
          exact ⟨by rw [HE.out]; rfl, HF4.out.bel⟩
        · have e2 : decide (1048576 < x) = false := decide_eq_false hx2
          have HG2 : Hid (∀ i, i < k + 1 → okB (inp.getD i 0)) := hid' fun i hi => by
            by_cases e : i = k
            · rw [e, HX.out]; exact ⟨by omega, by omega⟩
            · exact HG.out i (by omega)
          go_wp2_with fail
          exact ⟨⟨k + 1, by omega, by push_cast; rfl, HG2⟩, by simp only [intOf]; omega⟩
    · obtain rfl : k = m := by omega
      by_cases ht1 : t < 0
      · have e1 : decide (t < 0) = true := decide_eq_true ht1
        have HE := Lib.hid (HRNG.out HG.out (.inl ht1))
        go_wp2_with fail
        go_ret
        exact ⟨by rw [HE.out]; rfl, HF4.out.bel⟩
      · have e1 : decide (t < 0) = false := decide_eq_false ht1
        by_cases ht2 : 256 < t
        · have e2 : decide (256 < t) = true := decide_eq_true ht2
          have HE := Lib.hid (HRNG.out HG.out (.inr ht2))
          go_wp2_with fail
          go_ret
          exact ⟨by rw [HE.out]; rfl, HF4.out.bel⟩
        · have e2 : decide (256 < t) = false := decide_eq_false ht2
          have HE := Lib.hid (HOK.out HG.out (by omega))
          go_wp2_with fail
          go_ret
          exact ⟨by rw [HE.out]; rfl, HF4.out.bel⟩
end Go.Proofs.Ytgabhlalamnbgaa

/- message.Beliefs, ref45.Beliefs. -/
namespace Go.Proofs.Ytgabhlalamnbgaa
open Go.RowKit
set_option linter.unusedVariables false
set_option maxRecDepth 100000

/-- a list and an error code -/
def RetBe (w : World) (xs : List Int) (er : Int) (e : Ending) (w' : World) : Prop := ∃ u, e = .returned (.tuple #[u, .int .i64 er]) ∧ SI w' u xs ∧ Below w.heap.size w w'
theorem dnM_rows {rows : List (List Int)} {n : Nat} {F : Nat → Nat → Int} (hn : n ≤ 256) (hF : ∀ j p, -cer ≤ F j p ∧ F j p ≤ cer) : ∀ j, j < (dnM rows n F).length → ((dnM rows n F).getD j []).length ≤ 17592186044416 ∧ ∀ k, I64 (((dnM rows n F).getD j []).getD k 0) := fun j hj => by
  rw [dnM_len] at hj
  rw [dnM_getD hj]
  have hl := onesTo_len (rows.getD j []) n
  refine ⟨by rw [dnL_len]; omega, fun k => ?_⟩
  by_cases hk : k < (onesTo (rows.getD j []) n).length
  · rw [dnL_getD hk]
    have := hF j ((onesTo (rows.getD j []) n).getD k 0).toNat
    unfold cer at this
    exact I64.of_small (by omega) (by omega)
  · rw [getD_len (by rw [dnL_len]; omega)]; exact I64.zero
theorem belL_wf (rows : List (List Int)) (n : Nat) (inp : List Int) (F : Nat → Nat → Int) : ∀ k, I64 ((belL rows n inp F).getD k 0) := fun k => by
  by_cases hk : k < n
  · unfold belL
    rw [rowOf_getD hk]
    have := sumV_bd (inp.getD k 0) (inTo rows F k (-1) rows.length)
    unfold cer at this
    exact I64.of_small (by omega) (by omega)
  · rw [getD_len (by unfold belL; rw [rowOf_len]; omega)]; exact I64.zero
theorem belL_len (rows : List (List Int)) (n : Nat) (inp : List Int) (F : Nat → Nat → Int) : (belL rows n inp F).length = n := rowOf_len _ _

set_option maxHeartbeats 16000000 in
theorem mBel_no (w : World) (cols t : Int) (rv iv : Value) (rows : List (List Int)) (inp : List Int) (hv : SS w rv rows) (hi : SI w iv inp) (hE : argE cols rows inp t ≠ 0) :
    Calls Try.prog 35 #[.agg #[.int .i64 cols, rv], iv, .int .i64 t] w (RetBe w [] (argE cols rows inp t)) := by
  have HV := Lib.hid hv; have HI := Lib.hid hi; clear hv hi
  obtain ⟨RA, rc, rfl, _⟩ := HV.out
  have HF := Lib.hid (MBox.mk' w cols (.slice RA rows.length rc))
  by_cases hb : bitE cols rows = 0
  case neg =>
    have HE : Hid (argE cols rows inp t = bitE cols rows) := hid' (by unfold argE; rw [if_pos hb])
    rw [HE.out]
    have HBN := Lib.hid hb
    have hbb : (bitE cols rows != 0) = true := by rw [bne_iff_ne]; exact hb
    clear hb hE
    go_enter Try.func35, Try.ntmps35
    go_wp2_with fail
    generalize hw0 : w.alloc (.cells #[.int .i64 cols, .slice RA rows.length rc] 24) = w0 at *
    clear hw0
    have d0 := HF.out.d0; have d1 := HF.out.d1
    go_wp2_with fail
    refine (build_no _ cols _ rows (HV.out.below HF.out.bel (Nat.le_refl _)) HBN.out).mono ?_
    rintro e w1 ⟨rfl, hb1⟩
    have HB1 := Lib.hid (bl_trans HF.out.bel hb1); clear hb1
    go_wp2_with fail
    go_ret2
    exact ⟨_, rfl, SI.none_ _, HB1.out⟩
  obtain ⟨n, hcn, hm⟩ := mr_of hb
  subst hcn
  have HE : Hid (argE n rows inp t = inpE n inp t) := hid' (by unfold argE; rw [if_neg (fun e => e hb)])
  rw [HE.out] at hE ⊢
  have hbb : (inpE n inp t != 0) = true := by rw [bne_iff_ne]; exact hE
  have HB := Lib.hid hb
  clear hb hE hm
  go_enter Try.func35, Try.ntmps35
  go_wp2_with fail
  generalize hw0 : w.alloc (.cells #[.int .i64 (n : Int), .slice RA rows.length rc] 24) = w0 at *
  clear hw0
  have d0 := HF.out.d0; have d1 := HF.out.d1
  go_wp2_with fail
  refine (build_ok _ n _ rows (HV.out.below HF.out.bel (Nat.le_refl _)) HB.out).mono ?_
  rintro e w1 ⟨g, rfl, hg1, hb1⟩
  have HF1 := Lib.hid (HF.out.on hb1); clear hb1 d0 d1 hg1
  have d0 := HF1.out.d0; have d1 := HF1.out.d1
  go_wp2_with fail
  refine (inputs_any _ n t _ _ inp (HI.out.below HF1.out.bel (Nat.le_refl _))).mono ?_
  rintro e w2 ⟨rfl, hb2⟩
  have HB2 := Lib.hid (bl_trans HF1.out.bel hb2); clear hb2 d0 d1
  generalize inpE n inp t = er at *
  go_wp2_with fail
  go_ret2
  exact ⟨_, rfl, SI.none_ _, HB2.out⟩

set_option maxHeartbeats 16000000 in
theorem mBel_ok (w : World) (n t : Nat) (rv iv : Value) (rows : List (List Int)) (inp : List Int) (hv : SS w rv rows) (hi : SI w iv inp) (hE : argE n rows inp t = 0) (ht : t ≤ 256) (hbE : bitE n rows = 0) (hb : BI n rows inp) :
    Calls Try.prog 35 #[.agg #[.int .i64 (n : Int), rv], iv, .int .i64 (t : Int)] w (RetBe w (belL rows n inp (itM rows n inp t)) 0) := by
  have HV := Lib.hid hv; have HI := Lib.hid hi; have HB := Lib.hid hbE; have HBI := Lib.hid hb
  have hie : inpE n inp t = 0 := by unfold argE at hE; rwa [if_neg (fun e => e hbE)] at hE
  have HIE := Lib.hid hie
  have hnn := hb.nn; have hrl := hb.rl
  have HIL := Lib.hid hb.il
  clear hv hi hE hbE hie hb
  obtain ⟨RA, rc, rfl, _⟩ := HV.out
  obtain ⟨IA, ic, rfl, _⟩ := HI.out
  rw [HIL.out] at HI ⊢
  have HF := Lib.hid (MBox.mk' w n (.slice RA rows.length rc))
  have HIT := Lib.hid (fun k => itM_bd rows n inp k)
  go_enter Try.func35, Try.ntmps35
  go_wp2_with fail
  generalize hw0 : w.alloc (.cells #[.int .i64 (n : Int), .slice RA rows.length rc] 24) = w0 at *
  clear hw0
  have d0 := HF.out.d0; have d1 := HF.out.d1
  go_wp2_with fail
  refine (build_ok _ n _ rows (HV.out.below HF.out.bel (Nat.le_refl _)) HB.out).mono ?_
  rintro e w1 ⟨g, rfl, hg1, hb1⟩
  rw [Int.toNat_natCast] at hg1
  have HG1 := Lib.hid hg1.out
  have HF1 := Lib.hid (HF.out.on hb1); clear hb1 d0 d1 hg1
  have d0 := HF1.out.d0; have d1 := HF1.out.d1
  go_wp2_with fail
  refine (inputs_any _ n t _ _ inp (HI.out.below HF1.out.bel (Nat.le_refl _))).mono ?_
  rintro e w2 ⟨rfl, hb2⟩
  rw [HIE.out]
  have HF2 := Lib.hid (HF1.out.on hb2)
  have HG2 := Lib.hid (HG1.out.on hb2)
  clear hb2 d0 d1
  go_wp2_with fail
  refine (gmsg_any _ g n rows HG2.out hnn hrl).mono ?_
  rintro e w3 ⟨u3, gs3, rfl, ho3, hb3⟩
  have HZ : Hid (dnM rows n (fun _ _ => 0) = dnM rows n (itM rows n inp 0)) := rfl
  have hss3 := ho3.ss (by rw [dnM_len]; omega) (dnM_rows hnn (fun _ _ => ⟨by decide, by decide⟩))
  obtain ⟨A3, c3, rfl⟩ := ho3.form
  rw [dnM_len]
  rw [HZ.out, dnM_len] at hss3
  have HS3 := Lib.hid hss3
  have HF3 := Lib.hid (HF2.out.on hb3)
  have HG3 := Lib.hid (HG2.out.on hb3)
  clear ho3 hb3 hss3
  go_wp2_with fail
  go_loopw [11, 30] (fun u i wr => ∃ (k : Nat) (A : Option Addr) (c : Nat), k ≤ t ∧ i = .int .i64 (k : Int) ∧ u = .slice A rows.length c ∧ Hid (SS wr (.slice A rows.length c) (dnM rows n (itM rows n inp k))) ∧ Hid (GR wr g (cksTo rows n rows.length) (atTo rows n rows.length 0)) ∧ Hid (MBox w wr n (.slice RA rows.length rc))) (fun _ i _ => t - (intOf i).toNat)
  case atStart => exact ⟨0, A3, c3, Nat.zero_le _, rfl, rfl, HS3, HG3, HF3⟩
  case round =>
    clear HS3 HG3 HF3
    obtain ⟨k, A, c, hk, rfl, rfl, HS, HG, HFr⟩ := hrel
    by_cases hkt : k < t
    · go_wp2_with fail
      refine (ground_any _ g n _ _ rows inp (itM rows n inp k) HG.out (HI.out.below HFr.out.bel (Nat.le_refl _)) HS.out (HIT.out k) HBI.out).mono ?_
      rintro e w4 ⟨u4, gs4, rfl, ho4, hb4⟩
      have HZ4 : Hid (dnM rows n (nxM rows n inp (itM rows n inp k)) = dnM rows n (itM rows n inp (k + 1))) := rfl
      rw [HZ4.out] at ho4
      have hss4 := ho4.ss (by rw [dnM_len]; omega) (dnM_rows hnn (HIT.out (k + 1)))
      obtain ⟨A4, c4, rfl⟩ := ho4.form
      rw [dnM_len] at hss4 ⊢
      have HS4 := Lib.hid hss4
      have HF4 := Lib.hid (HFr.out.on hb4)
      have HG4 := Lib.hid (HG.out.on hb4)
      clear ho4 hb4 hss4
      go_wp2_with fail
      exact ⟨⟨k + 1, A4, c4, by omega, by push_cast; rfl, rfl, HS4, HG4, HF4⟩, by simp only [intOf]; omega⟩
    · obtain rfl : k = t := by omega
      go_wp2_with fail
      refine (gbel_any _ g n _ _ rows inp (itM rows n inp k) HG.out (HI.out.below HFr.out.bel (Nat.le_refl _)) HS.out (HIT.out k) HBI.out).mono ?_
      rintro e w4 ⟨u4, rfl, ho4, hb4⟩
      have HS4 := Lib.hid (ho4.si (by rw [belL_len]; omega) (belL_wf rows n inp (itM rows n inp k)))
      have HB4 := Lib.hid (bl_trans HFr.out.bel hb4)
      clear ho4 hb4
      go_wp2_with fail
      go_ret2
      exact ⟨_, rfl, HS4.out, HB4.out⟩

theorem mtM_rows {rows : List (List Int)} {n : Nat} {F : Nat → Nat → Int} (hn : n ≤ 256) (hF : ∀ j p, -cer ≤ F j p ∧ F j p ≤ cer) : ∀ j, j < (mtM rows n F).length → ((mtM rows n F).getD j []).length ≤ 17592186044416 ∧ ∀ k, I64 (((mtM rows n F).getD j []).getD k 0) := fun j hj => by
  rw [mtM_len] at hj
  rw [mtM_getD hj]
  refine ⟨by rw [mtL_len]; omega, fun k => ?_⟩
  by_cases hk : k < n
  · rw [mtL_getD hk]
    have := hF j k
    unfold cer at this
    split
    · exact I64.of_small (by omega) (by omega)
    · exact I64.zero
  · rw [getD_len (by rw [mtL_len]; omega)]; exact I64.zero
theorem rowOf_snoc (p : Nat) (f : Nat → Int) : rowOf (p + 1) f = rowOf p f ++ [f p] := by unfold rowOf; rw [List.range_succ, List.map_append]; rfl
def zrM (n k : Nat) : List (List Int) := List.replicate k (List.replicate n 0)
theorem zrM_succ (n k : Nat) : zrM n (k + 1) = zrM n k ++ [List.replicate n 0] := by unfold zrM; rw [List.replicate_succ']
theorem zrM_len (n k : Nat) : (zrM n k).length = k := by simp [zrM]
theorem zrM_full (rows : List (List Int)) (n : Nat) : zrM n rows.length = mtM rows n (fun _ _ => 0) := by
  unfold zrM mtM
  have : (fun j => mtL (rows.getD j []) n fun _ => 0) = fun _ => List.replicate n (0 : Int) := by
    funext j; unfold mtL; rw [← rowOf_zero]; exact rowOf_congr fun p _ => ite_self _
  rw [this, List.map_const', List.length_range]

set_option maxHeartbeats 16000000 in
theorem rBel_any (w : World) (n t : Nat) (rv iv : Value) (rows : List (List Int)) (inp : List Int) (hv : SS w rv rows) (hi : SI w iv inp) (ht : t ≤ 256) (hb : BI n rows inp) :
    Calls Try.prog 37 #[.agg #[.int .i64 (n : Int), rv], iv, .int .i64 (t : Int)] w (RetO w (belL rows n inp (itM rows n inp t))) := by
  have HV := Lib.hid hv; have HI := Lib.hid hi; have HBI := Lib.hid hb
  have hnn := hb.nn; have hrl := hb.rl
  have HIL := Lib.hid hb.il
  have HIP := Lib.hid hb.ib
  clear hv hi hb
  obtain ⟨RA, rc, rfl, _⟩ := HV.out
  obtain ⟨IA, ic, rfl, _⟩ := HI.out
  rw [HIL.out] at HI ⊢
  have HB0 := Lib.hid (MBox.mk' w n (.slice RA rows.length rc))
  have HIT := Lib.hid (fun k => itM_bd rows n inp k)
  have HZF := Lib.hid (zrM_full rows n)
  have HMS := Lib.hid (fun k => mtM_rows (rows := rows) hnn (itM_bd rows n inp k))
  have HML := Lib.hid (fun k => mtM_len rows n (itM rows n inp k))
  have HM0 : Hid (mtM rows n (fun _ _ => 0) = mtM rows n (itM rows n inp 0)) := rfl
  have HMN : Hid (∀ k, mtM rows n (nxM rows n inp (itM rows n inp k)) = mtM rows n (itM rows n inp (k + 1))) := hid' fun _ => rfl
  have HRN := Lib.hid (fun w' fv k h1 h2 h3 => rround_any w' n (.slice RA rows.length rc) (.slice IA n ic) fv rows inp (itM rows n inp k) h1 h2 h3 (itM_bd rows n inp k) HBI.out)
  have HIN := Lib.hid (fun w' fv p (hp : p < n) h1 h2 h3 => rinto_any w' n p (-1) (.slice RA rows.length rc) (.slice IA n ic) fv rows (mtM rows n (itM rows n inp t)) inp (itM rows n inp t) h1 h2 h3 HBI.out hp (mtM_len _ _ _) (fun j hj => ⟨by rw [mtM_getD hj, mtL_len], fun h => by rw [mtM_getD hj, mtL_getD hp, if_pos h]⟩))
  have HNB := Lib.hid (fun p => inTo_bd (itM_bd rows n inp t) rows p (-1) rows.length)
  have HNL := Lib.hid (fun p => inTo_len rows (itM rows n inp t) p (-1) rows.length)
  obtain ⟨bf, hbf⟩ : ∃ bf : Nat → Int, bf = fun p => sumV (inp.getD p 0) (inTo rows (itM rows n inp t) p (-1) rows.length) := ⟨_, rfl⟩
  have HBF : Hid (∀ p, sumV (inp.getD p 0) (inTo rows (itM rows n inp t) p (-1) rows.length) = bf p) := hid' fun p => by rw [hbf]
  have HBE : Hid (belL rows n inp (itM rows n inp t) = rowOf n bf) := hid' (by show _ = _; rw [hbf]; rfl)
  clear hbf
  generalize hr : rows.length = r at *
  clear hr
  have hmk := fun (w : World) => run_mkI n (by omega) w
  have HO0 : Hid (OR (w.heap.size + 1) (w.alloc (.cells #[.int .i64 (n : Int), .slice RA r rc] 24)) (.slice none 0 0) (fun _ => 0) (zrM n 0)) := hid' (OR.nil _ _ _)
  go_enter Try.func37, Try.ntmps37
  go_wp2_with fail
  generalize w.alloc (.cells #[.int .i64 (n : Int), .slice RA r rc] 24) = w0 at *
  go_loopw [7, 8] (fun u i wr => ∃ (k : Nat) (OA : Option Addr) (oc : Nat) (gs : Nat → Nat), k ≤ r ∧ i = .int .i64 (k : Int) ∧ u = .slice OA k oc ∧ Hid (OR (w.heap.size + 1) wr (.slice OA k oc) gs (zrM n k)) ∧ Hid (MBox w wr n (.slice RA r rc))) (fun _ i _ => r - (intOf i).toNat)
  case atStart => exact ⟨0, none, 0, _, Nat.zero_le _, rfl, rfl, HO0, HB0⟩
  case round =>
    clear HO0 HB0
    obtain ⟨k, OA, oc, gs, hk, rfl, rfl, HO, HM⟩ := hrel
    have d0 := HM.out.d0; have d1 := HM.out.d1
    by_cases hkr : k < r
    · have HNX := Lib.hid (zrM_succ n k)
      have HZL := Lib.hid (zrM_len n k)
      have HX := Lib.hid (RI.made wr n)
      have hlt := HM.out.blk.lt
      have HOa := Lib.hid ((HO.out.alloc (.cells (madeCells #[.int .i64 0] n) 3)))
      have HMa := Lib.hid (HM.out.on (bl_alloc wr (.cells (madeCells #[.int .i64 0] n) 3)))
      have hs1 : (wr.alloc (.cells (madeCells #[.int .i64 0] n) 3)).heap.size = wr.heap.size + 1 := World.size_alloc _ _
      have HNO : Hid ((Value.slice OA k oc).ownBlock ≠ some wr.heap.size) := hid' fun e => by have := (HO.out.lt e).2; omega
      have HNJ : Hid (∀ j, j < (zrM n k).length → gs j ≠ wr.heap.size) := hid' fun j hj e => by have := (HO.out.row j hj).lt; omega
      have HGX : Hid (w.heap.size + 1 ≤ wr.heap.size) := hid' hlt
      have hbx := box1 (w := wr.alloc (.cells (madeCells #[.int .i64 0] n) 3)) (u := .slice (some ⟨wr.heap.size, 0, none⟩) n n) (t := 25)
      rw [hs1] at hbx
      have HBX := Lib.hid hbx
      have HOb := Lib.hid (HOa.out.alloc (.cells #[.slice (some ⟨wr.heap.size, 0, none⟩) n n] 25))
      have HXb := Lib.hid (HX.out.alloc (.cells #[.slice (some ⟨wr.heap.size, 0, none⟩) n n] 25))
      have HMb := Lib.hid (HMa.out.on (bl_alloc _ (.cells #[.slice (some ⟨wr.heap.size, 0, none⟩) n n] 25)))
      have HUP := Lib.hid (up_alloc (B := w.heap.size + 1) (w := wr.alloc (.cells (madeCells #[.int .i64 0] n) 3)) (by rw [hs1]; omega) (.cells #[.slice (some ⟨wr.heap.size, 0, none⟩) n n] 25))
      clear HO HM hs1 hbx HOa HX HMa hlt
      go_wp2_with (at_builtin; refine wpList_pushR rfl _ _ rfl (w.heap.size + 1) _ gs (zrM n k) rfl HOb.out (wr.heap.size + 1) 1 wr.heap.size (List.replicate n 0) rfl (by rw [List.length_replicate]; exact HBX.out) HXb.out HGX.out HNO.out HNJ.out (by rw [HZL.out]; omega) HUP.out ?_; (intro v5 w5 ho5 hg5 hv5); go_must (have HM5 := Lib.hid (HMb.out.grown hg5 (fun q e => by have := (HOb.out.lt e).1; omega)); rw [← HNX.out] at ho5; obtain ⟨A5, c5, rfl⟩ := ho5.form; rw [zrM_len] at ho5 ⊢; have HO5 := Lib.hid ho5; clear ho5 hg5 hv5))
      exact ⟨⟨k + 1, A5, c5, _, by omega, by push_cast; rfl, rfl, HO5, HM5⟩, by simp only [intOf]; omega⟩
    · obtain rfl : k = r := by omega
      rw [HZF.out, HM0.out] at HO
      have HS0 := Lib.hid (HO.out.ss (by rw [HML.out 0]; omega) (HMS.out 0))
      clear HO hkr
      go_wp2_with fail
      clear d0 d1
      go_loopw [7, 9] (fun u i wr => ∃ (s : Nat) (A : Option Addr) (c : Nat), s ≤ t ∧ i = .int .i64 (s : Int) ∧ u = .slice A k c ∧ Hid (SS wr (.slice A k c) (mtM rows n (itM rows n inp s))) ∧ Hid (MBox w wr n (.slice RA k rc))) (fun _ i _ => t - (intOf i).toNat)
      case atStart => exact ⟨0, OA, oc, Nat.zero_le _, rfl, rfl, HS0, HM⟩
      case round =>
        clear HS0 HM
        obtain ⟨s, A, c, hs, rfl, rfl, HS, HM⟩ := hrel
        have d0 := HM.out.d0; have d1 := HM.out.d1
        by_cases hst : s < t
        · go_wp2_with fail
          refine (HRN.out _ _ s (HV.out.below HM.out.bel (Nat.le_refl _)) (HI.out.below HM.out.bel (Nat.le_refl _)) HS.out).mono ?_
          rintro e w4 ⟨u4, rfl, ho4, hb4⟩
          rw [HMN.out s] at ho4
          have hss4 := ho4.ss (by rw [HML.out (s + 1)]; omega)
          obtain ⟨A4, c4, rfl⟩ := ho4.form
          rw [HML.out (s + 1)] at hss4 ⊢
          have HS4 := Lib.hid hss4
          have HM4 := Lib.hid (HM.out.on hb4)
          clear ho4 hb4 hss4 d0 d1
          go_wp2_with fail
          exact ⟨⟨s + 1, A4, c4, by omega, by push_cast; rfl, rfl, HS4, HM4⟩, by simp only [intOf]; omega⟩
        · obtain rfl : s = t := by omega
          clear hst
          have HSM := Lib.hid (show SS wr (.slice A k c) (mtM rows n (itM rows n inp s)) from HS.out)
          have HWB := Lib.hid (bl_refl wr)
          obtain ⟨wo, hwo⟩ : ∃ wo, wo = wr := ⟨_, rfl⟩
          rw [← hwo] at HSM
          have HMo : Hid (MBox w wo n (.slice RA k rc)) := by rw [hwo]; exact HM
          have HWo : Hid (Below wo.heap.size wo wr) := by rw [hwo]; exact HWB
          have HQ0 : Hid (OI wo.heap.size wr (.slice none 0 0) (rowOf 0 bf)) := hid' (OI.nil _ _)
          have HWL := Lib.hid HMo.out.blk.lt
          clear hwo HWB HS
          go_wp2_with fail
          clear d0 d1
          go_loopw [10, 11] (fun u i wr => ∃ (p : Nat) (UA : Option Addr) (uc : Nat), p ≤ n ∧ i = .int .i64 (p : Int) ∧ u = .slice UA p uc ∧ Hid (OI wo.heap.size wr (.slice UA p uc) (rowOf p bf)) ∧ Hid (Below wo.heap.size wo wr) ∧ Hid (MBox w wr n (.slice RA k rc))) (fun _ i _ => n - (intOf i).toNat)
          case atStart => exact ⟨0, none, 0, Nat.zero_le _, rfl, rfl, HQ0, HWo, HM⟩
          case round =>
            clear HQ0 HWo HM
            obtain ⟨p, UA, uc, hp, rfl, rfl, HQ, HW, HM⟩ := hrel
            have d0 := HM.out.d0; have d1 := HM.out.d1
            by_cases hpn : p < n
            · have hib := HIP.out p
              have HCC : Hid (sumV 0 (inp.getD p 0 :: inTo rows (itM rows n inp s) p (-1) k) = bf p) := hid' (by show _ = _; rw [sumV_cons (by unfold cer; omega)]; exact HBF.out p)
              have HLN := Lib.hid (HNL.out p)
              have HLB : Hid (∀ z, z ∈ inp.getD p 0 :: inTo rows (itM rows n inp s) p (-1) k → -cer ≤ z ∧ z ≤ cer) := hid' fun z hz => by
                rcases List.mem_cons.1 hz with hz | hz
                · rw [hz]; unfold cer; omega
                · exact HNB.out p z hz
              have HRW := Lib.hid (rowOf_snoc p bf)
              have HRL := Lib.hid (rowOf_len p bf)
              clear hib
              go_wp2_with fail
              refine (HIN.out _ _ p hpn (HV.out.below HM.out.bel (Nat.le_refl _)) (HI.out.below HM.out.bel (Nat.le_refl _)) (HSM.out.below HW.out (Nat.le_refl _))).mono ?_
              rintro e w4 ⟨u4, rfl, ho4, hb4⟩
              have HO4 := Lib.hid (ho4.si (by simp only [List.length_cons]; have := HLN.out; omega) (fun i => by
                by_cases hi : i < (inp.getD p 0 :: inTo rows (itM rows n inp s) p (-1) k).length
                · have h1 := HLB.out ((inp.getD p 0 :: inTo rows (itM rows n inp s) p (-1) k).getD i 0) (getD_mem_or i hi)
                  unfold cer at h1
                  exact I64.of_small (by omega) (by omega)
                · rw [getD_len (by omega)]; exact I64.zero))
              have HQ4 := Lib.hid (HQ.out.below hb4 (Nat.le_refl _)); have HM4 := Lib.hid (HM.out.on hb4); have HW4 := Lib.hid (bl_trans HW.out hb4)
              clear ho4 hb4 HQ HW HM d0 d1
              go_wp2_with fail
              refine (rsum_any _ u4 (inp.getD p 0 :: inTo rows (itM rows n inp s) p (-1) k) HO4.out (by simp only [List.length_cons]; have := HLN.out; omega) HLB.out).mono ?_
              rintro e w5 ⟨rfl, hb5⟩
              rw [HCC.out]
              have HQ5 := Lib.hid (HQ4.out.below hb5 (Nat.le_refl _)); have HM5 := Lib.hid (HM4.out.on hb5); have HW5 := Lib.hid (bl_trans HW4.out hb5)
              have HP := Lib.hid (PushI.mk' HQ5.out HM5.out.bel HW5.out.size (bf p))
              have HMA := Lib.hid (HM5.out.on (bl_alloc w5 (.cells #[.int .i64 (bf p)] 3)))
              have HWA := Lib.hid (bl_trans HW5.out (bl_alloc w5 (.cells #[.int .i64 (bf p)] 3)))
              clear hb5 HQ4 HM4 HW4 HLB HLN HCC HO4
              go_wp2_with (at_builtin; refine wpList_pushI rfl _ _ rfl wo.heap.size _ (rowOf p bf) rfl HP.out.own w5.heap.size 1 (bf p) rfl HP.out.box (by rw [HRL.out]; omega) HP.out.up ?_; (intro v6 w6 ho6 hg6); go_must (have HM6 := Lib.hid (HMA.out.grown hg6 (fun q e => by have := (HP.out.own.lt e).1; have := HWL.out; omega)); have HW6 := Lib.hid (HP.out.own.bgrown HWA.out HWA.out.size hg6); rw [← HRW.out] at ho6; obtain ⟨A6, c6, rfl⟩ := ho6.form'; rw [rowOf_len] at ho6 ⊢; have HO6 := Lib.hid ho6; clear ho6 hg6))
              exact ⟨⟨p + 1, A6, c6, by omega, by push_cast; rfl, rfl, HO6, HW6, HM6⟩, by simp only [intOf]; omega⟩
            · obtain rfl : p = n := by omega
              have HE : Hid (belL rows p inp (itM rows p inp s) = rowOf p bf) := HBE
              go_wp2_with fail
              go_ret
              exact ⟨_, rfl, by rw [HE.out]; exact HQ.out.mono (by have := HWL.out; omega), HM.out.bel⟩
end Go.Proofs.Ytgabhlalamnbgaa

/- The law MessageBeliefs returns true for every input. -/
namespace Go.Proofs.Ytgabhlalamnbgaa
open Go.RowKit
set_option linter.unusedVariables false
set_option maxRecDepth 100000

theorem decL_wf (l : List Int) : ∀ k, I64 ((decL l).getD k 0) := fun k => by
  by_cases hk : k < l.length
  · rw [decL_fill, rowOf_getD hk]
    split
    · exact I64.one
    · exact I64.zero
  · rw [getD_len (by unfold decL; rw [List.length_map]; omega)]; exact I64.zero
set_option maxHeartbeats 16000000 in
theorem lawBeliefs (w : World) {hv : Value} (hh : ∃ cols rv rows, hv = .agg #[.int .i64 cols, rv] ∧ SS w rv rows) {iv : Value} (hiv : ∃ inp, SI w iv inp) (t : Int) :
    Calls Try.prog 9 #[hv, iv, .int .i64 t] w (RetB w true) := by
  obtain ⟨cols, rv, rows, rfl, hv⟩ := hh
  obtain ⟨inp, hi⟩ := hiv
  have HV := Lib.hid hv; have HI := Lib.hid hi; clear hv hi
  obtain ⟨RA, rc, rfl, _⟩ := HV.out
  obtain ⟨IA, ic, rfl, _⟩ := HI.out
  have HF := Lib.hid (MBox.mk' w cols (.slice RA rows.length rc))
  generalize hr : rows.length = r at HF HV ⊢
  have HRR := Lib.hid hr; clear hr
  generalize hil : inp.length = il at HI ⊢
  have HIL := Lib.hid hil; clear hil
  cases hf9 : few09 2000 cols rows
  · have HF9 := Lib.hid hf9; clear hf9
    go_enter Try.func9, Try.ntmps9
    go_wp2_with fail
    generalize hw0 : w.alloc (.cells #[.int .i64 cols, .slice RA r rc] 24) = w0 at *
    clear hw0
    have d0 := HF.out.d0; have d1 := HF.out.d1
    go_wp2_with fail
    refine (few09_any _ cols (.slice RA r rc) rows (HV.out.below HF.out.bel (Nat.le_refl _))).mono ?_
    rintro e w1 ⟨rfl, hb1⟩
    rw [HF9.out]
    have HB1 := Lib.hid (bl_trans HF.out.bel hb1); clear hb1
    go_wp2_with fail
    go_ret
    exact ⟨rfl, HB1.out⟩
  have HF9 := Lib.hid hf9; clear hf9
  by_cases hE : argE cols rows inp t = 0
  case neg =>
    have HEN := Lib.hid hE
    have hbb : (argE cols rows inp t != 0) = true := by rw [bne_iff_ne]; exact hE
    have hee : (argE cols rows inp t == argE cols rows inp t) = true := by simp
    clear hE
    go_enter Try.func9, Try.ntmps9
    go_wp2_with fail
    generalize hw0 : w.alloc (.cells #[.int .i64 cols, .slice RA r rc] 24) = w0 at *
    clear hw0
    have d0 := HF.out.d0; have d1 := HF.out.d1
    go_wp2_with fail
    refine (few09_any _ cols (.slice RA r rc) rows (HV.out.below HF.out.bel (Nat.le_refl _))).mono ?_
    rintro e w1 ⟨rfl, hb1⟩
    rw [HF9.out]
    have HF1 := Lib.hid (HF.out.on hb1); clear hb1 d0 d1
    have d0 := HF1.out.d0; have d1 := HF1.out.d1
    go_wp2_with fail
    refine (rargs_any _ cols t (.slice RA r rc) (.slice IA il ic) rows inp (HV.out.below HF1.out.bel (Nat.le_refl _)) (HI.out.below HF1.out.bel (Nat.le_refl _))).mono ?_
    rintro e w2 ⟨rfl, hb2⟩
    have HF2 := Lib.hid (HF1.out.on hb2); clear hb2 d0 d1
    have d0 := HF2.out.d0; have d1 := HF2.out.d1
    go_wp2_with fail
    refine (mBel_no _ cols t (.slice RA r rc) (.slice IA il ic) rows inp (HV.out.below HF2.out.bel (Nat.le_refl _)) (HI.out.below HF2.out.bel (Nat.le_refl _)) HEN.out).mono ?_
    rintro e w3 ⟨u3, rfl, hu3, hb3⟩
    obtain ⟨A3, c3, rfl, _⟩ := hu3
    rw [List.length_nil]
    have HB3 := Lib.hid (bl_trans HF2.out.bel hb3); clear hb3 d0 d1
    generalize argE cols rows inp t = er at *
    go_wp2_with fail
    go_ret
    exact ⟨rfl, HB3.out⟩
  obtain ⟨n, s, hcn, hts, hs, hbE, hmr, hbi⟩ := argE_of hE
  subst hcn hts
  have HE := Lib.hid hE; have HBE := Lib.hid hbE; have HBI := Lib.hid hbi
  have HN0 : Hid (inp.length = n) := hid' hbi.il
  clear hE hbE hmr hbi
  go_enter Try.func9, Try.ntmps9
  go_wp2_with fail
  generalize hw0 : w.alloc (.cells #[.int .i64 n, .slice RA r rc] 24) = w0 at *
  clear hw0
  have d0 := HF.out.d0; have d1 := HF.out.d1
  go_wp2_with fail
  refine (few09_any _ n (.slice RA r rc) rows (HV.out.below HF.out.bel (Nat.le_refl _))).mono ?_
  rintro e w1 ⟨rfl, hb1⟩
  rw [HF9.out]
  have HF1 := Lib.hid (HF.out.on hb1); clear hb1 d0 d1
  have d0 := HF1.out.d0; have d1 := HF1.out.d1
  go_wp2_with fail
  refine (rargs_any _ n s (.slice RA r rc) (.slice IA il ic) rows inp (HV.out.below HF1.out.bel (Nat.le_refl _)) (HI.out.below HF1.out.bel (Nat.le_refl _))).mono ?_
  rintro e w2 ⟨rfl, hb2⟩
  have HF2 := Lib.hid (HF1.out.on hb2); clear hb2 d0 d1
  have d0 := HF2.out.d0; have d1 := HF2.out.d1
  rw [HE.out]
  go_wp2_with fail
  refine (few45_any _ 8 10 n (.slice RA r rc) rows (HV.out.below HF2.out.bel (Nat.le_refl _))).mono ?_
  rintro e w3 ⟨rfl, hb3⟩
  have HF3 := Lib.hid (HF2.out.on hb3)
  clear hb3 d0 d1
  have d0 := HF3.out.d0; have d1 := HF3.out.d1
  cases few45 8 10 n rows
  · go_wp2_with fail
    go_ret
    exact ⟨rfl, HF3.out.bel⟩
  by_cases hs16 : 16 < s
  · have e16 : decide (16 < (s : Int)) = true := by simp; omega
    go_wp2_with fail
    go_ret
    exact ⟨rfl, HF3.out.bel⟩
  have e16 : decide (16 < (s : Int)) = false := by simp; omega
  go_wp2_with fail
  refine (mBel_ok _ n s (.slice RA r rc) (.slice IA il ic) rows inp (HV.out.below HF3.out.bel (Nat.le_refl _)) (HI.out.below HF3.out.bel (Nat.le_refl _)) HE.out hs HBE.out HBI.out).mono ?_
  rintro e w4 ⟨u4, rfl, hu4, hb4⟩
  have HU4 := Lib.hid hu4
  have HF4 := Lib.hid (HF3.out.on hb4)
  clear hu4 hb4 d0 d1
  have d0 := HF4.out.d0; have d1 := HF4.out.d1
  go_wp2_with fail
  refine (rBel_any _ n s (.slice RA r rc) (.slice IA il ic) rows inp (HV.out.below HF4.out.bel (Nat.le_refl _)) (HI.out.below HF4.out.bel (Nat.le_refl _)) hs HBI.out).mono ?_
  rintro e w5 ⟨u5, rfl, ho5, hb5⟩
  have HU5 := Lib.hid (ho5.si (by rw [belL_len]; have := HBI.out.nn; omega) (belL_wf rows n inp (itM rows n inp s)))
  have HU45 := Lib.hid (HU4.out.below hb5 (Nat.le_refl _))
  have HB5 := Lib.hid (bl_trans HF4.out.bel hb5)
  clear ho5 hb5 d0 d1 HU4
  have hln : (decL (belL rows n inp (itM rows n inp s))).length ≤ 17592186044416 := by unfold decL; rw [List.length_map, belL_len]; have := HBI.out.nn; omega
  have HLN := Lib.hid hln; clear hln
  generalize belL rows n inp (itM rows n inp s) = bl at *
  go_wp2_with fail
  refine (rSameInts_any _ _ _ _ _ HU45.out HU5.out).mono ?_
  rintro e w6 ⟨rfl, hb6⟩
  rw [decide_eq_true (rfl : bl = bl)]
  have HU6 := Lib.hid (HU5.out.below hb6 (Nat.le_refl _))
  have HB6 := Lib.hid (bl_trans HB5.out hb6)
  clear hb6 HU45 HU5
  go_wp2_with fail
  refine (mdec_any _ _ bl HU6.out).mono ?_
  rintro e w7 ⟨u7, rfl, ho7, hb7⟩
  have HU7 := Lib.hid (ho7.si HLN.out (decL_wf bl))
  have HU67 := Lib.hid (HU6.out.below hb7 (Nat.le_refl _))
  have HB7 := Lib.hid (bl_trans HB6.out hb7)
  clear ho7 hb7 HU6
  go_wp2_with fail
  refine (rdec_any _ _ bl HU67.out).mono ?_
  rintro e w8 ⟨u8, rfl, ho8, hb8⟩
  have HU8 := Lib.hid (ho8.si HLN.out (decL_wf bl))
  have HU78 := Lib.hid (HU7.out.below hb8 (Nat.le_refl _))
  have HB8 := Lib.hid (bl_trans HB7.out hb8)
  clear ho8 hb8 HU7 HU67
  go_wp2_with fail
  refine (rSameInts_any _ _ _ _ _ HU78.out HU8.out).mono ?_
  rintro e w9 ⟨rfl, hb9⟩
  rw [decide_eq_true (rfl : decL bl = decL bl)]
  have HB9 := Lib.hid (bl_trans HB8.out hb9)
  clear hb9
  go_wp2_with fail
  go_ret
  exact ⟨rfl, HB9.out⟩
end Go.Proofs.Ytgabhlalamnbgaa

/- MessageBeliefs: the law returns true for every input; each argument reads behind the call as it read before. The walk is in LBel. -/
namespace Go.Proofs.Ytgabhlalamnbgaa.messageBeliefs
open Go.ChangeShapes Go.WideShapes Go.ChangeAt Go.RowKit
set_option linter.unusedVariables false

set_option maxRecDepth 100000 in
theorem lifted (os : Os) (started : os.Started) (H : Type) (enc : TypeId × Value → H) :
    ReturnsInHanded {} Try.checked os 9 .any (Rows.messageBeliefsSpec.pre6 enc Try.prog Try.f9 Rows.messageBeliefsRow.domain false) (Rows.messageBeliefsSpec.post enc Try.prog Try.f9 false true false false) := by
  refine returnsInHanded_of_change_sized (C := Try.checked) own started (by kernel_rfl) Try.func9
    (ChangeSpec.witness6 (enc := enc) (C := Try.checked) false ⟨#[], #[.agg #[.int .i64 0, .slice none 0 0], .slice none 0 0, .int .i64 0], []⟩ 8 (by kernel_rfl) (by kernel_rfl) (by kernel_rfl) (by kernel_rfl)) ?_
  intro W base args ds gs before hval0 hW _ hsz0 _
  have hsz : (DataW.weightsEach Try.prog (Try.f9.params.toList ++ Rows.messageBeliefsSpec.plain.varTypes Try.prog) (ds ++ gs)).all (· ≤ reachBytes) = true := hsz0
  have hval : ∀ (j : Nat) t v, Try.f9.params[j]? = some t → args[j]? = some v → Value.okWide Try.prog W .any base t v := hval0
  have hW' := hW
  obtain ⟨p, q, hA0, hV, rfl, hfz, hnd⟩ := hW
  have hA : DataW.TrodAll enc Try.prog W 0 (fun _ => true) true Try.f9.params.toList args.toList ds p := hA0
  rw [Try.params9] at hA hval hsz
  obtain ⟨v0, vs0, d0, ds0, p0, q0, hargs, rfl, rfl, h0, r0'⟩ := trodAll_cons hA
  obtain ⟨v1, vs1, d1, ds1, p1, q1, rfl, rfl, rfl, h1, r1'⟩ := trodAll_cons r0'
  obtain ⟨v2, vs2, d2, ds2, p2, q2, rfl, rfl, rfl, h2, r2'⟩ := trodAll_cons r1'
  obtain ⟨rfl, rfl, rfl⟩ := trodAll_nil r2'
  obtain rfl : args = #[v0, v1, v2] := by cases args; simp_all
  obtain ⟨rfl, rfl⟩ := trodVars_none hV
  have k0 := h0
  have r0 := open_Matrix h0 (hval 0 24 v0 rfl rfl) (weigh hsz 0 rfl rfl)
  have k1 := h1
  have r1 := open_SI h1 (hval 1 25 v1 rfl rfl) (weigh hsz 1 rfl rfl)
  obtain ⟨a2, rfl, rfl, rfl, w2⟩ := open_int Try.underlying3 (hval 2 3 v2 rfl rfl) h2
  clear hA0 hval0
  refine (lawBeliefs W r0 r1 a2).mono fun e W' ⟨he, bel⟩ => ?_
  subst he
  exact ⟨_, rfl, _, _, _, [], _, [], hW', trodAll_mk1 (shut_bool Try.underlying4 _), (trodAll_cons_mk (Below.trod laidOut (by kernel_rfl) (of_decide_eq_true (by kernel_rfl)) k0 bel (lt_of_trod k0)) (trodAll_cons_mk (Below.trod laidOut (by kernel_rfl) (of_decide_eq_true (by kernel_rfl)) k1 bel (lt_of_trod k1)) (trodAll_cons_mk (shut_int Try.underlying3 w2) trodAll_mk0))), rfl, bel.frame _, fun h => by cases h⟩

theorem proved : Rows.MessageBeliefsSaid :=
  OpenClaim.holds_of_wide 9 Try.f9 rfl rfl rfl rfl rfl rfl rfl ⟨rfl, rfl, rfl, rfl, rfl⟩ rfl rfl rfl rfl rfl (by kernel_rfl) Try.func9 (by kernel_rfl)
    (of_decide_eq_true (by kernel_rfl)) (by unfold Func.isWrapper; first | (rw [if_pos (by decide +kernel)]; kernel_rfl) | (rw [if_neg (by decide +kernel)]; exact ⟨rfl, rfl⟩))
    (fun os started H enc _ => lifted os started H enc)
#print axioms proved
end Go.Proofs.Ytgabhlalamnbgaa.messageBeliefs
