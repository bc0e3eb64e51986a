/- Texts of a claim, merged: words, plain facts and walks that the last of its texts uses. -/
import Derived.Test.YtmejijekcfhonaaQ8
import Derived.Test.YtmejijekcfhonaaQ10
import Derived.Test.YtmejijekcfhonaaQ11
import Derived.Test.YtmejijekcfhonaaQ13
set_option linter.unusedSimpArgs false
set_option linter.unusedVariables false

/- space.pair, Sum, Meet: the errors. -/
namespace Go.Proofs.Ytmejijekcfhonaa
open Go.RowKit
set_option linter.unusedVariables false
set_option maxRecDepth 100000

/-- the first of two errors, or that two spaces do not fit together -/
def twoE0 (e1 e2 c1 c2 : Int) : Int := if e1 ≠ 0 then e1 else if e2 ≠ 0 then e2 else if c1 ≠ c2 then 10 else 0
/-- the error of two spaces -/
noncomputable def twoE (P M : Int) (Mod : List Int) (c1 : Int) (A : List (List Int)) (c2 : Int) (B : List (List Int)) : Int := twoE0 (spaceE P M Mod c1 A) (spaceE P M Mod c2 B) c1 c2
theorem twoE_zero {P M : Int} {Mod : List Int} {c1 c2 : Int} {A B : List (List Int)} (h : twoE P M Mod c1 A c2 B = 0) : spaceE P M Mod c1 A = 0 ∧ spaceE P M Mod c2 B = 0 ∧ c1 = c2 := by
  unfold twoE twoE0 at h
  split at h
  · rename_i h1; exact absurd h h1
  split at h
  · rename_i h1; exact absurd h h1
  split at h
  · cases h
  rename_i h1 h2 h3
  exact ⟨Decidable.not_not.1 h1, Decidable.not_not.1 h2, Decidable.not_not.1 h3⟩
/-- two views, whatever they hold, and an error -/
def RetPE (w : World) (er : Int) (e : Ending) (w' : World) : Prop := ∃ v1 v2, e = .returned (.tuple #[v1, v2, .int .i64 er]) ∧ VForm v1 ∧ VForm v2 ∧ Below w.heap.size w w'
set_option maxHeartbeats 16000000 in
theorem pair_any (w : World) (P M c1 c2 : Int) (mv rv sv : Value) (Mod : List Int) (A B : List (List Int)) (hm : SI w mv Mod) (hv : SS w rv A) (hu : SS w sv B) :
    Calls Try.prog 37 #[.agg #[.int .i64 P, .int .i64 M, mv], .agg #[.int .i64 c1, rv], .agg #[.int .i64 c2, sv]] w (RetPE w (twoE P M Mod c1 A c2 B)) := by
  have HO1 := Lib.hid (fun (w' : World) (hb : Below w.heap.size w w') => sopen_any w' P M c1 mv _ Mod A (hm.below hb (Nat.le_refl _)) (hv.below hb (Nat.le_refl _)))
  have HO2 := Lib.hid (fun (w' : World) (hb : Below w.heap.size w w') => sopen_any w' P M c2 mv _ Mod B (hm.below hb (Nat.le_refl _)) (hu.below hb (Nat.le_refl _)))
  obtain ⟨RA, rc, rfl, _⟩ := hv
  obtain ⟨SA, sc, rfl, _⟩ := hu
  clear hm
  unfold RetPE
  unfold twoE
  generalize spaceE P M Mod c1 A = e1 at *
  generalize spaceE P M Mod c2 B = e2 at *
  generalize A.length = r at *
  generalize B.length = s at *
  obtain ⟨w1, e1', hq, h3, h4, hsz⟩ := FPP.two w P M mv c1 (.slice RA r rc) c2 (.slice SA s sc)
  have HQ := Lib.hid hq; have HE1 := Lib.hid e1'; have H3 := Lib.hid h3; have H4 := Lib.hid h4
  clear hq e1' h3 h4
  go_enter Try.func37, Try.ntmps37
  go_upto_region 1 with fail
  rw [HE1.out]
  clear HE1
  have c0 := HQ.out.fb.c0; have c1' := HQ.out.fb.c1; have c2' := HQ.out.fb.c2; have d0 := HQ.out.m1.cell 0; have d1 := HQ.out.m1.cell 1
  go_wp2_with fail
  refine (HO1.out w1 HQ.out.fb.bel).mono ?_
  rintro e w2 ⟨v1, rfl, ⟨p1, i1, A1, l1, k1, B1, m1, d1', rfl⟩, hb2⟩
  have HQ2 := Lib.hid (HQ.out.on hb2); have H32 := Lib.hid (H3.out.belowS hb2); have H42 := Lib.hid (H4.out.belowS hb2)
  have hz2 := hb2.size
  clear hb2 c0 c1' c2' d0 d1
  obtain ⟨x0, x1, x2, x3, f0, f1, f2, f3⟩ := H32.out.four8
  go_upto_region 2 with fail
  obtain ⟨w3, h33, HL⟩ := lay4 (x := .pointer p1) (y := .int .i64 i1) (z := .slice A1 l1 k1) (u := .slice B1 m1 d1') H32.out
  rw [h33]
  have HQ3 := Lib.hid (HQ2.out.gr HL.gr (by omega))
  have H33 := Lib.hid HL.blk
  have H43 := Lib.hid (H42.out.grown HL.gr (by intro e; have := Option.some.inj e; omega))
  have hz3 := HL.gr.size
  clear h33 HL x0 x1 x2 x3 f0 f1 f2 f3 H42 HQ2 H32
  have c0 := HQ3.out.fb.c0; have c1' := HQ3.out.fb.c1; have c2' := HQ3.out.fb.c2; have d0 := HQ3.out.m2.cell 0; have d1 := HQ3.out.m2.cell 1
  by_cases he1 : e1 = 0
  case neg =>
    have hE : Hid (twoE0 e1 e2 c1 c2 = e1) := by show _ = _; unfold twoE0; rw [if_pos he1]
    have hb1 : (e1 != 0) = true := by rw [bne_iff_ne]; exact he1
    clear he1
    have q0 := H33.out.cell 0; have q1 := H33.out.cell 1; have q2 := H33.out.cell 2; have q3 := H33.out.cell 3
    have y0 := H43.out.cell 0; have y1 := H43.out.cell 1; have y2 := H43.out.cell 2; have y3 := H43.out.cell 3
    go_wp2_with fail
    refine bodyPost_ret (v := .tuple #[.agg #[.pointer p1, .int .i64 i1, .slice A1 l1 k1, .slice B1 m1 d1'], .agg #[.pointer none, .int .i64 0, .slice none 0 0, .slice none 0 0], .int .i64 e1]) (by simp [results, Try.results37, go_sem, q0, q1, q2, q3, y0, y1, y2, y3]) rfl ?_
    exact ⟨_, _, by rw [hE.out], ⟨_, _, _, _, _, _, _, _, rfl⟩, ⟨_, _, _, _, _, _, _, _, rfl⟩, HQ3.out.fb.bel⟩
  subst he1
  go_wp2_with fail
  refine (HO2.out w3 HQ3.out.fb.bel).mono ?_
  rintro e w4 ⟨v2, rfl, ⟨p2, i2, A2, l2, k2, B2, m2, d2', rfl⟩, hb4⟩
  have HQ4 := Lib.hid (HQ3.out.on hb4); have H34 := Lib.hid (H33.out.belowS hb4); have H44 := Lib.hid (H43.out.belowS hb4)
  have hz4 := hb4.size
  clear hb4 c0 c1' c2' d0 d1 HQ3 H33 H43
  obtain ⟨x0, x1, x2, x3, f0, f1, f2, f3⟩ := H44.out.four8
  go_upto_region 4 with fail
  obtain ⟨w5, h55, HL⟩ := lay4 (x := .pointer p2) (y := .int .i64 i2) (z := .slice A2 l2 k2) (u := .slice B2 m2 d2') H44.out
  rw [h55]
  have HQ5 := Lib.hid (HQ4.out.gr HL.gr (by omega))
  have H45 := Lib.hid HL.blk
  have H35 := Lib.hid (H34.out.grown HL.gr (by intro e; have := Option.some.inj e; omega))
  clear h55 HL x0 x1 x2 x3 f0 f1 f2 f3
  have d0 := HQ5.out.m1.cell 0; have d1 := HQ5.out.m2.cell 0
  have q0 := H35.out.cell 0; have q1 := H35.out.cell 1; have q2 := H35.out.cell 2; have q3 := H35.out.cell 3
  have y0 := H45.out.cell 0; have y1 := H45.out.cell 1; have y2 := H45.out.cell 2; have y3 := H45.out.cell 3
  by_cases he2 : e2 = 0
  case neg =>
    have hE : Hid (twoE0 0 e2 c1 c2 = e2) := by show _ = _; unfold twoE0; rw [if_neg (by simp), if_pos he2]
    have hb1 : (e2 != 0) = true := by rw [bne_iff_ne]; exact he2
    clear he2
    go_wp2_with fail
    refine bodyPost_ret (v := .tuple #[.agg #[.pointer p1, .int .i64 i1, .slice A1 l1 k1, .slice B1 m1 d1'], .agg #[.pointer p2, .int .i64 i2, .slice A2 l2 k2, .slice B2 m2 d2'], .int .i64 e2]) (by simp [results, Try.results37, go_sem, q0, q1, q2, q3, y0, y1, y2, y3]) rfl ?_
    exact ⟨_, _, by rw [hE.out], ⟨_, _, _, _, _, _, _, _, rfl⟩, ⟨_, _, _, _, _, _, _, _, rfl⟩, HQ5.out.fb.bel⟩
  subst he2
  by_cases hc : c1 = c2
  · subst hc
    have hE : Hid (twoE0 0 0 c1 c1 = 0) := by show _ = _; unfold twoE0; simp
    have hnn : (c1 != c1) = false := by simp
    go_wp2_with fail
    refine bodyPost_ret (v := .tuple #[.agg #[.pointer p1, .int .i64 i1, .slice A1 l1 k1, .slice B1 m1 d1'], .agg #[.pointer p2, .int .i64 i2, .slice A2 l2 k2, .slice B2 m2 d2'], .int .i64 0]) (by simp [results, Try.results37, go_sem, q0, q1, q2, q3, y0, y1, y2, y3]) rfl ?_
    exact ⟨_, _, by rw [hE.out], ⟨_, _, _, _, _, _, _, _, rfl⟩, ⟨_, _, _, _, _, _, _, _, rfl⟩, HQ5.out.fb.bel⟩
  · have hE : Hid (twoE0 0 0 c1 c2 = 10) := by show _ = _; unfold twoE0; simp [hc]
    have hnn : (c1 != c2) = true := by rw [bne_iff_ne]; exact hc
    clear hc
    go_wp2_with fail
    refine bodyPost_ret (v := .tuple #[.agg #[.pointer p1, .int .i64 i1, .slice A1 l1 k1, .slice B1 m1 d1'], .agg #[.pointer p2, .int .i64 i2, .slice A2 l2 k2, .slice B2 m2 d2'], .int .i64 10]) (by simp [results, Try.results37, go_sem, q0, q1, q2, q3, y0, y1, y2, y3]) rfl ?_
    exact ⟨_, _, by rw [hE.out], ⟨_, _, _, _, _, _, _, _, rfl⟩, ⟨_, _, _, _, _, _, _, _, rfl⟩, HQ5.out.fb.bel⟩

set_option maxHeartbeats 8000000 in
theorem sSum_no (w : World) (P M c1 c2 : Int) (mv rv sv : Value) (Mod : List Int) (A B : List (List Int)) (hm : SI w mv Mod) (hv : SS w rv A) (hu : SS w sv B) (hE : twoE P M Mod c1 A c2 B ≠ 0) :
    Calls Try.prog 11 #[.agg #[.int .i64 P, .int .i64 M, mv], .agg #[.int .i64 c1, rv], .agg #[.int .i64 c2, sv]] w (RetNo w (twoE P M Mod c1 A c2 B)) := by
  have HPR := Lib.hid (fun (w' : World) (hb : Below w.heap.size w w') => pair_any w' P M c1 c2 mv rv sv Mod A B (hm.below hb (Nat.le_refl _)) (hv.below hb (Nat.le_refl _)) (hu.below hb (Nat.le_refl _)))
  obtain ⟨RA, rc, rfl, _⟩ := hv
  obtain ⟨SA, sc, rfl, _⟩ := hu
  clear hm
  unfold RetPE at HPR
  generalize twoE P M Mod c1 A c2 B = er at *
  have hbe : (er != 0) = true := by rw [bne_iff_ne]; exact hE
  clear hE
  generalize A.length = r at *
  generalize B.length = s at *
  obtain ⟨w1, e1, hq, hs1⟩ := FPP.mk' w P M mv c1 (.slice RA r rc) c2 (.slice SA s sc)
  have HQ := Lib.hid hq; have HE1 := Lib.hid e1
  clear hq e1
  go_enter Try.func11, Try.ntmps11
  go_upto_region 1 with fail
  rw [HE1.out]
  clear HE1
  have H3 := Lib.hid (Blk.new w1 27 [.int .i64 0, .slice none 0 0])
  have hb1 := bl_alloc w1 (.cells #[.int .i64 0, .slice none 0 0] 27)
  have hs2 := World.size_alloc w1 (.cells #[.int .i64 0, .slice none 0 0] 27)
  have HQ1 := Lib.hid (HQ.out.on hb1)
  generalize w1.alloc (.cells #[.int .i64 0, .slice none 0 0] 27) = w2 at *
  rw [hs1] at H3 hs2
  clear hb1 HQ
  have c0 := HQ1.out.fb.c0; have c1' := HQ1.out.fb.c1; have c2' := HQ1.out.fb.c2; have d0 := HQ1.out.m1.cell 0; have d1 := HQ1.out.m1.cell 1; have m0 := HQ1.out.m2.cell 0; have m1 := HQ1.out.m2.cell 1
  go_wp2_with fail
  refine (HPR.out w2 HQ1.out.fb.bel).mono ?_
  rintro e w3 ⟨v1, v2, rfl, ⟨p1, i1, A1, l1, k1, B1, m1', d1', rfl⟩, ⟨p2, i2, A2, l2, k2, B2, m2', d2', rfl⟩, hb3⟩
  have HQ3 := Lib.hid (HQ1.out.on hb3); have H33 := Lib.hid (H3.out.belowS hb3)
  have hs3 := hb3.size
  clear hb3 c0 c1' c2' d0 d1 m0 m1
  go_upto_region 2 with fail
  obtain ⟨w4, e4, _, _, hb4, hs4⟩ := boxes2 w3 61 [.pointer p1, .int .i64 i1, .slice A1 l1 k1, .slice B1 m1' d1'] [.pointer p2, .int .i64 i2, .slice A2 l2 k2, .slice B2 m2' d2']
  have HE4 := Lib.hid e4
  rw [HE4.out]
  have HQ4 := Lib.hid (HQ3.out.on hb4); have H34 := Lib.hid (H33.out.belowS hb4)
  clear e4 HE4 hb4 HQ3 H33
  obtain ⟨y0, y1, f0, f1⟩ := H34.out.two
  go_wp2_with fail
  obtain ⟨wz, hz, HL⟩ := lay2 (x := .int .i64 0) (y := .slice none 0 0) H34.out
  rw [hz]
  have q0 := HL.c0; have q1 := HL.c1
  refine bodyPost_ret (v := .tuple #[.agg #[.int .i64 0, .slice none 0 0], .int .i64 er]) (by simp [results, Try.results11, go_sem, q0, q1]) rfl ?_
  exact ⟨rfl, HL.below HQ4.out.fb.bel HQ4.out.fb.bel.size (by omega)⟩
set_option maxHeartbeats 8000000 in
theorem sMeet_no (w : World) (P M c1 c2 : Int) (mv rv sv : Value) (Mod : List Int) (A B : List (List Int)) (hm : SI w mv Mod) (hv : SS w rv A) (hu : SS w sv B) (hE : twoE P M Mod c1 A c2 B ≠ 0) :
    Calls Try.prog 14 #[.agg #[.int .i64 P, .int .i64 M, mv], .agg #[.int .i64 c1, rv], .agg #[.int .i64 c2, sv]] w (RetNo w (twoE P M Mod c1 A c2 B)) := by
  have HPR := Lib.hid (fun (w' : World) (hb : Below w.heap.size w w') => pair_any w' P M c1 c2 mv rv sv Mod A B (hm.below hb (Nat.le_refl _)) (hv.below hb (Nat.le_refl _)) (hu.below hb (Nat.le_refl _)))
  obtain ⟨RA, rc, rfl, _⟩ := hv
  obtain ⟨SA, sc, rfl, _⟩ := hu
  clear hm
  unfold RetPE at HPR
  generalize twoE P M Mod c1 A c2 B = er at *
  have hbe : (er != 0) = true := by rw [bne_iff_ne]; exact hE
  clear hE
  generalize A.length = r at *
  generalize B.length = s at *
  obtain ⟨w1, e1, hq, hs1⟩ := FPP.mk' w P M mv c1 (.slice RA r rc) c2 (.slice SA s sc)
  have HQ := Lib.hid hq; have HE1 := Lib.hid e1
  clear hq e1
  go_enter Try.func14, Try.ntmps14
  go_upto_region 1 with fail
  rw [HE1.out]
  clear HE1
  have H3 := Lib.hid (Blk.new w1 27 [.int .i64 0, .slice none 0 0])
  have hb1 := bl_alloc w1 (.cells #[.int .i64 0, .slice none 0 0] 27)
  have hs2 := World.size_alloc w1 (.cells #[.int .i64 0, .slice none 0 0] 27)
  have HQ1 := Lib.hid (HQ.out.on hb1)
  generalize w1.alloc (.cells #[.int .i64 0, .slice none 0 0] 27) = w2 at *
  rw [hs1] at H3 hs2
  clear hb1 HQ
  have c0 := HQ1.out.fb.c0; have c1' := HQ1.out.fb.c1; have c2' := HQ1.out.fb.c2; have d0 := HQ1.out.m1.cell 0; have d1 := HQ1.out.m1.cell 1; have m0 := HQ1.out.m2.cell 0; have m1 := HQ1.out.m2.cell 1
  go_wp2_with fail
  refine (HPR.out w2 HQ1.out.fb.bel).mono ?_
  rintro e w3 ⟨v1, v2, rfl, ⟨p1, i1, A1, l1, k1, B1, m1', d1', rfl⟩, ⟨p2, i2, A2, l2, k2, B2, m2', d2', rfl⟩, hb3⟩
  have HQ3 := Lib.hid (HQ1.out.on hb3); have H33 := Lib.hid (H3.out.belowS hb3)
  have hs3 := hb3.size
  clear hb3 c0 c1' c2' d0 d1 m0 m1
  go_upto_region 2 with fail
  obtain ⟨w4, e4, _, _, hb4, hs4⟩ := boxes2 w3 61 [.pointer p1, .int .i64 i1, .slice A1 l1 k1, .slice B1 m1' d1'] [.pointer p2, .int .i64 i2, .slice A2 l2 k2, .slice B2 m2' d2']
  have HE4 := Lib.hid e4
  rw [HE4.out]
  have HQ4 := Lib.hid (HQ3.out.on hb4); have H34 := Lib.hid (H33.out.belowS hb4)
  clear e4 HE4 hb4 HQ3 H33
  obtain ⟨y0, y1, f0, f1⟩ := H34.out.two
  go_wp2_with fail
  obtain ⟨wz, hz, HL⟩ := lay2 (x := .int .i64 0) (y := .slice none 0 0) H34.out
  rw [hz]
  have q0 := HL.c0; have q1 := HL.c1
  refine bodyPost_ret (v := .tuple #[.agg #[.int .i64 0, .slice none 0 0], .int .i64 er]) (by simp [results, Try.results14, go_sem, q0, q1]) rfl ?_
  exact ⟨rfl, HL.below HQ4.out.fb.bel HQ4.out.fb.bel.size (by omega)⟩
end Go.Proofs.Ytmejijekcfhonaa

/- 'append(out, s...)' for slices of slices of ints that the call itself made. -/
namespace Go.Proofs.Ytmejijekcfhonaa
open Go.RowKit
set_option linter.unusedVariables false
set_option maxRecDepth 100000

section
variable {ops : Array Oper} {rest : List Oper} {o : Oper} {a : Act} {w : World} {K : Act → World → Prop} {Q : Exit → Act → World → Prop} {E : Prop}
theorem wp_catS (s x : Operand)
    (ho : o.op = .call { callee := .builtin .append, args := #[s, x], argTypes := #[25, 25] })
    (B B' : Nat) (X : Nat → Prop) (v u : Value) (xss yss : List (List Int)) (hs : a.eval s = v) (hown : OS B X w v xss) (hx : a.eval x = u)
    (hu : OS B' (fun g => X g ∨ v.ownBlock = some g) w u yss)
    (hl : xss.length + yss.length ≤ 4398046511104) (hB : B ≤ w.heap.size)
    (h : ∀ v' w', OS B X w' v' (xss ++ yss) → w.grownBy w' v.ownBlock → (v'.ownBlock = v.ownBlock ∨ v'.ownBlock = some w.heap.size) → K (a.put o.dst v') w') : o.wp Try.prog a w K Q := by
  obtain ⟨i0, hi, hz0, hz1, hz2⟩ := info_parts Try.infoInts
  obtain ⟨us, ho', hin⟩ := hown
  obtain ⟨ws, hw', hwn⟩ := hu
  have hws : ws.length = yss.length := by have := hw'.1; omega
  have hus : us.length = xss.length := by have := ho'.1; omega
  rcases hw'.2 with ⟨rfl, h0⟩ | ⟨g, cap, cur, rfl, hg, hcur, hnc, hmx, hfz, htk⟩
  · obtain rfl : yss = [] := List.eq_nil_of_length_eq_zero h0
    have hrun : (Builtin.append_ #[25, 25] o.type #[v, .slice none 0 0]).run Try.prog w = .ok v w := by
      rcases ho'.2 with ⟨rfl, h0⟩ | ⟨g, cap, cur, rfl, _, _, hnc, _⟩
      · simp [Builtin.append_, run_underlying Try.underlying25, sizeOf, typeInfo, hi, Builtin.lenOf, Builtin.firstCells]
      · simp [Builtin.append_, run_underlying Try.underlying25, sizeOf, typeInfo, hi, Builtin.lenOf, Builtin.firstCells, hnc, storeCells]
    unfold Oper.wp execOp
    simp only [ho, resolve, invoke, builtin, Sem.run_bind, Sem.run_pure, Result.andThen_ok, List.map_toArray, List.map_cons, List.map_nil, hs, hx, hrun]
    exact h v w (by simpa using ⟨us, ho', hin⟩) (World.grownBy.refl _ _) (.inl rfl)
  · have hone : ∀ y ∈ ws, y.oneCell' = true := by
      intro y hy
      obtain ⟨i, hi', rfl⟩ := List.mem_iff_getElem.1 hy
      obtain ⟨u', hu', hs', _⟩ := hwn i (by omega)
      rw [List.getElem?_eq_getElem hi'] at hu'
      injection hu' with hu'
      obtain ⟨A, c, e, _⟩ := hs'
      rw [hu', e]; rfl
    obtain ⟨v', w', hrun, h1, h2, _, h4⟩ := run_append_own_at (P := Try.prog) w B 25 o.type 22 i0 (.slice none 0 0) 1 24 Try.underlying25 hi hz0 hz1 hz2 rfl (by decide) v xss.length us ho'
      ⟨g, 0, none⟩ yss.length cap ws (by omega) (fun j y hj => by
        have := World.ownsRow.cells hw' (g := g) rfl j y hj
        simpa [Addr.add] using this) hone (by unfold maxLen; omega) (by omega) hB
    unfold Oper.wp execOp
    simp only [ho, resolve, invoke, builtin, Sem.run_bind, Sem.run_pure, Result.andThen_ok, List.map_toArray, List.map_cons, List.map_nil, hs, hx, hrun]
    refine h v' w' ?_ h2 h4
    refine ⟨us ++ ws, by simpa [hws] using h1, fun i hil => ?_⟩
    rw [List.length_append] at hil
    by_cases e : i < xss.length
    · obtain ⟨y, hy, hsy, hxy⟩ := hin i e
      have hget : (xss ++ yss).getD i [] = xss.getD i [] := by simp [List.getD, List.getElem?_append_left e]
      rw [hget]
      refine ⟨y, by rw [List.getElem?_append_left (by omega)]; exact hy, hsy.grown h2 (fun h0 g' hg' => (hxy h0 g' hg').1), fun h0 g' hg' => ⟨?_, (hxy h0 g' hg').2⟩⟩
      rcases h4 with h4 | h4
      · rw [h4]; exact (hxy h0 g' hg').1
      · rw [h4]; intro e2; have := hsy.lt h0 hg'; injection e2 with e2; omega
    · obtain ⟨y, hy, hsy, hxy⟩ := hwn (i - xss.length) (by omega)
      have hget : (xss ++ yss).getD i [] = yss.getD (i - xss.length) [] := by simp [List.getD, List.getElem?_append_right (show xss.length ≤ i by omega)]
      rw [hget]
      refine ⟨y, by rw [List.getElem?_append_right (by omega), hus]; exact hy, hsy.grown h2 (fun h0 g' hg' e2 => (hxy h0 g' hg').2 (.inr e2)), fun h0 g' hg' => ⟨?_, fun hX => (hxy h0 g' hg').2 (.inl hX)⟩⟩
      rcases h4 with h4 | h4
      · rw [h4]; exact fun e2 => (hxy h0 g' hg').2 (.inr e2)
      · rw [h4]; intro e2; have := hsy.lt h0 hg'; injection e2 with e2; omega
theorem wpList_catS (hg : o.guard = none) (s x : Operand)
    (ho : o.op = .call { callee := .builtin .append, args := #[s, x], argTypes := #[25, 25] })
    (B B' : Nat) (X : Nat → Prop) (v u : Value) (xss yss : List (List Int)) (hs : a.eval s = v) (hown : OS B X w v xss) (hx : a.eval x = u)
    (hu : OS B' (fun g => X g ∨ v.ownBlock = some g) w u yss)
    (hl : xss.length + yss.length ≤ 4398046511104) (hB : B ≤ w.heap.size)
    (h : ∀ v' w', OS B X w' v' (xss ++ yss) → w.grownBy w' v.ownBlock → (v'.ownBlock = v.ownBlock ∨ v'.ownBlock = some w.heap.size) → wpList Try.prog ops Q rest (a.put o.dst v') w') : wpList Try.prog ops Q (o :: rest) a w :=
  wpList_plain hg fun K hK => wp_catS s x ho B B' X v u xss yss hs hown hx hu hl hB fun v' w' h1 h2 h3 => hK _ _ (h v' w' h1 h2 h3)
end

theorem catS_src {w w1 : World} {X : Nat → Prop} {v u : Value} {B : Nat} {xss yss : List (List Int)} (h : OS w.heap.size (fun g => g < w.heap.size) w1 u yss) (hv : OS B X w v xss) (hX : ∀ g, X g → g < w.heap.size) :
    OS w.heap.size (fun g => X g ∨ v.ownBlock = some g) w1 u yss :=
  h.names fun g _ hg => hg.elim (hX g) fun e => (hv.lt e).2
end Go.Proofs.Ytmejijekcfhonaa

/- ref10.two, Sum, Dual, Meet. -/
namespace Go.Proofs.Ytmejijekcfhonaa
open Go.RowKit
set_option linter.unusedVariables false
set_option maxRecDepth 100000

set_option maxHeartbeats 8000000 in
theorem rTwo_any (w : World) (P M c1 c2 : Int) (mv rv sv : Value) (Mod : List Int) (A B : List (List Int)) (hm : SI w mv Mod) (hv : SS w rv A) (hu : SS w sv B) :
    Calls Try.prog 40 #[.agg #[.int .i64 P, .int .i64 M, mv], .agg #[.int .i64 c1, rv], .agg #[.int .i64 c2, sv]] w (RetI w (twoE P M Mod c1 A c2 B)) := by
  have HO1 := Lib.hid (fun (w' : World) (hb : Below w.heap.size w w') => rSCheck_any w' P M c1 mv rv Mod A (hm.below hb (Nat.le_refl _)) (hv.below hb (Nat.le_refl _)))
  have HO2 := Lib.hid (fun (w' : World) (hb : Below w.heap.size w w') => rSCheck_any w' P M c2 mv sv Mod B (hm.below hb (Nat.le_refl _)) (hu.below hb (Nat.le_refl _)))
  obtain ⟨RA, rc, rfl, _⟩ := hv
  obtain ⟨SA, sc, rfl, _⟩ := hu
  clear hm
  unfold twoE
  generalize spaceE P M Mod c1 A = e1 at *
  generalize spaceE P M Mod c2 B = e2 at *
  generalize A.length = r at *
  generalize B.length = s at *
  obtain ⟨w1, e1', hq, hsz⟩ := FPP.mk' w P M mv c1 (.slice RA r rc) c2 (.slice SA s sc)
  have HQ := Lib.hid hq; have HE1 := Lib.hid e1'
  clear hq e1'
  go_enter Try.func40, Try.ntmps40
  go_upto_region 1 with fail
  rw [HE1.out]
  clear HE1
  have c0 := HQ.out.fb.c0; have c1' := HQ.out.fb.c1; have c2' := HQ.out.fb.c2; have d0 := HQ.out.m1.cell 0; have d1 := HQ.out.m1.cell 1
  go_wp2_with fail
  refine (HO1.out w1 HQ.out.fb.bel).mono ?_
  rintro e w2 ⟨rfl, hb2⟩
  have HQ2 := Lib.hid (HQ.out.on hb2)
  clear hb2 c0 c1' c2' d0 d1
  by_cases he1 : e1 = 0
  case neg =>
    have hE : Hid (twoE0 e1 e2 c1 c2 = e1) := by show _ = _; unfold twoE0; rw [if_pos he1]
    have hb1 : (e1 == 0) = false := by rw [beq_eq_false_iff_ne]; exact he1
    clear he1
    go_wp2_with fail
    go_ret
    exact ⟨by rw [hE.out]; rfl, HQ2.out.fb.bel⟩
  subst he1
  have c0 := HQ2.out.fb.c0; have c1' := HQ2.out.fb.c1; have c2' := HQ2.out.fb.c2; have d0 := HQ2.out.m2.cell 0; have d1 := HQ2.out.m2.cell 1
  go_wp2_with fail
  refine (HO2.out w2 HQ2.out.fb.bel).mono ?_
  rintro e w4 ⟨rfl, hb4⟩
  have HQ4 := Lib.hid (HQ2.out.on hb4)
  clear hb4 c0 c1' c2' d0 d1
  by_cases he2 : e2 = 0
  case neg =>
    have hE : Hid (twoE0 0 e2 c1 c2 = e2) := by show _ = _; unfold twoE0; rw [if_neg (by simp), if_pos he2]
    have hb1 : (e2 == 0) = false := by rw [beq_eq_false_iff_ne]; exact he2
    clear he2
    go_wp2_with fail
    go_ret
    exact ⟨by rw [hE.out]; rfl, HQ4.out.fb.bel⟩
  subst he2
  have d0 := HQ4.out.m1.cell 0; have d1 := HQ4.out.m2.cell 0
  by_cases hc : c1 = c2
  · subst hc
    have hE : Hid (twoE0 0 0 c1 c1 = 0) := by show _ = _; unfold twoE0; simp
    have hnn : (c1 != c1) = false := by simp
    go_wp2_with fail
    go_ret
    exact ⟨by rw [hE.out]; rfl, HQ4.out.fb.bel⟩
  · have hE : Hid (twoE0 0 0 c1 c2 = 10) := by show _ = _; unfold twoE0; simp [hc]
    have hnn : (c1 != c2) = true := by rw [bne_iff_ne]; exact hc
    clear hc
    go_wp2_with fail
    go_ret
    exact ⟨by rw [hE.out]; rfl, HQ4.out.fb.bel⟩

/-- append, in a drawn region -/
theorem step_catO {ops : Array Oper} {o : Oper} {a : Act} {w : World} {K : Act → World → Prop} {Q : Exit → Act → World → Prop} {E : Prop} (hg : o.guard = none) (s x : Operand)
    (ho : o.op = .call { callee := .builtin .append, args := #[s, x], argTypes := #[25, 25] })
    (B : Nat) (wA : World) (v u : Value) (xss yss : List (List Int)) (hs : a.eval s = v) (hown : OS B (fun _ => False) w v xss) (hx : a.eval x = u)
    (hu : SS wA u yss) (hbA : Below wA.heap.size wA w) (hAB : wA.heap.size ≤ B)
    (hl : xss.length + yss.length ≤ 4398046511104) (hB : B ≤ w.heap.size)
    (h : ∀ v' w', OS B (fun _ => False) w' v' (xss ++ yss) → w.grownBy w' v.ownBlock → K (a.put o.dst v') w') :
    if Region.wanted o (yielded ops a.tmps) = true then Oper.wp Try.prog o a w K Q else E := by
  rw [if_pos (by simp [Region.wanted, hg])]
  exact wp_catO s x ho B wA v u xss yss hs hown hx hu hbA hAB hl hB h
theorem step_catN {ops : Array Oper} {o : Oper} {a : Act} {w : World} {K : Act → World → Prop} {Q : Exit → Act → World → Prop} {E : Prop} (hg : o.guard = none) (s x : Operand)
    (ho : o.op = .call { callee := .builtin .append, args := #[s, x], argTypes := #[25, 25] })
    (B B' : Nat) (X : Nat → Prop) (v u : Value) (xss yss : List (List Int)) (hs : a.eval s = v) (hown : OS B X w v xss) (hx : a.eval x = u)
    (hu : OS B' (fun g => X g ∨ v.ownBlock = some g) w u yss)
    (hl : xss.length + yss.length ≤ 4398046511104) (hB : B ≤ w.heap.size)
    (h : ∀ v' w', OS B X w' v' (xss ++ yss) → w.grownBy w' v.ownBlock → (v'.ownBlock = v.ownBlock ∨ v'.ownBlock = some w.heap.size) → K (a.put o.dst v') w') :
    if Region.wanted o (yielded ops a.tmps) = true then Oper.wp Try.prog o a w K Q else E := by
  rw [if_pos (by simp [Region.wanted, hg])]
  exact wp_catS s x ho B B' X v u xss yss hs hown hx hu hl hB h
theorem FMQ.s5 {w w1 w2 : World} {P M cols : Int} {mv rv : Value} (h : FMQ w w1 P M mv cols rv) (hg : w1.grownBy w2 (some (w.heap.size + 1 + 1))) :
    w2.cell? ⟨w.heap.size, 0, none⟩ = some (.int .i64 P) ∧ w2.cell? ⟨w.heap.size, 1, none⟩ = some (.int .i64 M) ∧ w2.cell? ⟨w.heap.size, 2, none⟩ = some mv ∧ w2.cell? ⟨w.heap.size + 1, 0, none⟩ = some (.int .i64 cols) ∧ w2.cell? ⟨w.heap.size + 1, 1, none⟩ = some rv := by
  have b := h.fm.fb.blk.grown hg (by intro e; have := Option.some.inj e; omega)
  have m := h.fm.mb.grown hg (by intro e; have := Option.some.inj e; omega)
  exact ⟨b.cell 0, b.cell 1, b.cell 2, m.cell 0, m.cell 1⟩
theorem FieldP.ord {P M : Int} {Mod : List Int} (h : FieldP P M Mod) : orderF P M ≠ 0 := h.1
theorem FieldP.modp {P M : Int} {Mod : List Int} (h : FieldP P M Mod) : ModP P M Mod := h.2.2.1


set_option maxHeartbeats 8000000 in
theorem rSum_no (w : World) (P M c1 c2 : Int) (mv rv sv : Value) (Mod : List Int) (A B : List (List Int)) (hm : SI w mv Mod) (hv : SS w rv A) (hu : SS w sv B) (hE : twoE P M Mod c1 A c2 B ≠ 0) :
    Calls Try.prog 12 #[.agg #[.int .i64 P, .int .i64 M, mv], .agg #[.int .i64 c1, rv], .agg #[.int .i64 c2, sv]] w (RetNo w (twoE P M Mod c1 A c2 B)) := by
  have HPR := Lib.hid (fun (w' : World) (hb : Below w.heap.size w w') => rTwo_any w' P M c1 c2 mv rv sv Mod A B (hm.below hb (Nat.le_refl _)) (hv.below hb (Nat.le_refl _)) (hu.below hb (Nat.le_refl _)))
  obtain ⟨RA, rc, rfl, _⟩ := hv
  obtain ⟨SA, sc, rfl, _⟩ := hu
  clear hm
  generalize twoE P M Mod c1 A c2 B = er at *
  have hbe : (er != 0) = true := by rw [bne_iff_ne]; exact hE
  clear hE
  generalize A.length = r at *
  generalize B.length = s at *
  obtain ⟨w1, e1, hq, hs1⟩ := FPP.mk' w P M mv c1 (.slice RA r rc) c2 (.slice SA s sc)
  have HQ := Lib.hid hq; have HE1 := Lib.hid e1
  clear hq e1
  go_enter Try.func12, Try.ntmps12
  go_upto_region 1 with fail
  rw [HE1.out]
  clear HE1
  have H3 := Lib.hid (Blk.new w1 27 [.int .i64 0, .slice none 0 0])
  have hb1 := bl_alloc w1 (.cells #[.int .i64 0, .slice none 0 0] 27)
  have hs2 := World.size_alloc w1 (.cells #[.int .i64 0, .slice none 0 0] 27)
  have HQ1 := Lib.hid (HQ.out.on hb1)
  generalize w1.alloc (.cells #[.int .i64 0, .slice none 0 0] 27) = w2 at *
  rw [hs1] at H3 hs2
  clear hb1 HQ
  have c0 := HQ1.out.fb.c0; have c1' := HQ1.out.fb.c1; have c2' := HQ1.out.fb.c2; have d0 := HQ1.out.m1.cell 0; have d1 := HQ1.out.m1.cell 1; have m0 := HQ1.out.m2.cell 0; have m1 := HQ1.out.m2.cell 1
  go_wp2_with fail
  refine (HPR.out w2 HQ1.out.fb.bel).mono ?_
  rintro e w3 ⟨rfl, hb3⟩
  have HQ3 := Lib.hid (HQ1.out.on hb3); have H33 := Lib.hid (H3.out.belowS hb3)
  have hs3 := hb3.size
  clear hb3 c0 c1' c2' d0 d1 m0 m1
  obtain ⟨y0, y1, f0, f1⟩ := H33.out.two
  go_wp2_with fail
  obtain ⟨wz, hz, HL⟩ := lay2 (x := .int .i64 0) (y := .slice none 0 0) H33.out
  rw [hz]
  have q0 := HL.c0; have q1 := HL.c1
  refine bodyPost_ret (v := .tuple #[.agg #[.int .i64 0, .slice none 0 0], .int .i64 er]) (by simp [results, Try.results12, go_sem, q0, q1]) rfl ?_
  exact ⟨rfl, HL.below HQ3.out.fb.bel HQ3.out.fb.bel.size (by omega)⟩

set_option maxHeartbeats 8000000 in
theorem rMeet_no (w : World) (P M c1 c2 : Int) (mv rv sv : Value) (Mod : List Int) (A B : List (List Int)) (hm : SI w mv Mod) (hv : SS w rv A) (hu : SS w sv B) (hE : twoE P M Mod c1 A c2 B ≠ 0) :
    Calls Try.prog 15 #[.agg #[.int .i64 P, .int .i64 M, mv], .agg #[.int .i64 c1, rv], .agg #[.int .i64 c2, sv]] w (RetNo w (twoE P M Mod c1 A c2 B)) := by
  have HPR := Lib.hid (fun (w' : World) (hb : Below w.heap.size w w') => rTwo_any w' P M c1 c2 mv rv sv Mod A B (hm.below hb (Nat.le_refl _)) (hv.below hb (Nat.le_refl _)) (hu.below hb (Nat.le_refl _)))
  obtain ⟨RA, rc, rfl, _⟩ := hv
  obtain ⟨SA, sc, rfl, _⟩ := hu
  clear hm
  generalize twoE P M Mod c1 A c2 B = er at *
  have hbe : (er != 0) = true := by rw [bne_iff_ne]; exact hE
  clear hE
  generalize A.length = r at *
  generalize B.length = s at *
  obtain ⟨w1, e1, hq, hs1⟩ := FPP.mk' w P M mv c1 (.slice RA r rc) c2 (.slice SA s sc)
  have HQ := Lib.hid hq; have HE1 := Lib.hid e1
  clear hq e1
  go_enter Try.func15, Try.ntmps15
  go_upto_region 1 with fail
  rw [HE1.out]
  clear HE1
  have H3 := Lib.hid (Blk.new w1 27 [.int .i64 0, .slice none 0 0])
  have hb1 := bl_alloc w1 (.cells #[.int .i64 0, .slice none 0 0] 27)
  have hs2 := World.size_alloc w1 (.cells #[.int .i64 0, .slice none 0 0] 27)
  have HQ1 := Lib.hid (HQ.out.on hb1)
  generalize w1.alloc (.cells #[.int .i64 0, .slice none 0 0] 27) = w2 at *
  rw [hs1] at H3 hs2
  clear hb1 HQ
  have c0 := HQ1.out.fb.c0; have c1' := HQ1.out.fb.c1; have c2' := HQ1.out.fb.c2; have d0 := HQ1.out.m1.cell 0; have d1 := HQ1.out.m1.cell 1; have m0 := HQ1.out.m2.cell 0; have m1 := HQ1.out.m2.cell 1
  go_wp2_with fail
  refine (HPR.out w2 HQ1.out.fb.bel).mono ?_
  rintro e w3 ⟨rfl, hb3⟩
  have HQ3 := Lib.hid (HQ1.out.on hb3); have H33 := Lib.hid (H3.out.belowS hb3)
  have hs3 := hb3.size
  clear hb3 c0 c1' c2' d0 d1 m0 m1
  obtain ⟨y0, y1, f0, f1⟩ := H33.out.two
  go_wp2_with fail
  obtain ⟨wz, hz, HL⟩ := lay2 (x := .int .i64 0) (y := .slice none 0 0) H33.out
  rw [hz]
  have q0 := HL.c0; have q1 := HL.c1
  refine bodyPost_ret (v := .tuple #[.agg #[.int .i64 0, .slice none 0 0], .int .i64 er]) (by simp [results, Try.results15, go_sem, q0, q1]) rfl ?_
  exact ⟨rfl, HL.below HQ3.out.fb.bel HQ3.out.fb.bel.size (by omega)⟩

set_option maxHeartbeats 16000000 in
theorem rSum_ok (w : World) (P M : Int) (n : Nat) (mv rv sv : Value) (Mod : List Int) (A B : List (List Int)) (hm : SI w mv Mod) (hv : SS w rv A) (hu : SS w sv B) (hA : spaceE P M Mod n A = 0) (hB : spaceE P M Mod n B = 0) :
    Calls Try.prog 12 #[.agg #[.int .i64 P, .int .i64 M, mv], .agg #[.int .i64 (n : Int), rv], .agg #[.int .i64 (n : Int), sv]] w (RetMx w n (sumS (refOps P M Mod) A B n)) := by
  have hSA := SpP.of hA; have hSB := SpP.of hB
  have hO := hSA.hO; have hf := hSA.fld; have hn := hSA.n256
  have hrA := hSA.r256; have hrB := hSB.r256
  have HPR := Lib.hid (fun (w' : World) (hb : Below w.heap.size w w') => rTwo_any w' P M n n mv rv sv Mod A B (hm.below hb (Nat.le_refl _)) (hv.below hb (Nat.le_refl _)) (hu.below hb (Nat.le_refl _)))
  rw [show twoE P M Mod n A n B = 0 by unfold twoE twoE0; simp [hA, hB]] at HPR
  have HC := Lib.hid (fun (w' : World) (u : Value) (hb : Below w.heap.size w w') (hs : SS w' u (A ++ B)) => rCanon_any w' P M n n mv u Mod _ (hm.below hb (Nat.le_refl _)) hs hf.ord hf.modp (hSA.rref.rows.app hSB.rref.rows) (Nat.le_refl _) (by omega) (by rw [List.length_append]; omega))
  have HCP := Lib.hid (fun (w' : World) (hb : Below w.heap.size w w') => rCopy_any w' rv A (hv.below hb (Nat.le_refl _)) (by omega) (fun k hk => by have := (hSA.rref.rows k hk).1; omega))
  have HU := Lib.hid hu
  have HAB : Hid (A.length + B.length ≤ 512) := by show _ ≤ _; omega
  have HSE : Hid (canonL (refOps P M Mod) (A ++ B) n = sumS (refOps P M Mod) A B n) := rfl
  rw [HSE.out] at HC
  obtain ⟨RA, rc, rfl, _⟩ := hv
  obtain ⟨SA, sc, rfl, _⟩ := hu
  clear hm hA hB hSA hSB hO hf hrA hrB
  obtain ⟨r, hrr⟩ : ∃ r, r = A.length := ⟨_, rfl⟩
  obtain ⟨s, hss⟩ : ∃ s, s = B.length := ⟨_, rfl⟩
  rw [← hrr] at HPR HCP HAB ⊢
  rw [← hss] at HPR HU HAB ⊢
  have HRR := Lib.hid hrr; have HSS := Lib.hid hss
  clear hrr hss
  obtain ⟨w1, e1, hq, hs1⟩ := FPP.mk' w P M mv n (.slice RA r rc) n (.slice SA s sc)
  have HQ := Lib.hid hq; have HE1 := Lib.hid e1
  clear hq e1
  go_enter Try.func12, Try.ntmps12
  go_upto_region 1 with fail
  rw [HE1.out]
  clear HE1
  have H3 := Lib.hid (Blk.new w1 27 [.int .i64 0, .slice none 0 0])
  have hb1 := bl_alloc w1 (.cells #[.int .i64 0, .slice none 0 0] 27)
  have hs2 := World.size_alloc w1 (.cells #[.int .i64 0, .slice none 0 0] 27)
  have HQ1 := Lib.hid (HQ.out.on hb1)
  generalize w1.alloc (.cells #[.int .i64 0, .slice none 0 0] 27) = w2 at *
  rw [hs1] at H3 hs2
  clear hb1 HQ
  have c0 := HQ1.out.fb.c0; have c1' := HQ1.out.fb.c1; have c2' := HQ1.out.fb.c2; have d0 := HQ1.out.m1.cell 0; have d1 := HQ1.out.m1.cell 1; have m0 := HQ1.out.m2.cell 0; have m1 := HQ1.out.m2.cell 1
  go_wp2_with fail
  refine (HPR.out w2 HQ1.out.fb.bel).mono ?_
  rintro e w3 ⟨rfl, hb3⟩
  have HQ3 := Lib.hid (HQ1.out.on hb3); have H33 := Lib.hid (H3.out.belowS hb3)
  have hs3 := hb3.size
  clear hb3 c0 c1' c2' d0 d1 m0 m1
  obtain ⟨c0, c1', c2', d0, d1, m0, m1⟩ := show (fun w' => w'.cell? ⟨w.heap.size, 0, none⟩ = some (.int .i64 P) ∧ w'.cell? ⟨w.heap.size, 1, none⟩ = some (.int .i64 M) ∧ w'.cell? ⟨w.heap.size, 2, none⟩ = some mv ∧ w'.cell? ⟨w.heap.size + 1, 0, none⟩ = some (.int .i64 (n : Int)) ∧ w'.cell? ⟨w.heap.size + 1, 1, none⟩ = some (.slice RA r rc) ∧ w'.cell? ⟨w.heap.size + 1 + 1, 0, none⟩ = some (.int .i64 (n : Int)) ∧ w'.cell? ⟨w.heap.size + 1 + 1, 1, none⟩ = some (.slice SA s sc)) w3 from ⟨HQ3.out.fb.c0, HQ3.out.fb.c1, HQ3.out.fb.c2, HQ3.out.m1.cell 0, HQ3.out.m1.cell 1, HQ3.out.m2.cell 0, HQ3.out.m2.cell 1⟩
  go_upto_region 4 with fail
  refine Kept.start (S := fun w' => w'.cell? ⟨w.heap.size, 0, none⟩ = some (.int .i64 P) ∧ w'.cell? ⟨w.heap.size, 1, none⟩ = some (.int .i64 M) ∧ w'.cell? ⟨w.heap.size, 2, none⟩ = some mv ∧ w'.cell? ⟨w.heap.size + 1, 0, none⟩ = some (.int .i64 (n : Int)) ∧ w'.cell? ⟨w.heap.size + 1, 1, none⟩ = some (.slice RA r rc) ∧ w'.cell? ⟨w.heap.size + 1 + 1, 0, none⟩ = some (.int .i64 (n : Int)) ∧ w'.cell? ⟨w.heap.size + 1 + 1, 1, none⟩ = some (.slice SA s sc)) (by kernel_rfl) (⟨c0, c1', c2', d0, d1, m0, m1⟩) (fun hHeld => ?_)
  change Kept _ _ _ _ 15 _ _ _
  refine Kept.take (i := 0) (v := ?_) rfl (by kernel_rfl) (by kernel_rfl) (by kernel_rfl) (fun _ _ _ h => h) (Or.inl ⟨by kernel_rfl, ?_⟩) hHeld ?_
  rotate_left
  · intro w' hSw; (try dsimp only at hSw); first | (go_simp; done) | (go_simp; with_reducible rfl)
  try simp only [List.getElem_toArray, List.getElem_cons_zero, List.getElem_cons_succ, Act.put, List.setIfInBounds_toArray, List.set_cons_zero, List.set_cons_succ]
  refine Kept.take (i := 1) (v := ?_) rfl (by kernel_rfl) (by kernel_rfl) (by kernel_rfl) (fun _ _ _ h => h) (Or.inl ⟨by kernel_rfl, ?_⟩) hHeld ?_
  rotate_left
  · intro w' hSw; (try dsimp only at hSw); first | (go_simp; done) | (go_simp; with_reducible rfl)
  try simp only [List.getElem_toArray, List.getElem_cons_zero, List.getElem_cons_succ, Act.put, List.setIfInBounds_toArray, List.set_cons_zero, List.set_cons_succ]
  refine Kept.take (i := 2) (v := ?_) rfl (by kernel_rfl) (by kernel_rfl) (by kernel_rfl) (fun _ _ _ h => h) (Or.inl ⟨by kernel_rfl, ?_⟩) hHeld ?_
  rotate_left
  · intro w' hSw; (try dsimp only at hSw); first | (go_simp; done) | (go_simp; with_reducible rfl)
  try simp only [List.getElem_toArray, List.getElem_cons_zero, List.getElem_cons_succ, Act.put, List.setIfInBounds_toArray, List.set_cons_zero, List.set_cons_succ]
  refine Kept.take (i := 4) (v := ?_) rfl (by kernel_rfl) (by kernel_rfl) (by kernel_rfl) (fun _ _ _ h => h) (Or.inl ⟨by kernel_rfl, ?_⟩) hHeld ?_
  rotate_left
  · intro w' hSw; (try dsimp only at hSw); first | (go_simp; done) | (go_simp; with_reducible rfl)
  try simp only [List.getElem_toArray, List.getElem_cons_zero, List.getElem_cons_succ, Act.put, List.setIfInBounds_toArray, List.set_cons_zero, List.set_cons_succ]
  refine Kept.take (i := 5) (v := ?_) rfl (by kernel_rfl) (by kernel_rfl) (by kernel_rfl) (fun _ _ _ h => h) (Or.inl ⟨by kernel_rfl, ?_⟩) hHeld ?_
  rotate_left
  · intro w' hSw; (try dsimp only at hSw); first | (go_simp; done) | (go_simp; with_reducible rfl)
  try simp only [List.getElem_toArray, List.getElem_cons_zero, List.getElem_cons_succ, Act.put, List.setIfInBounds_toArray, List.set_cons_zero, List.set_cons_succ]
  refine Kept.take (i := 7) (v := ?_) rfl (by kernel_rfl) (by kernel_rfl) (by kernel_rfl) (fun _ _ _ h => h) (Or.inl ⟨by kernel_rfl, ?_⟩) hHeld ?_
  rotate_left
  · intro w' hSw; (try dsimp only at hSw); first | (go_simp; done) | (go_simp; with_reducible rfl)
  try simp only [List.getElem_toArray, List.getElem_cons_zero, List.getElem_cons_succ, Act.put, List.setIfInBounds_toArray, List.set_cons_zero, List.set_cons_succ]
  refine Kept.take (i := 8) (v := ?_) rfl (by kernel_rfl) (by kernel_rfl) (by kernel_rfl) (fun _ _ _ h => h) (Or.inl ⟨by kernel_rfl, ?_⟩) hHeld ?_
  rotate_left
  · intro w' hSw; (try dsimp only at hSw); first | (go_simp; done) | (go_simp; with_reducible rfl)
  try simp only [List.getElem_toArray, List.getElem_cons_zero, List.getElem_cons_succ, Act.put, List.setIfInBounds_toArray, List.set_cons_zero, List.set_cons_succ]
  refine Kept.only (i := 3) (by kernel_rfl) rfl (fun K hK => ?_)
  go_simp
  refine (HCP.out _ (bl_trans HQ3.out.fb.bel (bl_drew w3))).mono ?_; rintro e w5 ⟨u5, rfl, ho5, hb5⟩; have HB5 := Lib.hid (bl_trans (bl_drew w3) hb5); have HO5 : Hid (OS w3.heap.size (fun _ => False) w5 u5 A) := hid' (ho5.names (fun _ _ h => h.elim)); have HQ5 := Lib.hid (HQ3.out.on HB5.out); clear ho5 hb5
  refine hK.out _ _ (⟨HQ5.out.fb.c0, HQ5.out.fb.c1, HQ5.out.fb.c2, HQ5.out.m1.cell 0, HQ5.out.m1.cell 1, HQ5.out.m2.cell 0, HQ5.out.m2.cell 1⟩) (fun hHeld2 => ?_)
  clear hK K
  replace hHeld := hHeld2
  clear hHeld2
  try simp only [List.getElem_toArray, List.getElem_cons_zero, List.getElem_cons_succ, Act.put, List.setIfInBounds_toArray, List.set_cons_zero, List.set_cons_succ]
  refine Kept.only (i := 6) (o := ?op1) (by kernel_rfl) ?ho1 (fun K hK => ?_)
  case ho1 => (conv => lhs; simp only [List.getElem?_toArray, List.getElem?_cons_succ, List.getElem?_cons_zero])
  refine step_catO rfl _ _ rfl w3.heap.size w u5 (.slice SA s sc) A B rfl HO5.out rfl HU.out HQ5.out.fb.bel HQ3.out.fb.bel.size (by rw [← HRR.out, ← HSS.out]; have := HAB.out; omega) HB5.out.size ?_; intro v6 w6 ho6 hg6; have HB6 := Lib.hid (HO5.out.bgrown HB5.out HB5.out.size hg6); have HS6 := Lib.hid (ho6.ss (by rw [List.length_append, ← HRR.out, ← HSS.out]; have := HAB.out; omega)); have HQ6 := Lib.hid (HQ3.out.on HB6.out); clear ho6 hg6
  refine hK.out _ _ (⟨HQ6.out.fb.c0, HQ6.out.fb.c1, HQ6.out.fb.c2, HQ6.out.m1.cell 0, HQ6.out.m1.cell 1, HQ6.out.m2.cell 0, HQ6.out.m2.cell 1⟩) (fun hHeld2 => ?_)
  clear hK K
  replace hHeld := hHeld2
  clear hHeld2
  try simp only [List.getElem_toArray, List.getElem_cons_zero, List.getElem_cons_succ, Act.put, List.setIfInBounds_toArray, List.set_cons_zero, List.set_cons_succ]
  refine Kept.only (i := 9) (by kernel_rfl) rfl (fun K hK => ?_)
  go_simp
  refine (HC.out _ _ HQ6.out.fb.bel HS6.out).mono ?_; rintro e w7 ⟨u7, u7b, rfl, hx7, _, _, hb7⟩; obtain ⟨A7, k7, rfl, _⟩ := hx7.out; have HX7 := Lib.hid hx7; have HQ7 := Lib.hid (HQ6.out.on hb7); have HB7 := Lib.hid (bl_trans HB6.out hb7); clear hx7 hb7
  refine hK.out _ _ (⟨HQ7.out.fb.c0, HQ7.out.fb.c1, HQ7.out.fb.c2, HQ7.out.m1.cell 0, HQ7.out.m1.cell 1, HQ7.out.m2.cell 0, HQ7.out.m2.cell 1⟩) (fun hHeld2 => ?_)
  clear hK K
  replace hHeld := hHeld2
  clear hHeld2
  try simp only [List.getElem_toArray, List.getElem_cons_zero, List.getElem_cons_succ, Act.put, List.setIfInBounds_toArray, List.set_cons_zero, List.set_cons_succ]
  refine Kept.take (i := 10) (v := ?_) rfl (by kernel_rfl) (by kernel_rfl) (by kernel_rfl) (fun _ _ _ h => h) (Or.inl ⟨by kernel_rfl, ?_⟩) hHeld ?_
  rotate_left
  · intro w' hSw; (try dsimp only at hSw); first | (go_simp; done) | (go_simp; with_reducible rfl)
  try simp only [List.getElem_toArray, List.getElem_cons_zero, List.getElem_cons_succ, Act.put, List.setIfInBounds_toArray, List.set_cons_zero, List.set_cons_succ]
  refine Kept.take (i := 11) (v := ?_) rfl (by kernel_rfl) (by kernel_rfl) (by kernel_rfl) (fun _ _ _ h => h) (Or.inl ⟨by kernel_rfl, ?_⟩) hHeld ?_
  rotate_left
  · intro w' hSw; (try dsimp only at hSw); first | (go_simp; done) | (go_simp; with_reducible rfl)
  try simp only [List.getElem_toArray, List.getElem_cons_zero, List.getElem_cons_succ, Act.put, List.setIfInBounds_toArray, List.set_cons_zero, List.set_cons_succ]
  refine Kept.take (i := 12) (v := ?_) rfl (by kernel_rfl) (by kernel_rfl) (by kernel_rfl) (fun _ _ _ h => h) (Or.inl ⟨by kernel_rfl, ?_⟩) hHeld ?_
  rotate_left
  · intro w' hSw; (try dsimp only at hSw); first | (go_simp; done) | (go_simp; with_reducible rfl)
  try simp only [List.getElem_toArray, List.getElem_cons_zero, List.getElem_cons_succ, Act.put, List.setIfInBounds_toArray, List.set_cons_zero, List.set_cons_succ]
  refine Kept.take (i := 13) (v := ?_) rfl (by kernel_rfl) (by kernel_rfl) (by kernel_rfl) (fun _ _ _ h => h) (Or.inl ⟨by kernel_rfl, ?_⟩) hHeld ?_
  rotate_left
  · intro w' hSw; (try dsimp only at hSw); first | (go_simp; done) | (go_simp; with_reducible rfl)
  try simp only [List.getElem_toArray, List.getElem_cons_zero, List.getElem_cons_succ, Act.put, List.setIfInBounds_toArray, List.set_cons_zero, List.set_cons_succ]
  refine Kept.only (i := 14) (by kernel_rfl) rfl (fun K hK => ?_)
  go_simp
  refine hK.out _ _ hHeld (fun hHeld2 => ?_)
  clear hK K
  clear hHeld2
  refine Kept.done (by kernel_rfl) ?_
  try simp only [List.getElem_toArray, List.getElem_cons_zero, List.getElem_cons_succ, Act.put, List.setIfInBounds_toArray, List.set_cons_zero, List.set_cons_succ]
  clear hHeld
  have H37 := Lib.hid (H33.out.belowS HB7.out)
  have hs6 := HQ6.out.fb.bel.size
  clear c0 c1' c2' d0 d1 m0 m1
  have d0 := HQ7.out.m1.cell 0
  obtain ⟨k, hk⟩ : ∃ k, k = (sumS (refOps P M Mod) A B n).length := ⟨_, rfl⟩
  rw [← hk] at HX7 ⊢
  clear hk
  obtain ⟨y0, y1, f0, f1⟩ := H37.out.two
  go_wp2_with fail
  obtain ⟨wz, hz, HL⟩ := lay2 (x := .int .i64 (n : Int)) (y := .slice A7 k k7) H37.out
  rw [hz]
  have q0 := HL.c0; have q1 := HL.c1
  refine bodyPost_ret (v := .tuple #[.agg #[.int .i64 (n : Int), .slice A7 k k7], .int .i64 0]) (by simp [results, Try.results12, go_sem, q0, q1]) rfl ?_
  have hb6 := HB6.out.size
  exact ⟨_, rfl, (HX7.out.grown HL.gr (by rintro b e; cases e; omega)).mono hs6, HL.below HQ7.out.fb.bel HQ7.out.fb.bel.size (by omega)⟩

set_option maxHeartbeats 16000000 in
theorem rMeet_ok (w : World) (P M : Int) (n : Nat) (mv rv sv : Value) (Mod : List Int) (A B : List (List Int)) (hm : SI w mv Mod) (hv : SS w rv A) (hu : SS w sv B) (hA : spaceE P M Mod n A = 0) (hB : spaceE P M Mod n B = 0) :
    Calls Try.prog 15 #[.agg #[.int .i64 P, .int .i64 M, mv], .agg #[.int .i64 (n : Int), rv], .agg #[.int .i64 (n : Int), sv]] w (RetMx w n (meetS (refOps P M Mod) A B n)) := by
  have hSA := SpP.of hA; have hSB := SpP.of hB
  have hO := hSA.hO; have hf := hSA.fld; have hn := hSA.n256
  have hrA := hSA.r256; have hrB := hSB.r256
  have HPR := Lib.hid (fun (w' : World) (hb : Below w.heap.size w w') => rTwo_any w' P M n n mv rv sv Mod A B (hm.below hb (Nat.le_refl _)) (hv.below hb (Nat.le_refl _)) (hu.below hb (Nat.le_refl _)))
  rw [show twoE P M Mod n A n B = 0 by unfold twoE twoE0; simp [hA, hB]] at HPR
  have hNA := Cn.null hO hSA.rref.rows; have hNB := Cn.null hO hSB.rref.rows
  have hlA := hNA.le; have hlB := hNB.le
  have HN1 := Lib.hid (fun (w' : World) (hb : Below w.heap.size w w') => rNull_any w' P M n mv rv Mod A (hm.below hb (Nat.le_refl _)) (hv.below hb (Nat.le_refl _)) hO hf.ord hf.modp hSA.rref.rows (by omega) (by omega))
  have HN2 := Lib.hid (fun (w' : World) (hb : Below w.heap.size w w') => rNull_any w' P M n mv sv Mod B (hm.below hb (Nat.le_refl _)) (hu.below hb (Nat.le_refl _)) hO hf.ord hf.modp hSB.rref.rows (by omega) (by omega))
  have HN3 := Lib.hid (fun (w' : World) (u : Value) (hb : Below w.heap.size w w') (hs : SS w' u (nullL (refOps P M Mod) A n ++ nullL (refOps P M Mod) B n)) => rNull_any w' P M n mv u Mod _ (hm.below hb (Nat.le_refl _)) hs hO hf.ord hf.modp (hNA.rows.app hNB.rows) (by omega) (by rw [List.length_append]; omega))
  have HSE : Hid (nullL (refOps P M Mod) (nullL (refOps P M Mod) A n ++ nullL (refOps P M Mod) B n) n = meetS (refOps P M Mod) A B n) := rfl
  rw [HSE.out] at HN3
  have HAB : Hid ((nullL (refOps P M Mod) A n).length + (nullL (refOps P M Mod) B n).length ≤ 512) := by show _ ≤ _; omega
  obtain ⟨RA, rc, rfl, _⟩ := hv
  obtain ⟨SA, sc, rfl, _⟩ := hu
  clear hm hA hB hSA hSB hO hf hrA hrB hNA hNB hlA hlB HSE
  generalize A.length = r at *
  generalize B.length = s at *
  generalize nullL (refOps P M Mod) A n = NA at *
  generalize nullL (refOps P M Mod) B n = NB at *
  generalize meetS (refOps P M Mod) A B n = MM at *
  obtain ⟨w1, e1, hq, hs1⟩ := FPP.mk' w P M mv n (.slice RA r rc) n (.slice SA s sc)
  have HQ := Lib.hid hq; have HE1 := Lib.hid e1
  clear hq e1
  go_enter Try.func15, Try.ntmps15
  go_upto_region 1 with fail
  rw [HE1.out]
  clear HE1
  have H3 := Lib.hid (Blk.new w1 27 [.int .i64 0, .slice none 0 0])
  have hb1 := bl_alloc w1 (.cells #[.int .i64 0, .slice none 0 0] 27)
  have hs2 := World.size_alloc w1 (.cells #[.int .i64 0, .slice none 0 0] 27)
  have HQ1 := Lib.hid (HQ.out.on hb1)
  generalize w1.alloc (.cells #[.int .i64 0, .slice none 0 0] 27) = w2 at *
  rw [hs1] at H3 hs2
  clear hb1 HQ
  have c0 := HQ1.out.fb.c0; have c1' := HQ1.out.fb.c1; have c2' := HQ1.out.fb.c2; have d0 := HQ1.out.m1.cell 0; have d1 := HQ1.out.m1.cell 1; have m0 := HQ1.out.m2.cell 0; have m1 := HQ1.out.m2.cell 1
  go_wp2_with fail
  refine (HPR.out w2 HQ1.out.fb.bel).mono ?_
  rintro e w3 ⟨rfl, hb3⟩
  have HQ3 := Lib.hid (HQ1.out.on hb3); have H33 := Lib.hid (H3.out.belowS hb3)
  have hs3 := hb3.size
  clear hb3 c0 c1' c2' d0 d1 m0 m1
  obtain ⟨c0, c1', c2', d0, d1, m0, m1⟩ := show (fun w' => w'.cell? ⟨w.heap.size, 0, none⟩ = some (.int .i64 P) ∧ w'.cell? ⟨w.heap.size, 1, none⟩ = some (.int .i64 M) ∧ w'.cell? ⟨w.heap.size, 2, none⟩ = some mv ∧ w'.cell? ⟨w.heap.size + 1, 0, none⟩ = some (.int .i64 (n : Int)) ∧ w'.cell? ⟨w.heap.size + 1, 1, none⟩ = some (.slice RA r rc) ∧ w'.cell? ⟨w.heap.size + 1 + 1, 0, none⟩ = some (.int .i64 (n : Int)) ∧ w'.cell? ⟨w.heap.size + 1 + 1, 1, none⟩ = some (.slice SA s sc)) w3 from ⟨HQ3.out.fb.c0, HQ3.out.fb.c1, HQ3.out.fb.c2, HQ3.out.m1.cell 0, HQ3.out.m1.cell 1, HQ3.out.m2.cell 0, HQ3.out.m2.cell 1⟩
  go_upto_region 4 with fail
  refine Kept.start (S := fun w' => w'.cell? ⟨w.heap.size, 0, none⟩ = some (.int .i64 P) ∧ w'.cell? ⟨w.heap.size, 1, none⟩ = some (.int .i64 M) ∧ w'.cell? ⟨w.heap.size, 2, none⟩ = some mv ∧ w'.cell? ⟨w.heap.size + 1, 0, none⟩ = some (.int .i64 (n : Int)) ∧ w'.cell? ⟨w.heap.size + 1, 1, none⟩ = some (.slice RA r rc) ∧ w'.cell? ⟨w.heap.size + 1 + 1, 0, none⟩ = some (.int .i64 (n : Int)) ∧ w'.cell? ⟨w.heap.size + 1 + 1, 1, none⟩ = some (.slice SA s sc)) (by kernel_rfl) (⟨c0, c1', c2', d0, d1, m0, m1⟩) (fun hHeld => ?_)
  change Kept _ _ _ _ 14 _ _ _
  refine Kept.take (i := 0) (v := ?_) rfl (by kernel_rfl) (by kernel_rfl) (by kernel_rfl) (fun _ _ _ h => h) (Or.inl ⟨by kernel_rfl, ?_⟩) hHeld ?_
  rotate_left
  · intro w' hSw; (try dsimp only at hSw); first | (go_simp; done) | (go_simp; with_reducible rfl)
  try simp only [List.getElem_toArray, List.getElem_cons_zero, List.getElem_cons_succ, Act.put, List.setIfInBounds_toArray, List.set_cons_zero, List.set_cons_succ]
  refine Kept.take (i := 1) (v := ?_) rfl (by kernel_rfl) (by kernel_rfl) (by kernel_rfl) (fun _ _ _ h => h) (Or.inl ⟨by kernel_rfl, ?_⟩) hHeld ?_
  rotate_left
  · intro w' hSw; (try dsimp only at hSw); first | (go_simp; done) | (go_simp; with_reducible rfl)
  try simp only [List.getElem_toArray, List.getElem_cons_zero, List.getElem_cons_succ, Act.put, List.setIfInBounds_toArray, List.set_cons_zero, List.set_cons_succ]
  refine Kept.take (i := 2) (v := ?_) rfl (by kernel_rfl) (by kernel_rfl) (by kernel_rfl) (fun _ _ _ h => h) (Or.inl ⟨by kernel_rfl, ?_⟩) hHeld ?_
  rotate_left
  · intro w' hSw; (try dsimp only at hSw); first | (go_simp; done) | (go_simp; with_reducible rfl)
  try simp only [List.getElem_toArray, List.getElem_cons_zero, List.getElem_cons_succ, Act.put, List.setIfInBounds_toArray, List.set_cons_zero, List.set_cons_succ]
  refine Kept.take (i := 3) (v := ?_) rfl (by kernel_rfl) (by kernel_rfl) (by kernel_rfl) (fun _ _ _ h => h) (Or.inl ⟨by kernel_rfl, ?_⟩) hHeld ?_
  rotate_left
  · intro w' hSw; (try dsimp only at hSw); first | (go_simp; done) | (go_simp; with_reducible rfl)
  try simp only [List.getElem_toArray, List.getElem_cons_zero, List.getElem_cons_succ, Act.put, List.setIfInBounds_toArray, List.set_cons_zero, List.set_cons_succ]
  refine Kept.take (i := 4) (v := ?_) rfl (by kernel_rfl) (by kernel_rfl) (by kernel_rfl) (fun _ _ _ h => h) (Or.inl ⟨by kernel_rfl, ?_⟩) hHeld ?_
  rotate_left
  · intro w' hSw; (try dsimp only at hSw); first | (go_simp; done) | (go_simp; with_reducible rfl)
  try simp only [List.getElem_toArray, List.getElem_cons_zero, List.getElem_cons_succ, Act.put, List.setIfInBounds_toArray, List.set_cons_zero, List.set_cons_succ]
  refine Kept.take (i := 6) (v := ?_) rfl (by kernel_rfl) (by kernel_rfl) (by kernel_rfl) (fun _ _ _ h => h) (Or.inl ⟨by kernel_rfl, ?_⟩) hHeld ?_
  rotate_left
  · intro w' hSw; (try dsimp only at hSw); first | (go_simp; done) | (go_simp; with_reducible rfl)
  try simp only [List.getElem_toArray, List.getElem_cons_zero, List.getElem_cons_succ, Act.put, List.setIfInBounds_toArray, List.set_cons_zero, List.set_cons_succ]
  refine Kept.take (i := 7) (v := ?_) rfl (by kernel_rfl) (by kernel_rfl) (by kernel_rfl) (fun _ _ _ h => h) (Or.inl ⟨by kernel_rfl, ?_⟩) hHeld ?_
  rotate_left
  · intro w' hSw; (try dsimp only at hSw); first | (go_simp; done) | (go_simp; with_reducible rfl)
  try simp only [List.getElem_toArray, List.getElem_cons_zero, List.getElem_cons_succ, Act.put, List.setIfInBounds_toArray, List.set_cons_zero, List.set_cons_succ]
  refine Kept.take (i := 8) (v := ?_) rfl (by kernel_rfl) (by kernel_rfl) (by kernel_rfl) (fun _ _ _ h => h) (Or.inl ⟨by kernel_rfl, ?_⟩) hHeld ?_
  rotate_left
  · intro w' hSw; (try dsimp only at hSw); first | (go_simp; done) | (go_simp; with_reducible rfl)
  try simp only [List.getElem_toArray, List.getElem_cons_zero, List.getElem_cons_succ, Act.put, List.setIfInBounds_toArray, List.set_cons_zero, List.set_cons_succ]
  refine Kept.take (i := 9) (v := ?_) rfl (by kernel_rfl) (by kernel_rfl) (by kernel_rfl) (fun _ _ _ h => h) (Or.inl ⟨by kernel_rfl, ?_⟩) hHeld ?_
  rotate_left
  · intro w' hSw; (try dsimp only at hSw); first | (go_simp; done) | (go_simp; with_reducible rfl)
  try simp only [List.getElem_toArray, List.getElem_cons_zero, List.getElem_cons_succ, Act.put, List.setIfInBounds_toArray, List.set_cons_zero, List.set_cons_succ]
  refine Kept.take (i := 10) (v := ?_) rfl (by kernel_rfl) (by kernel_rfl) (by kernel_rfl) (fun _ _ _ h => h) (Or.inl ⟨by kernel_rfl, ?_⟩) hHeld ?_
  rotate_left
  · intro w' hSw; (try dsimp only at hSw); first | (go_simp; done) | (go_simp; with_reducible rfl)
  try simp only [List.getElem_toArray, List.getElem_cons_zero, List.getElem_cons_succ, Act.put, List.setIfInBounds_toArray, List.set_cons_zero, List.set_cons_succ]
  refine Kept.only (i := 5) (by kernel_rfl) rfl (fun K hK => ?_)
  go_simp
  refine (HN1.out _ (bl_trans HQ3.out.fb.bel (bl_drew w3))).mono ?_; rintro e w5 ⟨u5, rfl, _, ho5, hb5⟩; have HB5 := Lib.hid (bl_trans (bl_drew w3) hb5); have HO5 : Hid (OS w3.heap.size (fun g => g < w3.heap.size) w5 u5 NA) := hid' ho5; have HQ5 := Lib.hid (HQ3.out.on HB5.out); clear ho5 hb5
  refine hK.out _ _ (⟨HQ5.out.fb.c0, HQ5.out.fb.c1, HQ5.out.fb.c2, HQ5.out.m1.cell 0, HQ5.out.m1.cell 1, HQ5.out.m2.cell 0, HQ5.out.m2.cell 1⟩) (fun hHeld2 => ?_)
  clear hK K
  replace hHeld := hHeld2
  clear hHeld2
  try simp only [List.getElem_toArray, List.getElem_cons_zero, List.getElem_cons_succ, Act.put, List.setIfInBounds_toArray, List.set_cons_zero, List.set_cons_succ]
  refine Kept.only (i := 11) (by kernel_rfl) rfl (fun K hK => ?_)
  go_simp
  refine (HN2.out _ HQ5.out.fb.bel).mono ?_; rintro e w6 ⟨u6, rfl, _, ho6, hb6⟩; have HU6 := Lib.hid (catS_src ho6 HO5.out (fun g hg => Nat.lt_of_lt_of_le hg HB5.out.size)); have HO6 := Lib.hid (HO5.out.below hb6); have HB6 := Lib.hid (bl_trans HB5.out hb6); have HQ6 := Lib.hid (HQ3.out.on HB6.out); clear ho6 hb6
  refine hK.out _ _ (⟨HQ6.out.fb.c0, HQ6.out.fb.c1, HQ6.out.fb.c2, HQ6.out.m1.cell 0, HQ6.out.m1.cell 1, HQ6.out.m2.cell 0, HQ6.out.m2.cell 1⟩) (fun hHeld2 => ?_)
  clear hK K
  replace hHeld := hHeld2
  clear hHeld2
  try simp only [List.getElem_toArray, List.getElem_cons_zero, List.getElem_cons_succ, Act.put, List.setIfInBounds_toArray, List.set_cons_zero, List.set_cons_succ]
  refine Kept.only (i := 12) (o := ?op2) (by kernel_rfl) ?ho2 (fun K hK => ?_)
  case ho2 => (conv => lhs; simp only [List.getElem?_toArray, List.getElem?_cons_succ, List.getElem?_cons_zero])
  refine step_catN rfl _ _ rfl w3.heap.size w5.heap.size (fun g => g < w3.heap.size) u5 u6 NA NB rfl HO6.out rfl HU6.out (by have := HAB.out; omega) HB6.out.size ?_; intro v7 w7 ho7 hg7 _; have HB7 := Lib.hid (HO6.out.bgrown HB6.out HB6.out.size hg7); have HS7 := Lib.hid (ho7.ss (by rw [List.length_append]; have := HAB.out; omega)); have HQ7 := Lib.hid (HQ3.out.on HB7.out); clear ho7 hg7
  refine hK.out _ _ (⟨HQ7.out.fb.c0, HQ7.out.fb.c1, HQ7.out.fb.c2, HQ7.out.m1.cell 0, HQ7.out.m1.cell 1, HQ7.out.m2.cell 0, HQ7.out.m2.cell 1⟩) (fun hHeld2 => ?_)
  clear hK K
  replace hHeld := hHeld2
  clear hHeld2
  try simp only [List.getElem_toArray, List.getElem_cons_zero, List.getElem_cons_succ, Act.put, List.setIfInBounds_toArray, List.set_cons_zero, List.set_cons_succ]
  refine Kept.only (i := 13) (by kernel_rfl) rfl (fun K hK => ?_)
  go_simp
  refine hK.out _ _ hHeld (fun hHeld2 => ?_)
  clear hK K
  clear hHeld2
  refine Kept.done (by kernel_rfl) ?_
  try simp only [List.getElem_toArray, List.getElem_cons_zero, List.getElem_cons_succ, Act.put, List.setIfInBounds_toArray, List.set_cons_zero, List.set_cons_succ]
  clear hHeld
  have H37 := Lib.hid (H33.out.belowS HB7.out)
  clear c0 c1' c2' d0 d1 m0 m1
  obtain ⟨c0, c1', c2', d0, d1, m0, m1⟩ := show (fun w' => w'.cell? ⟨w.heap.size, 0, none⟩ = some (.int .i64 P) ∧ w'.cell? ⟨w.heap.size, 1, none⟩ = some (.int .i64 M) ∧ w'.cell? ⟨w.heap.size, 2, none⟩ = some mv ∧ w'.cell? ⟨w.heap.size + 1, 0, none⟩ = some (.int .i64 (n : Int)) ∧ w'.cell? ⟨w.heap.size + 1, 1, none⟩ = some (.slice RA r rc) ∧ w'.cell? ⟨w.heap.size + 1 + 1, 0, none⟩ = some (.int .i64 (n : Int)) ∧ w'.cell? ⟨w.heap.size + 1 + 1, 1, none⟩ = some (.slice SA s sc)) w7 from ⟨HQ7.out.fb.c0, HQ7.out.fb.c1, HQ7.out.fb.c2, HQ7.out.m1.cell 0, HQ7.out.m1.cell 1, HQ7.out.m2.cell 0, HQ7.out.m2.cell 1⟩
  have hs7 := HB7.out.size
  go_upto_region 5 with fail
  refine Kept.start (S := fun w' => w'.cell? ⟨w.heap.size, 0, none⟩ = some (.int .i64 P) ∧ w'.cell? ⟨w.heap.size, 1, none⟩ = some (.int .i64 M) ∧ w'.cell? ⟨w.heap.size, 2, none⟩ = some mv ∧ w'.cell? ⟨w.heap.size + 1, 0, none⟩ = some (.int .i64 (n : Int)) ∧ w'.cell? ⟨w.heap.size + 1, 1, none⟩ = some (.slice RA r rc) ∧ w'.cell? ⟨w.heap.size + 1 + 1, 0, none⟩ = some (.int .i64 (n : Int)) ∧ w'.cell? ⟨w.heap.size + 1 + 1, 1, none⟩ = some (.slice SA s sc)) (by kernel_rfl) (⟨c0, c1', c2', d0, d1, m0, m1⟩) (fun hHeld => ?_)
  change Kept _ _ _ _ 10 _ _ _
  refine Kept.take (i := 0) (v := ?_) rfl (by kernel_rfl) (by kernel_rfl) (by kernel_rfl) (fun _ _ _ h => h) (Or.inl ⟨by kernel_rfl, ?_⟩) hHeld ?_
  rotate_left
  · intro w' hSw; (try dsimp only at hSw); first | (go_simp; done) | (go_simp; with_reducible rfl)
  try simp only [List.getElem_toArray, List.getElem_cons_zero, List.getElem_cons_succ, Act.put, List.setIfInBounds_toArray, List.set_cons_zero, List.set_cons_succ]
  refine Kept.take (i := 1) (v := ?_) rfl (by kernel_rfl) (by kernel_rfl) (by kernel_rfl) (fun _ _ _ h => h) (Or.inl ⟨by kernel_rfl, ?_⟩) hHeld ?_
  rotate_left
  · intro w' hSw; (try dsimp only at hSw); first | (go_simp; done) | (go_simp; with_reducible rfl)
  try simp only [List.getElem_toArray, List.getElem_cons_zero, List.getElem_cons_succ, Act.put, List.setIfInBounds_toArray, List.set_cons_zero, List.set_cons_succ]
  refine Kept.take (i := 2) (v := ?_) rfl (by kernel_rfl) (by kernel_rfl) (by kernel_rfl) (fun _ _ _ h => h) (Or.inl ⟨by kernel_rfl, ?_⟩) hHeld ?_
  rotate_left
  · intro w' hSw; (try dsimp only at hSw); first | (go_simp; done) | (go_simp; with_reducible rfl)
  try simp only [List.getElem_toArray, List.getElem_cons_zero, List.getElem_cons_succ, Act.put, List.setIfInBounds_toArray, List.set_cons_zero, List.set_cons_succ]
  refine Kept.take (i := 3) (v := ?_) rfl (by kernel_rfl) (by kernel_rfl) (by kernel_rfl) (fun _ _ _ h => h) (Or.inl ⟨by kernel_rfl, ?_⟩) hHeld ?_
  rotate_left
  · intro w' hSw; (try dsimp only at hSw); first | (go_simp; done) | (go_simp; with_reducible rfl)
  try simp only [List.getElem_toArray, List.getElem_cons_zero, List.getElem_cons_succ, Act.put, List.setIfInBounds_toArray, List.set_cons_zero, List.set_cons_succ]
  refine Kept.take (i := 4) (v := ?_) rfl (by kernel_rfl) (by kernel_rfl) (by kernel_rfl) (fun _ _ _ h => h) (Or.inl ⟨by kernel_rfl, ?_⟩) hHeld ?_
  rotate_left
  · intro w' hSw; (try dsimp only at hSw); first | (go_simp; done) | (go_simp; with_reducible rfl)
  try simp only [List.getElem_toArray, List.getElem_cons_zero, List.getElem_cons_succ, Act.put, List.setIfInBounds_toArray, List.set_cons_zero, List.set_cons_succ]
  refine Kept.take (i := 5) (v := ?_) rfl (by kernel_rfl) (by kernel_rfl) (by kernel_rfl) (fun _ _ _ h => h) (Or.inl ⟨by kernel_rfl, ?_⟩) hHeld ?_
  rotate_left
  · intro w' hSw; (try dsimp only at hSw); first | (go_simp; done) | (go_simp; with_reducible rfl)
  try simp only [List.getElem_toArray, List.getElem_cons_zero, List.getElem_cons_succ, Act.put, List.setIfInBounds_toArray, List.set_cons_zero, List.set_cons_succ]
  refine Kept.only (i := 6) (by kernel_rfl) rfl (fun K hK => ?_)
  go_simp
  refine (HN3.out _ v7 (bl_trans HQ7.out.fb.bel (bl_drew w7)) (HS7.out.below (bl_drew w7) (Nat.le_refl _))).mono ?_; rintro e w8 ⟨u8, rfl, hx8, _, hb8⟩; obtain ⟨A8, k8, rfl, _⟩ := hx8.out; have HX8 : Hid (Sep w7.heap.size w8 fun w2 => SS w2 (.slice A8 MM.length k8) MM) := hid' hx8; have HB8 := Lib.hid (bl_trans (bl_drew w7) hb8); have HQ8 := Lib.hid (HQ7.out.on HB8.out); have H38 := Lib.hid (H37.out.belowS HB8.out); clear hx8 hb8; generalize MM.length = lm at *
  refine hK.out _ _ (⟨HQ8.out.fb.c0, HQ8.out.fb.c1, HQ8.out.fb.c2, HQ8.out.m1.cell 0, HQ8.out.m1.cell 1, HQ8.out.m2.cell 0, HQ8.out.m2.cell 1⟩) (fun hHeld2 => ?_)
  clear hK K
  replace hHeld := hHeld2
  clear hHeld2
  try simp only [List.getElem_toArray, List.getElem_cons_zero, List.getElem_cons_succ, Act.put, List.setIfInBounds_toArray, List.set_cons_zero, List.set_cons_succ]
  refine Kept.take (i := 7) (v := ?_) rfl (by kernel_rfl) (by kernel_rfl) (by kernel_rfl) (fun _ _ _ h => h) (Or.inl ⟨by kernel_rfl, ?_⟩) hHeld ?_
  rotate_left
  · intro w' hSw; (try dsimp only at hSw); first | (go_simp; done) | (go_simp; with_reducible rfl)
  try simp only [List.getElem_toArray, List.getElem_cons_zero, List.getElem_cons_succ, Act.put, List.setIfInBounds_toArray, List.set_cons_zero, List.set_cons_succ]
  refine Kept.only (i := 8) (o := ?op3) (by kernel_rfl) ?ho3 (fun K hK => ?_)
  case ho3 => (conv => lhs; simp only [List.getElem?_toArray, List.getElem?_cons_succ, List.getElem?_cons_zero])
  obtain ⟨y0, y1, f0, f1⟩ := H38.out.two; go_simp; obtain ⟨w9, hz, HL⟩ := lay2 (x := .int .i64 (n : Int)) (y := .slice A8 lm k8) H38.out; rw [hz]; have HQ9 := Lib.hid (HQ8.out.gr HL.gr (by omega)); have q0 := HL.c0; have q1 := HL.c1; have HX9 := Lib.hid (HX8.out.grown HL.gr (by rintro b e; cases e; omega)); have hs8 := HB8.out.size; have HBZ := Lib.hid (HL.below HQ8.out.fb.bel HQ8.out.fb.bel.size (by omega)); clear hz y0 y1 f0 f1 HL
  refine hK.out _ _ (⟨HQ9.out.fb.c0, HQ9.out.fb.c1, HQ9.out.fb.c2, HQ9.out.m1.cell 0, HQ9.out.m1.cell 1, HQ9.out.m2.cell 0, HQ9.out.m2.cell 1⟩) (fun hHeld2 => ?_)
  clear hK K
  replace hHeld := hHeld2
  clear hHeld2
  try simp only [List.getElem_toArray, List.getElem_cons_zero, List.getElem_cons_succ, Act.put, List.setIfInBounds_toArray, List.set_cons_zero, List.set_cons_succ]
  refine Kept.only (i := 9) (by kernel_rfl) rfl (fun K hK => ?_)
  go_simp
  refine hK.out _ _ hHeld (fun hHeld2 => ?_)
  clear hK K
  clear hHeld2
  refine Kept.done (by kernel_rfl) ?_
  try simp only [List.getElem_toArray, List.getElem_cons_zero, List.getElem_cons_succ, Act.put, List.setIfInBounds_toArray, List.set_cons_zero, List.set_cons_succ]
  clear hHeld
  clear c0 c1' c2' d0 d1 m0 m1
  go_wp2_with fail
  refine bodyPost_ret (v := .tuple #[.agg #[.int .i64 (n : Int), .slice A8 lm k8], .int .i64 0]) (by simp [results, Try.results15, go_sem, q0, q1]) rfl ?_
  exact ⟨_, rfl, HX9.out.mono HQ7.out.fb.bel.size, HBZ.out⟩

set_option maxHeartbeats 8000000 in
theorem rDual_no (w : World) (P M cols : Int) (mv rv : Value) (Mod : List Int) (A : List (List Int)) (hm : SI w mv Mod) (hv : SS w rv A) (hA : spaceE P M Mod cols A ≠ 0) :
    Calls Try.prog 17 #[.agg #[.int .i64 P, .int .i64 M, mv], .agg #[.int .i64 cols, rv]] w (RetNo w (spaceE P M Mod cols A)) := by
  have HO := Lib.hid (fun (w' : World) (hb : Below w.heap.size w w') => rSCheck_any w' P M cols mv _ Mod A (hm.below hb (Nat.le_refl _)) (hv.below hb (Nat.le_refl _)))
  obtain ⟨RA, rc, rfl, _⟩ := hv
  generalize spaceE P M Mod cols A = er at *
  have hbe : (er != 0) = true := by rw [bne_iff_ne]; exact hA
  clear hm hA
  generalize A.length = r at *
  obtain ⟨w1, e1, hq, hsz⟩ := FMQ.mk' w P M mv cols (.slice RA r rc)
  have HQ := Lib.hid hq; have HE1 := Lib.hid e1; clear hq e1
  go_enter Try.func17, Try.ntmps17
  go_upto_region 1 with fail
  rw [HE1.out]
  clear HE1
  have c0 := HQ.out.fm.fb.c0; have c1 := HQ.out.fm.fb.c1; have c2 := HQ.out.fm.fb.c2; have d0 := HQ.out.fm.d0; have d1 := HQ.out.fm.d1
  go_wp2_with fail
  refine (HO.out w1 HQ.out.fm.fb.bel).mono ?_
  rintro e w2 ⟨rfl, hb2⟩
  have HQ2 := Lib.hid (HQ.out.on hb2)
  clear hb2 c0 c1 c2 d0 d1
  obtain ⟨y0, y1, f0, f1⟩ := HQ2.out.q.two
  go_wp2_with fail
  obtain ⟨wz, hz, HL⟩ := lay2 (x := .int .i64 0) (y := .slice none 0 0) HQ2.out.q
  rw [hz]
  have q0 := HL.c0; have q1 := HL.c1
  refine bodyPost_ret (v := .tuple #[.agg #[.int .i64 0, .slice none 0 0], .int .i64 er]) (by simp [results, Try.results17, go_sem, q0, q1]) rfl ?_
  exact ⟨rfl, HL.below HQ2.out.fm.fb.bel HQ2.out.fm.fb.bel.size (by omega)⟩

set_option maxHeartbeats 8000000 in
theorem rDual_ok (w : World) (P M : Int) (n : Nat) (mv rv : Value) (Mod : List Int) (A : List (List Int)) (hm : SI w mv Mod) (hv : SS w rv A) (hA : spaceE P M Mod n A = 0) :
    Calls Try.prog 17 #[.agg #[.int .i64 P, .int .i64 M, mv], .agg #[.int .i64 (n : Int), rv]] w (RetMx w n (nullL (refOps P M Mod) A n)) := by
  have HO := Lib.hid (fun (w' : World) (hb : Below w.heap.size w w') => rSCheck_any w' P M n mv _ Mod A (hm.below hb (Nat.le_refl _)) (hv.below hb (Nat.le_refl _)))
  have hS := SpP.of hA
  have hO := hS.hO; have hf := hS.fld; have hn := hS.n256; have hr := hS.r256
  have HN := Lib.hid (fun (w' : World) (hb : Below w.heap.size w w') => rNull_any w' P M n mv rv Mod A (hm.below hb (Nat.le_refl _)) (hv.below hb (Nat.le_refl _)) hO hf.ord hf.modp hS.rref.rows (by omega) (by omega))
  rw [hA] at HO
  obtain ⟨RA, rc, rfl, _⟩ := hv
  clear hm hA hS hO hf hr
  generalize nullL (refOps P M Mod) A n = MM at *
  generalize A.length = r at *
  obtain ⟨w1, e1, hq, hsz⟩ := FMQ.mk' w P M mv n (.slice RA r rc)
  have HQ := Lib.hid hq; have HE1 := Lib.hid e1; clear hq e1
  go_enter Try.func17, Try.ntmps17
  go_upto_region 1 with fail
  rw [HE1.out]
  clear HE1
  have c0 := HQ.out.fm.fb.c0; have c1 := HQ.out.fm.fb.c1; have c2 := HQ.out.fm.fb.c2; have d0 := HQ.out.fm.d0; have d1 := HQ.out.fm.d1
  go_wp2_with fail
  refine (HO.out w1 HQ.out.fm.fb.bel).mono ?_
  rintro e w2 ⟨rfl, hb2⟩
  have HQ2 := Lib.hid (HQ.out.on hb2)
  clear hb2 c0 c1 c2 d0 d1
  have hs2 := HQ2.out.fm.fb.bel.size
  obtain ⟨c0, c1, c2, d0, d1⟩ := show (fun w' => w'.cell? ⟨w.heap.size, 0, none⟩ = some (.int .i64 P) ∧ w'.cell? ⟨w.heap.size, 1, none⟩ = some (.int .i64 M) ∧ w'.cell? ⟨w.heap.size, 2, none⟩ = some mv ∧ w'.cell? ⟨w.heap.size + 1, 0, none⟩ = some (.int .i64 (n : Int)) ∧ w'.cell? ⟨w.heap.size + 1, 1, none⟩ = some (.slice RA r rc)) w2 from ⟨HQ2.out.fm.fb.c0, HQ2.out.fm.fb.c1, HQ2.out.fm.fb.c2, HQ2.out.fm.d0, HQ2.out.fm.d1⟩
  go_upto_region 4 with fail
  refine Kept.start (S := fun w' => w'.cell? ⟨w.heap.size, 0, none⟩ = some (.int .i64 P) ∧ w'.cell? ⟨w.heap.size, 1, none⟩ = some (.int .i64 M) ∧ w'.cell? ⟨w.heap.size, 2, none⟩ = some mv ∧ w'.cell? ⟨w.heap.size + 1, 0, none⟩ = some (.int .i64 (n : Int)) ∧ w'.cell? ⟨w.heap.size + 1, 1, none⟩ = some (.slice RA r rc)) (by kernel_rfl) (⟨c0, c1, c2, d0, d1⟩) (fun hHeld => ?_)
  change Kept _ _ _ _ 11 _ _ _
  refine Kept.take (i := 0) (v := ?_) rfl (by kernel_rfl) (by kernel_rfl) (by kernel_rfl) (fun _ _ _ h => h) (Or.inl ⟨by kernel_rfl, ?_⟩) hHeld ?_
  rotate_left
  · intro w' hSw; (try dsimp only at hSw); first | (go_simp; done) | (go_simp; with_reducible rfl)
  try simp only [List.getElem_toArray, List.getElem_cons_zero, List.getElem_cons_succ, Act.put, List.setIfInBounds_toArray, List.set_cons_zero, List.set_cons_succ]
  refine Kept.take (i := 1) (v := ?_) rfl (by kernel_rfl) (by kernel_rfl) (by kernel_rfl) (fun _ _ _ h => h) (Or.inl ⟨by kernel_rfl, ?_⟩) hHeld ?_
  rotate_left
  · intro w' hSw; (try dsimp only at hSw); first | (go_simp; done) | (go_simp; with_reducible rfl)
  try simp only [List.getElem_toArray, List.getElem_cons_zero, List.getElem_cons_succ, Act.put, List.setIfInBounds_toArray, List.set_cons_zero, List.set_cons_succ]
  refine Kept.take (i := 2) (v := ?_) rfl (by kernel_rfl) (by kernel_rfl) (by kernel_rfl) (fun _ _ _ h => h) (Or.inl ⟨by kernel_rfl, ?_⟩) hHeld ?_
  rotate_left
  · intro w' hSw; (try dsimp only at hSw); first | (go_simp; done) | (go_simp; with_reducible rfl)
  try simp only [List.getElem_toArray, List.getElem_cons_zero, List.getElem_cons_succ, Act.put, List.setIfInBounds_toArray, List.set_cons_zero, List.set_cons_succ]
  refine Kept.take (i := 3) (v := ?_) rfl (by kernel_rfl) (by kernel_rfl) (by kernel_rfl) (fun _ _ _ h => h) (Or.inl ⟨by kernel_rfl, ?_⟩) hHeld ?_
  rotate_left
  · intro w' hSw; (try dsimp only at hSw); first | (go_simp; done) | (go_simp; with_reducible rfl)
  try simp only [List.getElem_toArray, List.getElem_cons_zero, List.getElem_cons_succ, Act.put, List.setIfInBounds_toArray, List.set_cons_zero, List.set_cons_succ]
  refine Kept.take (i := 4) (v := ?_) rfl (by kernel_rfl) (by kernel_rfl) (by kernel_rfl) (fun _ _ _ h => h) (Or.inl ⟨by kernel_rfl, ?_⟩) hHeld ?_
  rotate_left
  · intro w' hSw; (try dsimp only at hSw); first | (go_simp; done) | (go_simp; with_reducible rfl)
  try simp only [List.getElem_toArray, List.getElem_cons_zero, List.getElem_cons_succ, Act.put, List.setIfInBounds_toArray, List.set_cons_zero, List.set_cons_succ]
  refine Kept.take (i := 5) (v := ?_) rfl (by kernel_rfl) (by kernel_rfl) (by kernel_rfl) (fun _ _ _ h => h) (Or.inl ⟨by kernel_rfl, ?_⟩) hHeld ?_
  rotate_left
  · intro w' hSw; (try dsimp only at hSw); first | (go_simp; done) | (go_simp; with_reducible rfl)
  try simp only [List.getElem_toArray, List.getElem_cons_zero, List.getElem_cons_succ, Act.put, List.setIfInBounds_toArray, List.set_cons_zero, List.set_cons_succ]
  refine Kept.take (i := 6) (v := ?_) rfl (by kernel_rfl) (by kernel_rfl) (by kernel_rfl) (fun _ _ _ h => h) (Or.inl ⟨by kernel_rfl, ?_⟩) hHeld ?_
  rotate_left
  · intro w' hSw; (try dsimp only at hSw); first | (go_simp; done) | (go_simp; with_reducible rfl)
  try simp only [List.getElem_toArray, List.getElem_cons_zero, List.getElem_cons_succ, Act.put, List.setIfInBounds_toArray, List.set_cons_zero, List.set_cons_succ]
  refine Kept.only (i := 7) (by kernel_rfl) rfl (fun K hK => ?_)
  go_simp
  refine (HN.out _ (bl_trans HQ2.out.fm.fb.bel (bl_drew w2))).mono ?_; rintro e w8 ⟨u8, rfl, hx8, _, hb8⟩; obtain ⟨A8, k8, rfl, _⟩ := hx8.out; have HX8 : Hid (Sep w2.heap.size w8 fun w3 => SS w3 (.slice A8 MM.length k8) MM) := hid' hx8; have HB8 := Lib.hid (bl_trans (bl_drew w2) hb8); have HQ8 := Lib.hid (HQ2.out.on HB8.out); clear hx8 hb8; generalize MM.length = lm at *
  refine hK.out _ _ (⟨HQ8.out.fm.fb.c0, HQ8.out.fm.fb.c1, HQ8.out.fm.fb.c2, HQ8.out.fm.d0, HQ8.out.fm.d1⟩) (fun hHeld2 => ?_)
  clear hK K
  replace hHeld := hHeld2
  clear hHeld2
  try simp only [List.getElem_toArray, List.getElem_cons_zero, List.getElem_cons_succ, Act.put, List.setIfInBounds_toArray, List.set_cons_zero, List.set_cons_succ]
  refine Kept.take (i := 8) (v := ?_) rfl (by kernel_rfl) (by kernel_rfl) (by kernel_rfl) (fun _ _ _ h => h) (Or.inl ⟨by kernel_rfl, ?_⟩) hHeld ?_
  rotate_left
  · intro w' hSw; (try dsimp only at hSw); first | (go_simp; done) | (go_simp; with_reducible rfl)
  try simp only [List.getElem_toArray, List.getElem_cons_zero, List.getElem_cons_succ, Act.put, List.setIfInBounds_toArray, List.set_cons_zero, List.set_cons_succ]
  refine Kept.only (i := 9) (o := ?op4) (by kernel_rfl) ?ho4 (fun K hK => ?_)
  case ho4 => (conv => lhs; simp only [List.getElem?_toArray, List.getElem?_cons_succ, List.getElem?_cons_zero])
  obtain ⟨y0, y1, f0, f1⟩ := HQ8.out.q.two; go_simp; obtain ⟨w9, hz, HL⟩ := lay2 (x := .int .i64 (n : Int)) (y := .slice A8 lm k8) HQ8.out.q; rw [hz]; have HQ9 := Lib.hid (HQ8.out.s5 HL.gr); have q0 := HL.c0; have q1 := HL.c1; have hql := HQ2.out.q.lt; have HX9 := Lib.hid (HX8.out.grown HL.gr (by rintro b e; cases e; omega)); have hs8 := HB8.out.size; have HBZ := Lib.hid (HL.below HQ8.out.fm.fb.bel HQ8.out.fm.fb.bel.size (by omega)); clear hz y0 y1 f0 f1 HL
  refine hK.out _ _ (HQ9.out) (fun hHeld2 => ?_)
  clear hK K
  replace hHeld := hHeld2
  clear hHeld2
  try simp only [List.getElem_toArray, List.getElem_cons_zero, List.getElem_cons_succ, Act.put, List.setIfInBounds_toArray, List.set_cons_zero, List.set_cons_succ]
  refine Kept.only (i := 10) (by kernel_rfl) rfl (fun K hK => ?_)
  go_simp
  refine hK.out _ _ hHeld (fun hHeld2 => ?_)
  clear hK K
  clear hHeld2
  refine Kept.done (by kernel_rfl) ?_
  try simp only [List.getElem_toArray, List.getElem_cons_zero, List.getElem_cons_succ, Act.put, List.setIfInBounds_toArray, List.set_cons_zero, List.set_cons_succ]
  clear hHeld
  clear c0 c1 c2 d0 d1
  go_wp2_with fail
  refine bodyPost_ret (v := .tuple #[.agg #[.int .i64 (n : Int), .slice A8 lm k8], .int .i64 0]) (by simp [results, Try.results17, go_sem, q0, q1]) rfl ?_
  exact ⟨_, rfl, HX9.out.mono HQ2.out.fm.fb.bel.size, HBZ.out⟩
end Go.Proofs.Ytmejijekcfhonaa

/- Sum, Meet, Dual: the program's answer and the document's are the same, whatever is given. -/
namespace Go.Proofs.Ytmejijekcfhonaa
open Go.RowKit
set_option linter.unusedVariables false
set_option maxRecDepth 100000

/-- a matrix and an error -/
def RetMA (w : World) (c : Int) (S : List (List Int)) (er : Int) (e : Ending) (w' : World) : Prop :=
  ∃ u, e = .returned (.tuple #[.agg #[.int .i64 c, u], .int .i64 er]) ∧ Sep w.heap.size w' (fun w2 => SS w2 u S) ∧ Below w.heap.size w w'
theorem RetNo.ma {w : World} {er : Int} {e : Ending} {w' : World} (h : RetNo w er e w') : RetMA w 0 [] er e w' := ⟨_, h.1, SS.nilSep _ _, h.2⟩
theorem RetMx.ma {w : World} {n : Nat} {S : List (List Int)} {e : Ending} {w' : World} (h : RetMx w n S e w') : RetMA w n S 0 e w' := h
theorem sums_both (w : World) (P M c1 c2 : Int) (mv rv sv : Value) (Mod : List Int) (A B : List (List Int)) (hm : SI w mv Mod) (hv : SS w rv A) (hu : SS w sv B) (hc : c1 ≤ 128) :
    ∃ c S er, Hid (∀ w', Below w.heap.size w w' → Calls Try.prog 11 #[.agg #[.int .i64 P, .int .i64 M, mv], .agg #[.int .i64 c1, rv], .agg #[.int .i64 c2, sv]] w' (RetMA w' c S er)) ∧
      Hid (∀ w', Below w.heap.size w w' → Calls Try.prog 12 #[.agg #[.int .i64 P, .int .i64 M, mv], .agg #[.int .i64 c1, rv], .agg #[.int .i64 c2, sv]] w' (RetMA w' c S er)) := by
  by_cases he : twoE P M Mod c1 A c2 B = 0
  · obtain ⟨hA, hB, rfl⟩ := twoE_zero he
    obtain ⟨_, hc0, _⟩ := matE_zero (spaceE_zero hA).1
    obtain ⟨n, rfl⟩ : ∃ n : Nat, c1 = (n : Int) := ⟨c1.toNat, by omega⟩
    exact ⟨n, sumS (refOps P M Mod) A B n, 0, hid' fun w' hb => (sSum_ok w' P M n mv rv sv Mod A B (hm.below hb (Nat.le_refl _)) (hv.below hb (Nat.le_refl _)) (hu.below hb (Nat.le_refl _)) hA hB (by omega)).mono fun _ _ => RetMx.ma,
      hid' fun w' hb => (rSum_ok w' P M n mv rv sv Mod A B (hm.below hb (Nat.le_refl _)) (hv.below hb (Nat.le_refl _)) (hu.below hb (Nat.le_refl _)) hA hB).mono fun _ _ => RetMx.ma⟩
  · exact ⟨0, [], twoE P M Mod c1 A c2 B, hid' fun w' hb => (sSum_no w' P M c1 c2 mv rv sv Mod A B (hm.below hb (Nat.le_refl _)) (hv.below hb (Nat.le_refl _)) (hu.below hb (Nat.le_refl _)) he).mono fun _ _ => RetNo.ma,
      hid' fun w' hb => (rSum_no w' P M c1 c2 mv rv sv Mod A B (hm.below hb (Nat.le_refl _)) (hv.below hb (Nat.le_refl _)) (hu.below hb (Nat.le_refl _)) he).mono fun _ _ => RetNo.ma⟩
theorem meets_both (w : World) (P M c1 c2 : Int) (mv rv sv : Value) (Mod : List Int) (A B : List (List Int)) (hm : SI w mv Mod) (hv : SS w rv A) (hu : SS w sv B) (hc : c1 ≤ 128) :
    ∃ c S er, Hid (∀ w', Below w.heap.size w w' → Calls Try.prog 14 #[.agg #[.int .i64 P, .int .i64 M, mv], .agg #[.int .i64 c1, rv], .agg #[.int .i64 c2, sv]] w' (RetMA w' c S er)) ∧
      Hid (∀ w', Below w.heap.size w w' → Calls Try.prog 15 #[.agg #[.int .i64 P, .int .i64 M, mv], .agg #[.int .i64 c1, rv], .agg #[.int .i64 c2, sv]] w' (RetMA w' c S er)) := by
  by_cases he : twoE P M Mod c1 A c2 B = 0
  · obtain ⟨hA, hB, rfl⟩ := twoE_zero he
    obtain ⟨_, hc0, _⟩ := matE_zero (spaceE_zero hA).1
    obtain ⟨n, rfl⟩ : ∃ n : Nat, c1 = (n : Int) := ⟨c1.toNat, by omega⟩
    exact ⟨n, meetS (refOps P M Mod) A B n, 0, hid' fun w' hb => (sMeet_ok w' P M n mv rv sv Mod A B (hm.below hb (Nat.le_refl _)) (hv.below hb (Nat.le_refl _)) (hu.below hb (Nat.le_refl _)) hA hB (by omega)).mono fun _ _ => RetMx.ma,
      hid' fun w' hb => (rMeet_ok w' P M n mv rv sv Mod A B (hm.below hb (Nat.le_refl _)) (hv.below hb (Nat.le_refl _)) (hu.below hb (Nat.le_refl _)) hA hB).mono fun _ _ => RetMx.ma⟩
  · exact ⟨0, [], twoE P M Mod c1 A c2 B, hid' fun w' hb => (sMeet_no w' P M c1 c2 mv rv sv Mod A B (hm.below hb (Nat.le_refl _)) (hv.below hb (Nat.le_refl _)) (hu.below hb (Nat.le_refl _)) he).mono fun _ _ => RetNo.ma,
      hid' fun w' hb => (rMeet_no w' P M c1 c2 mv rv sv Mod A B (hm.below hb (Nat.le_refl _)) (hv.below hb (Nat.le_refl _)) (hu.below hb (Nat.le_refl _)) he).mono fun _ _ => RetNo.ma⟩
theorem duals_both (w : World) (P M c1 : Int) (mv rv : Value) (Mod : List Int) (A : List (List Int)) (hm : SI w mv Mod) (hv : SS w rv A) :
    ∃ c S er, Hid (∀ w', Below w.heap.size w w' → Calls Try.prog 16 #[.agg #[.int .i64 P, .int .i64 M, mv], .agg #[.int .i64 c1, rv]] w' (RetMA w' c S er)) ∧
      Hid (∀ w', Below w.heap.size w w' → Calls Try.prog 17 #[.agg #[.int .i64 P, .int .i64 M, mv], .agg #[.int .i64 c1, rv]] w' (RetMA w' c S er)) := by
  by_cases hA : spaceE P M Mod c1 A = 0
  · obtain ⟨_, hc0, _⟩ := matE_zero (spaceE_zero hA).1
    obtain ⟨n, rfl⟩ : ∃ n : Nat, c1 = (n : Int) := ⟨c1.toNat, by omega⟩
    exact ⟨n, nullL (refOps P M Mod) A n, 0, hid' fun w' hb => (sDual_ok w' P M n mv rv Mod A (hm.below hb (Nat.le_refl _)) (hv.below hb (Nat.le_refl _)) hA).mono fun _ _ => RetMx.ma,
      hid' fun w' hb => (rDual_ok w' P M n mv rv Mod A (hm.below hb (Nat.le_refl _)) (hv.below hb (Nat.le_refl _)) hA).mono fun _ _ => RetMx.ma⟩
  · exact ⟨0, [], spaceE P M Mod c1 A, hid' fun w' hb => (sDual_no w' P M c1 mv rv Mod A (hm.below hb (Nat.le_refl _)) (hv.below hb (Nat.le_refl _)) hA).mono fun _ _ => RetNo.ma,
      hid' fun w' hb => (rDual_no w' P M c1 mv rv Mod A (hm.below hb (Nat.le_refl _)) (hv.below hb (Nat.le_refl _)) hA).mono fun _ _ => RetNo.ma⟩
end Go.Proofs.Ytmejijekcfhonaa
