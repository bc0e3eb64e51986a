/- Texts of a claim, merged: words, plain facts and walks that the last of its texts uses. -/
import Derived.Test.YtlcgihjdafglmaaQ4
import Derived.Test.YtlcgihjdafglmaaQ10
import Derived.Test.YtlcgihjdafglmaaQ13
set_option linter.unusedSimpArgs false
set_option linter.unusedVariables false

/- Plain: a word of a residue code, turned, is a word of it. -/
namespace Go.Proofs.Ytlcgihjdafglmaa
open Go.RowKit
set_option linter.unusedVariables false
set_option maxRecDepth 100000

theorem res_rows (n : Nat) : Rows 2 n (shL (resW n)) := by
  have h := shL_rows (q := 2) (by decide) (ws := resW n) (resW_bit n)
  rwa [resW_len] at h
theorem sym_span {n s b : Nat} (hn : n = 7 ∨ n = 17 ∨ n = 23 ∨ n = 31 ∨ n = 41 ∨ n = 47) (h1 : 1 ≤ s) (h2 : s < n) (hb : b < n) {w : List Int} (hx : Span (refOps 2 1 []) (shL (resW n)) (fun j => w.getD j 0)) :
    Span (refOps 2 1 []) (shL (resW n)) (fun j => (zT n (s * s % n) b w n).getD j 0) := by
  obtain ⟨q1, q2, q3⟩ := sym_all hn h1 h2
  generalize s * s % n = a at *
  have hn0 : 0 < n := by omega
  obtain ⟨c, hc⟩ := hx
  have hL : (shL (resW n)).length = n := by rw [shL_len, resW_len]
  have hgd : ∀ k, k < n → (shL (resW n)).getD k [] = shR (resW n) k := fun k hk => by simp [shL, List.getD, resW_len, hk]
  have hent : ∀ k j, k < n → j < n → ent (shL (resW n)) k j = (resW n).getD ((j + (n - k)) % n) 0 := fun k j hk hj => by
    unfold ent
    rw [hgd k hk, shR_at (by rw [resW_len]; exact hk) (by rw [resW_len]; exact hj), resW_len]
  have hR := res_rows n
  have hrow : ∀ k, k < n → Span (refOps 2 1 []) (shL (resW n)) (ent (shL (resW n)) k) := fun k hk => Span.row two_fld (by rw [hL]; exact hk) (fun j => (hR k (by rw [hL]; exact hk)).2 j)
  refine (Span.sum two_fld (n := n) (x := fun k j => (refOps 2 1 []).mul (c k) (ent (shL (resW n)) ((a * k + b) % n) j)) (fun k hk => Span.smul two_fld (c k) (hrow _ (Nat.mod_lt _ hn0)))).congr fun j => ?_
  by_cases hj : j < n
  · obtain ⟨i, hi, rfl⟩ := turn_sur hn hb q3 hj
    rw [zT_at hn0 w (turn_inj hn q2) n (Nat.le_refl _) i hi]
    have h := hc i
    dsimp only at h
    rw [hL] at h
    rw [h]
    refine sumTo_congr fun k hk => ?_
    rw [hent k i hk hi, hent ((a * k + b) % n) _ (Nat.mod_lt _ hn0) (Nat.mod_lt _ hn0), turn_ent hn hb hk hi, q1 _ (Nat.mod_lt _ hn0)]
  · rw [getD_len (by rw [zT_len]; omega)]
    refine (sumTo_zero two_fld fun k hk => ?_).symm
    have e : ent (shL (resW n)) ((a * k + b) % n) j = 0 := by
      unfold ent
      rw [getD_len (by rw [(hR _ (by rw [hL]; exact Nat.mod_lt _ hn0)).1]; omega)]
    rw [e, two_fld.mul_zero]
/-- the word that the law makes is in the code -/
theorem sym_has {n s b : Nat} (hn : n = 7 ∨ n = 17 ∨ n = 23 ∨ n = 31 ∨ n = 41 ∨ n = 47) (h1 : 1 ≤ s) (h2 : s < n) (hb : b < n) {msg : List Int}
    (he : encE 2 1 [] (n : Int) (canonL (refOps 2 1 []) (shL (resW n)) n) msg = 0) :
    inL (refOps 2 1 []) (canonL (refOps 2 1 []) (shL (resW n)) n) (zT n (s * s % n) b (encL 2 1 [] (n : Int) (canonL (refOps 2 1 []) (shL (resW n)) n) msg) n) = true := by
  have hR := res_rows n
  have hc := canon_rref two_fld hR
  have hel : encL 2 1 [] (n : Int) (canonL (refOps 2 1 []) (shL (resW n)) n) msg = combL (refOps 2 1 []) msg (canonL (refOps 2 1 []) (shL (resW n)) n) n := by
    unfold encL; rw [if_pos he, Int.toNat_natCast]
  have hml : msg.length = (canonL (refOps 2 1 []) (shL (resW n)) n).length := by
    unfold encE at he
    split at he
    · have := (listF_zero he).1; omega
    · rename_i h; exact absurd he h
  rw [hel]
  have hsp := combL_span two_fld hc.1.rows hml
  have hsp' := (hc.2.span two_fld _).1 hsp
  have hz := sym_span hn h1 h2 hb hsp'
  have hz' := (hc.2.span two_fld _).2 hz
  exact (inL_span two_fld hc.1 (fun j => hz'.lt two_fld j) (zT_len _ _ _ _ _)).2 hz'
theorem enc_facts {n : Nat} {msg : List Int} (he : encE 2 1 [] (n : Int) (canonL (refOps 2 1 []) (shL (resW n)) n) msg = 0) :
    (encL 2 1 [] (n : Int) (canonL (refOps 2 1 []) (shL (resW n)) n) msg).length = n ∧ ∀ j, 0 ≤ (encL 2 1 [] (n : Int) (canonL (refOps 2 1 []) (shL (resW n)) n) msg).getD j 0 ∧ (encL 2 1 [] (n : Int) (canonL (refOps 2 1 []) (shL (resW n)) n) msg).getD j 0 < 2 := by
  have hc := canon_rref two_fld (res_rows n)
  have hel : encL 2 1 [] (n : Int) (canonL (refOps 2 1 []) (shL (resW n)) n) msg = combL (refOps 2 1 []) msg (canonL (refOps 2 1 []) (shL (resW n)) n) n := by
    unfold encL; rw [if_pos he, Int.toNat_natCast]
  have hml : msg.length = (canonL (refOps 2 1 []) (shL (resW n)) n).length := by
    unfold encE at he
    split at he
    · have := (listF_zero he).1; omega
    · rename_i h; exact absurd he h
  rw [hel]
  have hsp := combL_span two_fld hc.1.rows hml
  exact ⟨combTo_len _ _ _ _ _, fun j => hsp.lt two_fld j⟩
end Go.Proofs.Ytlcgihjdafglmaa

/- Plain: sums over a prime field; codes of cyclic shifts by literal systematic rows. -/
namespace Go.Proofs.Ytlcgihjdafglmaa
set_option linter.unusedVariables false

/-- the operations are those of the residues -/
structure Pf (O : FOps) (p : Nat) : Prop where
  fld : O.Fld (p : Int)
  add : ∀ x y : Int, 0 ≤ x → x < p → 0 ≤ y → y < p → O.add x y = (x + y) % (p : Int)
  mul : ∀ x y : Int, 0 ≤ x → x < p → 0 ≤ y → y < p → O.mul x y = (x * y) % (p : Int)
theorem pf2 : Pf (refOps 2 1 []) 2 := ⟨two_fld, fun x y hx0 hx1 hy0 hy1 => by
    show addF 2 1 x y = _
    rw [add21, bit_self hx0 hx1, bit_self hy0 hy1]; rfl, fun x y hx0 hx1 hy0 hy1 => by
    show mulR 2 1 [] x y = _
    rw [mul21, bit_self hx0 hx1, bit_self hy0 hy1]
    have h1 : x = 0 ∨ x = 1 := by omega
    have h2 : y = 0 ∨ y = 1 := by omega
    rcases h1 with rfl | rfl <;> rcases h2 with rfl | rfl <;> rfl⟩
theorem order31 : orderF 3 1 = 3 := by decide
theorem prime_three (d : Int) (h1 : 2 ≤ d) (h2 : d < 3) : (3 : Int) % d ≠ 0 := by
  have e : d = 2 := by omega
  rw [e]; decide
theorem field31 : FieldP 3 1 [] := ⟨by rw [order31]; decide, ⟨by decide, prime_three⟩, ⟨fun _ => rfl, fun h => absurd rfl h⟩, fun h => absurd rfl h⟩
theorem pf3 : Pf (refOps 3 1 []) 3 := ⟨by have h := ref_fld field31; rw [order31] at h; exact h, fun x y hx0 hx1 hy0 hy1 => by
    have h1 : x = 0 ∨ x = 1 ∨ x = 2 := by omega
    have h2 : y = 0 ∨ y = 1 ∨ y = 2 := by omega
    rcases h1 with rfl | rfl | rfl <;> rcases h2 with rfl | rfl | rfl <;> decide +kernel, fun x y hx0 hx1 hy0 hy1 => by
    have h1 : x = 0 ∨ x = 1 ∨ x = 2 := by omega
    have h2 : y = 0 ∨ y = 1 ∨ y = 2 := by omega
    rcases h1 with rfl | rfl | rfl <;> rcases h2 with rfl | rfl | rfl <;> decide +kernel⟩
/-- a sum of naturals -/
def sumN (f : Nat → Nat) : Nat → Nat
  | 0 => 0
  | n + 1 => sumN f n + f n
theorem Pf.sum {O : FOps} {p : Nat} (hP : Pf O p) {f g : Nat → Nat} (hf : ∀ i, f i < p) (hg : ∀ i, g i < p) : ∀ n, sumTo O (fun i => O.mul (f i : Int) (g i : Int)) n = ((sumN (fun i => f i * g i) n % p : Nat) : Int)
  | 0 => by
    have := hf 0
    show (0 : Int) = ((0 % p : Nat) : Int)
    rw [Nat.zero_mod]; rfl
  | n + 1 => by
    have hp : 0 < p := Nat.lt_of_le_of_lt (Nat.zero_le _) (hf 0)
    have h1 := Nat.mod_lt (sumN (fun i => f i * g i) n) hp
    have h2 := Nat.mod_lt (f n * g n) hp
    have h3 := hf n; have h4 := hg n
    rw [sumTo, hP.sum hf hg n, hP.mul _ _ (by omega) (by omega) (by omega) (by omega), ← Int.natCast_mul, ← Int.natCast_emod, hP.add _ _ (by omega) (by omega) (by omega) (by omega), sumN, Nat.add_mod (sumN _ n)]
    push_cast
    rfl
def dgt (p m j : Nat) : Nat := m / p ^ j % p
theorem dgt_lt {p : Nat} (hp : 0 < p) (m j : Nat) : dgt p m j < p := Nat.mod_lt _ hp
/-- the digits of a number as a row -/
def digL (p n m : Nat) : List Int := rowOf n fun j => (dgt p m j : Int)
theorem digL_len (p n m : Nat) : (digL p n m).length = n := rowOf_len _ _
theorem digL_at {p n m j : Nat} (h : j < n) : (digL p n m).getD j 0 = (dgt p m j : Int) := rowOf_getD h
theorem digL_rng {p n m : Nat} (hp : 0 < p) (j : Nat) : 0 ≤ (digL p n m).getD j 0 ∧ (digL p n m).getD j 0 < (p : Int) := by
  by_cases h : j < n
  · rw [digL_at h]; have := dgt_lt hp m j; omega
  · rw [getD_len (by rw [digL_len]; omega)]; omega
theorem mapD_at (p n : Nat) (Bm : List Nat) {k : Nat} (h : k < Bm.length) : (Bm.map (digL p n)).getD k [] = digL p n (Bm.getD k 0) := by
  simp [List.getD, h]
theorem mapD_rows {p : Nat} (hp : 0 < p) (n : Nat) (Bm : List Nat) : Rows (p : Int) n (Bm.map (digL p n)) := fun k hk => by
  rw [List.length_map] at hk
  rw [mapD_at p n Bm hk]
  exact ⟨digL_len _ _ _, digL_rng hp⟩
theorem mapD_ent {p n : Nat} {Bm : List Nat} {k j : Nat} (h : k < Bm.length) (hj : j < n) : ent (Bm.map (digL p n)) k j = (dgt p (Bm.getD k 0) j : Int) := by
  unfold ent; rw [mapD_at p n Bm h, digL_at hj]
/-- the systematic rows Bm generate the code of the shifts of wm; Cm says how the shifts give them -/
def sysChk (p n K wm : Nat) (Bm Cm : List Nat) : Bool :=
  Bm.length == K && ((List.range n).all fun i => (List.range n).all fun j => sumN (fun k => dgt p wm ((k + (n - i)) % n) * dgt p (Bm.getD k 0) j) K % p == dgt p wm ((j + (n - i)) % n)) &&
  ((List.range K).all fun k => (List.range n).all fun j => sumN (fun i => dgt p (Cm.getD k 0) i * dgt p wm ((j + (n - i)) % n)) n % p == dgt p (Bm.getD k 0) j) &&
  ((List.range K).all fun k => (List.range K).all fun l => dgt p (Bm.getD k 0) l == if k = l then 1 else 0)
theorem shD_ent {p n wm : Nat} {i j : Nat} (hi : i < n) (hj : j < n) : ent (shL (digL p n wm)) i j = (dgt p wm ((j + (n - i)) % n) : Int) := by
  have e : (shL (digL p n wm)).getD i [] = shR (digL p n wm) i := by unfold shL; simp [List.getD, digL_len, hi]
  unfold ent
  rw [e, shR_at (by rw [digL_len]; exact hi) (by rw [digL_len]; exact hj), digL_len, digL_at (Nat.mod_lt _ (by omega))]
theorem sys_canon {O : FOps} {p n K wm : Nat} {Bm Cm : List Nat} (hP : Pf O p) (hp : 2 ≤ p) (hK : K ≤ n) (h : sysChk p n K wm Bm Cm = true) :
    canonL O (shL (digL p n wm)) n = Bm.map (digL p n) ∧ Bm.length = K ∧ Rref O (p : Int) n (Bm.map (digL p n)) ((List.range K).map fun (k : Nat) => (k : Int)) := by
  unfold sysChk at h
  simp only [Bool.and_eq_true, beq_iff_eq, List.all_eq_true, List.mem_range] at h
  obtain ⟨⟨⟨hl, hA⟩, hB⟩, hI⟩ := h
  have hO := hP.fld
  have hp0 : 0 < p := by omega
  have hAR : Rows (p : Int) n (shL (digL p n wm)) := by
    have := shL_rows (q := (p : Int)) (by omega) (ws := digL p n wm) (fun i => digL_rng hp0 i)
    rwa [digL_len] at this
  have hBR := mapD_rows (p := p) hp0 n Bm
  have hBl : (Bm.map (digL p n)).length = K := by rw [List.length_map, hl]
  have hAl : (shL (digL p n wm)).length = n := by rw [shL_len, digL_len]
  have hpv : ∀ i, i < K → pvt ((List.range K).map fun (k : Nat) => (k : Int)) i = i := fun i hi => by unfold pvt; simp [List.getD, hi]
  have hR : Rref O (p : Int) n (Bm.map (digL p n)) ((List.range K).map fun (k : Nat) => (k : Int)) := by
    refine ⟨hBR, by rw [hBl]; simp, fun i hi => ?_, fun i hi => ?_, fun i k hik hk => ?_, fun i hi => ?_, fun i hi k hne => ?_, fun i hi j hj => ?_⟩
    · rw [hBl] at hi; rw [hpv i hi]; simp [List.getD, hi]
    · rw [hBl] at hi; rw [hpv i hi]; omega
    · rw [hBl] at hk; rw [hpv i (by omega), hpv k hk]; exact hik
    · rw [hBl] at hi; rw [hpv i hi, mapD_ent (by omega) (by omega), hI i hi i hi, if_pos rfl]; rfl
    · rw [hBl] at hi; rw [hpv i hi]
      by_cases hk : k < K
      · rw [mapD_ent (by omega) (by omega), hI k hk i hi, if_neg hne]; rfl
      · exact ent_ge (by rw [hBl]; omega) _
    · rw [hBl] at hi; rw [hpv i hi] at hj
      rw [mapD_ent (by omega) (by omega), hI i hi j (by omega), if_neg (by omega)]; rfl
  refine ⟨?_, hl, hR⟩
  refine Cn.eq hO (Cn.canon hO hAR) ⟨_, hR⟩ fun x => ?_
  rw [canon_span hO hAR]
  refine Alike.span hO ⟨fun i hi => ?_, fun k hk => ?_⟩ x
  · rw [hAl] at hi
    refine ⟨fun k => (dgt p wm ((k + (n - i)) % n) : Int), fun j => ?_⟩
    rw [hBl]
    by_cases hj : j < n
    · rw [shD_ent hi hj, ← hA i hi j hj, ← hP.sum (fun k => dgt_lt hp0 _ _) (fun k => dgt_lt hp0 _ _)]
      refine sumTo_congr fun k hk => ?_
      rw [mapD_ent (by omega) hj]
    · rw [ent_wide hAR (by omega)]
      exact (sumTo_zero hO fun k hk => by rw [ent_wide hBR (by omega)]; exact hO.mul_zero _).symm
  · rw [hBl] at hk
    refine ⟨fun i => (dgt p (Cm.getD k 0) i : Int), fun j => ?_⟩
    rw [hAl]
    by_cases hj : j < n
    · rw [mapD_ent (by omega) hj, ← hB k hk j hj, ← hP.sum (fun k => dgt_lt hp0 _ _) (fun k => dgt_lt hp0 _ _)]
      refine sumTo_congr fun i hi => ?_
      rw [shD_ent hi hj]
    · rw [ent_wide hBR (by omega)]
      exact (sumTo_zero hO fun i hi => by rw [ent_wide hAR (by omega)]; exact hO.mul_zero _).symm
end Go.Proofs.Ytlcgihjdafglmaa

/- Plain: the residue codes and the ternary Golay code by systematic rows. Printed by a program (gen_sys.py). -/
namespace Go.Proofs.Ytlcgihjdafglmaa
set_option linter.unusedVariables false
set_option maxRecDepth 100000

def sysB7 : List Nat := [49, 98, 116, 88]
def sysC7 : List Nat := [8, 7, 6, 4]
theorem sys_7 : sysChk 2 7 4 22 sysB7 sysC7 = true := by decide +kernel
theorem sysW_7 : wLit 7 = digL 2 7 22 := by decide +kernel
def sysB17 : List Nat := [110081, 61954, 123908, 26120, 52240, 104480, 40512, 81024, 120576]
def sysC17 : List Nat := [59, 77, 154, 271, 341, 481, 178, 356, 440]
theorem sys_17 : sysChk 2 17 9 107287 sysB17 sysC17 = true := by decide +kernel
theorem sysW_17 : wLit 17 = digL 2 17 107287 := by decide +kernel
def sysB23 : List Nat := [3026945, 6053890, 1503236, 3006472, 6012944, 1683488, 3366976, 6733952, 6533376, 6902272, 8164352, 5707776]
def sysC23 : List Nat := [2630, 19, 2656, 95, 190, 2874, 747, 1494, 490, 2450, 3581, 1315]
theorem sys_23 : sysChk 2 23 12 340830 sysB23 sysC23 = true := by decide +kernel
theorem sysW_23 : wLit 23 = digL 2 23 340830 := by decide +kernel
def sysB31 : List Nat := [281477121, 562954242, 1125908484, 385810440, 771620880, 1543241760, 658440256, 1316880512, 205193472, 410386944, 820773888, 1641547776, 1400311808, 908664832, 1817329664, 1214480384]
def sysC31 : List Nat := [46592, 18715, 37430, 46967, 19445, 38890, 48335, 23685, 3850, 7700, 15400, 30800, 18080, 15168, 30336, 23296]
theorem sys_31 : sysChk 2 31 16 303908790 sysB31 sysC31 = true := by decide +kernel
theorem sysW_31 : wLit 31 = digL 2 31 303908790 := by decide +kernel
def sysB41 : List Nat := [1553895260161, 1899946311682, 126435196932, 252870393864, 505740787728, 1011481575456, 2022963150912, 858177667200, 1716355334400, 510948016640, 1021896033280, 2043792066560, 955569410048, 1911138820096, 69707251712, 139414503424, 278829006848, 557658013696, 1115316027392, 1574498205696, 1876459257856]
def sysC41 : List Nat := [929691, 1208493, 1219654, 1927691, 165521, 331042, 662084, 1710867, 812193, 1500889, 1417013, 1273069, 1090758, 1645323, 281354, 562708, 1125416, 1706711, 804649, 1483209, 1785486]
theorem sys_41 : sysChk 2 41 21 1870503675703 sysB41 sysC41 = true := by decide +kernel
theorem sysW_41 : wLit 41 = digL 2 41 1870503675703 := by decide +kernel
def sysB47 : List Nat := [13704955428865, 27409910857730, 54819821715460, 109639643430920, 82566971392016, 28891456471072, 57782912942144, 115565825884288, 103630698971392, 53833673736704, 107667347473408, 87610538067968, 21072065859584, 42144131719168, 84288263438336, 23257902252032, 46515804504064, 93031609008128, 41024840007680, 82049680015360, 27804327477248, 55608654954496, 111217309908992, 77221221892096]
def sysC47 : List Nat := [2841694, 5683388, 11366776, 4411555, 11402520, 6886461, 13772922, 12444327, 4795203, 12126936, 7055331, 16520088, 13289789, 9183273, 127489, 2668636, 5337272, 10674544, 7810285, 15620570, 15621561, 12912929, 9674769, 1420847]
theorem sys_47 : sysChk 2 47 24 4626135339998 sysB47 sysC47 = true := by decide +kernel
theorem sysW_47 : wLit 47 = digL 2 47 4626135339998 := by decide +kernel
def sysBG : List Nat := [106435, 116643, 68535, 160407, 56214, 168642]
def sysCG : List Nat := [371, 384, 423, 540, 162, 486]
theorem sys_G : sysChk 3 11 6 389 sysBG sysCG = true := by decide +kernel
theorem sysW_G : ([2, 0, 1, 2, 1, 1, 0, 0, 0, 0, 0] : List Int) = digL 3 11 389 := by decide +kernel
/-- the dimension of a residue code -/
theorem res_dim {n : Nat} (hn : n = 7 ∨ n = 17 ∨ n = 23 ∨ n = 31 ∨ n = 41 ∨ n = 47) : (canonL (refOps 2 1 []) (shL (resW n)) n).length = (n + 1) / 2 := by
  rcases hn with rfl | rfl | rfl | rfl | rfl | rfl
  · rw [resW_7, sysW_7, (sys_canon pf2 (by decide) (by decide) sys_7).1]; rfl
  · rw [resW_17, sysW_17, (sys_canon pf2 (by decide) (by decide) sys_17).1]; rfl
  · rw [resW_23, sysW_23, (sys_canon pf2 (by decide) (by decide) sys_23).1]; rfl
  · rw [resW_31, sysW_31, (sys_canon pf2 (by decide) (by decide) sys_31).1]; rfl
  · rw [resW_41, sysW_41, (sys_canon pf2 (by decide) (by decide) sys_41).1]; rfl
  · rw [resW_47, sysW_47, (sys_canon pf2 (by decide) (by decide) sys_47).1]; rfl
end Go.Proofs.Ytlcgihjdafglmaa

/- ref15.Residue; the program's answer and the document's are the same. -/
namespace Go.Proofs.Ytlcgihjdafglmaa
open Go.RowKit
set_option linter.unusedVariables false
set_option maxRecDepth 100000

set_option maxHeartbeats 8000000 in
theorem rRes_no (w : World) (n : Int) (hn : ¬ LenOk n) : Calls Try.prog 12 #[.int .i64 n] w (RetCE w 0 0 [] 0 [] 6) := by
  have HB0 := Lib.hid (bl_alloc w (.cells #[.int .i64 0, .int .i64 0, .slice none 0 0, .int .i64 0, .slice none 0 0] 27))
  have HRB : Hid (Blk (w.alloc (.cells #[.int .i64 0, .int .i64 0, .slice none 0 0, .int .i64 0, .slice none 0 0] 27)) w.heap.size 27 [.int .i64 0, .int .i64 0, .slice none 0 0, .int .i64 0, .slice none 0 0]) := Blk.new w 27 [.int .i64 0, .int .i64 0, .slice none 0 0, .int .i64 0, .slice none 0 0]
  obtain ⟨w0, hw0⟩ : ∃ w0, w0 = w.alloc (.cells #[.int .i64 0, .int .i64 0, .slice none 0 0, .int .i64 0, .slice none 0 0] 27) := ⟨_, rfl⟩
  rw [← hw0] at HB0 HRB
  have HW0 := Lib.hid hw0.symm
  clear hw0
  have HN : Hid (decide (LenOk n) = false) := hid' (decide_eq_false hn)
  clear hn
  obtain ⟨d0, d1, d2, d3, d4, f0, f1, f2, f3, f4⟩ := HRB.out.five
  go_enter Try.func12, Try.ntmps12
  go_upto_region 1 with fail
  rw [HW0.out]
  go_wp2_with fail
  refine (rLen_any _ n).mono ?_
  rintro e w1 ⟨rfl, rfl⟩
  rw [HN.out]
  go_wp2_with fail
  obtain ⟨w9, h9, HL⟩ := lay5 (x := .int .i64 0) (y := .int .i64 0) (z := .slice none 0 0) (u := .int .i64 0) (v := .slice none 0 0) HRB.out
  rw [h9]
  have q0 := HL.c0; have q1 := HL.c1; have q2 := HL.c2; have q3 := HL.c3; have q4 := HL.c4
  refine bodyPost_ret (v := .tuple #[.agg #[.int .i64 0, .int .i64 0, .slice none 0 0, .int .i64 0, .slice none 0 0], .int .i64 6]) (by simp [results, Try.results12, go_sem, q0, q1, q2, q3, q4]) rfl ?_
  exact ⟨_, _, rfl, (SI.nilSep _ _).and (SS.nilSep _ _), HL.below HB0.out HB0.out.size (Nat.le_refl _)⟩

set_option maxHeartbeats 32000000 in
theorem rRes_ok (w : World) (n : Nat) (hn : LenOk (n : Int)) : Calls Try.prog 12 #[.int .i64 (n : Int)] w (RetCE w 2 1 [] n (canonL (refOps 2 1 []) (shL (resW n)) n) 0) := by
  have HN : Hid (decide (LenOk (n : Int)) = true) := hid' (decide_eq_true hn)
  obtain ⟨h3, h64, h8, hp⟩ := hn
  have HSH := Lib.hid (fun (w' : World) (v : Value) (hs : SI w' v (resW n)) => rShf_any w' v (resW n) n hs (resW_len n) (by omega) (by omega))
  have HMK := Lib.hid (fun (w' : World) (rv : Value) (hs : SS w' rv (shL (resW n))) => rMake_any w' 2 1 n (.slice none 0 0) rv [] (shL (resW n)) (SI.none_ w') hs (by rw [order21]; decide) ⟨fun _ => rfl, fun h => absurd rfl h⟩ (by rw [order21]; exact res_rows n) (by omega) (by rw [shL_len, resW_len]; omega))
  unfold RetNu at HSH
  unfold RetC at HMK
  generalize canonL (refOps 2 1 []) (shL (resW n)) n = C at *
  generalize shL (resW n) = T at *
  have HRI : Hid (∀ i, I64 ((resW n).getD i 0)) := hid' fun i => by have := resW_bit n i; exact I64.of_small (by omega) (by omega)
  have HRL := Lib.hid (resW_len n)
  have HB0 := Lib.hid (bl_alloc w (.cells #[.int .i64 0, .int .i64 0, .slice none 0 0, .int .i64 0, .slice none 0 0] 27))
  have HRB : Hid (Blk (w.alloc (.cells #[.int .i64 0, .int .i64 0, .slice none 0 0, .int .i64 0, .slice none 0 0] 27)) w.heap.size 27 [.int .i64 0, .int .i64 0, .slice none 0 0, .int .i64 0, .slice none 0 0]) := Blk.new w 27 [.int .i64 0, .int .i64 0, .slice none 0 0, .int .i64 0, .slice none 0 0]
  obtain ⟨w0, hw0⟩ : ∃ w0, w0 = w.alloc (.cells #[.int .i64 0, .int .i64 0, .slice none 0 0, .int .i64 0, .slice none 0 0] 27) := ⟨_, rfl⟩
  rw [← hw0] at HB0 HRB
  have HW0 := Lib.hid hw0.symm
  clear hw0
  have hn64 : n ≤ 64 := by omega
  have hn3 : 3 ≤ n := by omega
  have HRW : Hid (∀ b : Bool, ((n : Int) % 8 == 1) = b → resW n = if b = true then (sqT n (n - 1)).set 0 1 else sqT n (n - 1)) := hid' fun b hb => by
    unfold resW
    cases b
    · rw [if_neg (beq_eq_false_iff_ne.1 hb), if_neg (by decide)]
    · rw [if_pos (beq_iff_eq.1 hb), if_pos rfl]
  clear h3 h64 hp h8
  cases e8 : ((n : Int) % 8 == 1)
  case' false => have e7 : ¬ (n : Int) % 8 = 1 := beq_eq_false_iff_ne.1 e8
  all_goals
    have HRE := Lib.hid (HRW.out _ e8)
    clear HRW
    go_enter Try.func12, Try.ntmps12
    go_upto_region 1 with fail
    rw [HW0.out]
    go_wp2_with fail
    refine (rLen_any _ (n : Int)).mono ?_
    rintro e w1 ⟨rfl, rfl⟩
    rw [HN.out]
    go_wp2_with fail
    refine (rSq_any _ n (by omega) hn64).mono ?_
    rintro e w2 ⟨g, hg, rfl, hri, hb⟩
    have HGE := Lib.hid hg
    have HR := Lib.hid hri
    have HB := Lib.hid hb
    clear hg hri hb
    have v0 := HR.out.cell 0 (by rw [sqT_len]; omega)
    generalize hz : (sqT n (n - 1)).getD 0 0 = z0 at v0
    clear hz
    have vf := HR.out.frozen 0
    have HR3 := Lib.hid (HR.out.set 0 1)
    have HB3 := Lib.hid (HB.out.setCell (p := ⟨g, 0, none⟩) (HGE.out) (.int .i64 1))
    have HZ : Hid (∃ wz, wz = (if ((n : Int) % 8 == 1) = true then w2.setCell ⟨g, 0, none⟩ (.int .i64 1) else w2) ∧ RI wz g (resW n) ∧ Below w0.heap.size w0 wz) := hid' (by
      refine ⟨_, rfl, ?_⟩
      rw [HRE.out, e8]
      first
        | exact ⟨HR3.out, HB3.out⟩
        | exact ⟨HR.out, HB.out⟩)
    rw [e8] at HZ
    clear HRE HR3 HB3
    go_upto_region 6 with fail
    obtain ⟨wz, hwz, hrz, hbz⟩ := HZ.out
    clear HZ
    first
      | rw [if_pos rfl] at hwz
      | rw [if_pos trivial] at hwz
      | rw [if_neg (by decide)] at hwz
    rw [← hwz]
    clear hwz v0 vf HR HB
    have hrs := hrz.si (by rw [HRL.out]; omega) HRI.out
    rw [HRL.out] at hrs
    have HZS := Lib.hid hrs
    have HBZ := Lib.hid (bl_trans HB0.out hbz); have HRBZ := Lib.hid (HRB.out.belowS hbz)
    clear hrs hrz hbz
    go_wp2_with fail
    refine (two_any _).mono ?_
    rintro e w4 ⟨rfl, hb4⟩
    have HS4 := Lib.hid (HZS.out.below hb4 (Nat.le_refl _)); have HB4 := Lib.hid (bl_trans HBZ.out hb4); have HRB4 := Lib.hid (HRBZ.out.belowS hb4)
    clear hb4
    go_wp2_with fail
    refine (HSH.out _ _ HS4.out).mono ?_
    rintro e w6 ⟨u6, rfl, hx6, _, hb6⟩
    have HS6 := Lib.hid hx6.out; have HB6 := Lib.hid (bl_trans HB4.out hb6); have HRB6 := Lib.hid (HRB4.out.belowS hb6)
    clear hx6 hb6
    go_wp2_with fail
    refine (HMK.out _ _ HS6.out).mono ?_
    rintro e w5 ⟨u5, g5, rfl, hx5, hb5⟩
    obtain ⟨⟨MA, mc, rfl, _⟩, ⟨DA, dc, rfl, _⟩⟩ := hx5.out
    have HX5 : Hid (Sep w6.heap.size w5 fun w9 => SI w9 (.slice MA 0 mc) [] ∧ SS w9 (.slice DA C.length dc) C) := hid' hx5
    have HB5 := Lib.hid (bl_trans HB6.out hb5); have HRB5 := Lib.hid (HRB6.out.belowS hb5)
    have hlt4 := HRB6.out.lt
    clear hx5 hb5
    generalize C.length = dl at *
    obtain ⟨d0, d1, d2, d3, d4, f0, f1, f2, f3, f4⟩ := HRB5.out.five
    go_wp2_with fail
    obtain ⟨w9, h9, HL⟩ := lay5 (x := .int .i64 2) (y := .int .i64 1) (z := .slice MA 0 mc) (u := .int .i64 (n : Int)) (v := .slice DA dl dc) HRB5.out
    rw [h9]
    have q0 := HL.c0; have q1 := HL.c1; have q2 := HL.c2; have q3 := HL.c3; have q4 := HL.c4
    refine bodyPost_ret (v := .tuple #[.agg #[.int .i64 2, .int .i64 1, .slice MA 0 mc, .int .i64 (n : Int), .slice DA dl dc], .int .i64 0]) (by simp [results, Try.results12, go_sem, q0, q1, q2, q3, q4]) rfl ?_
    exact ⟨_, _, rfl, (HX5.out.grown HL.gr (by rintro b e; cases e; omega)).mono HB6.out.size, HL.below HB5.out HB5.out.size (Nat.le_refl _)⟩

/-- there are data such that both answer them -/
theorem res_both (n : Int) : ∃ (P M : Int) (Mod : List Int) (m : Int) (gen : List (List Int)) (er : Int),
    Hid (∀ w, Calls Try.prog 11 #[.int .i64 n] w (RetCE w P M Mod m gen er)) ∧ Hid (∀ w, Calls Try.prog 12 #[.int .i64 n] w (RetCE w P M Mod m gen er)) ∧
    (er = 0 → (3 ≤ n ∧ n ≤ 64) ∧ (gen.length : Int) = (n + 1) / 2 ∧ m = n ∧ LenOk n) ∧ (er ≠ 0 → er = 6 ∧ ¬ LenOk n) := by
  by_cases h : LenOk n
  · obtain ⟨N, rfl⟩ : ∃ N : Nat, n = (N : Int) := ⟨n.toNat, by have := h.1; omega⟩
    refine ⟨2, 1, [], N, _, 0, hid' fun w => cRes_ok w N h, hid' fun w => rRes_ok w N h, fun _ => ⟨⟨h.1, h.2.1⟩, ?_, rfl, h⟩, fun h => absurd rfl h⟩
    rw [res_dim (len_six N (by have := h.2.1; omega) h)]
    push_cast
    rfl
  · exact ⟨0, 0, [], 0, [], 6, hid' fun w => cRes_no w n h, hid' fun w => rRes_no w n h, (fun h => by cases h), fun _ => ⟨rfl, h⟩⟩
end Go.Proofs.Ytlcgihjdafglmaa
