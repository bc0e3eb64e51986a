/- Texts of a claim, merged: words, plain facts and walks that the last of its texts uses. -/
import Derived.Test.YtgabhlalamnbgaaQ1
import Derived.Test.YtgabhlalamnbgaaQ2
import Derived.Test.YtgabhlalamnbgaaQ5
import Derived.Test.YtgabhlalamnbgaaQ8
import Derived.Test.YtgabhlalamnbgaaQ9
set_option linter.unusedSimpArgs false
set_option linter.unusedVariables false

/- Messages of the min-sum decoder: sums, the two least values against the pairwise form. No program in sight. -/
namespace Go.Proofs.Ytgabhlalamnbgaa
set_option linter.unusedVariables false

/-- the belief of a position that is 0 for certain -/
def cer : Int := 1099511627776
def lsum : List Int → Int
  | [] => 0
  | x :: l => x + lsum l
theorem lsum_snoc (x : Int) : ∀ l, lsum (l ++ [x]) = lsum l + x
  | [] => by simp [lsum]
  | y :: l => by rw [List.cons_append, lsum, lsum, lsum_snoc x l]; omega
def clampV (x : Int) : Int := max (min x 1099511627775) (-1099511627775)
/-- the sum of an input and messages -/
def sumV (a : Int) (l : List Int) : Int := if cer ∈ l then cer else clampV (a + lsum l)
theorem clampV_bd (x : Int) : -1099511627775 ≤ clampV x ∧ clampV x ≤ 1099511627775 := by unfold clampV; omega
theorem sumV_bd (a : Int) (l : List Int) : -cer ≤ sumV a l ∧ sumV a l ≤ cer := by
  have := clampV_bd (a + lsum l)
  unfold sumV cer
  split <;> omega
theorem sumV_hit {a : Int} {l : List Int} (h : cer ∈ l) : sumV a l = cer := if_pos h
theorem sumV_no {a : Int} {l : List Int} (h : cer ∉ l) : sumV a l = clampV (a + lsum l) := if_neg h
theorem lsum_bd : ∀ {l : List Int}, (∀ x, x ∈ l → -cer ≤ x ∧ x ≤ cer) → -(cer * l.length) ≤ lsum l ∧ lsum l ≤ cer * l.length
  | [], _ => by simp [lsum]
  | x :: l, h => by
    have h1 := lsum_bd (l := l) fun y hy => h y (List.mem_cons_of_mem _ hy)
    have h2 := h x (List.mem_cons_self ..)
    rw [lsum, List.length_cons]
    unfold cer at *
    push_cast
    omega

/-- the messages to p but that of one check, of the first i checks -/
def inTo (rows : List (List Int)) (F : Nat → Nat → Int) (p : Nat) (but : Int) : Nat → List Int
  | 0 => []
  | i + 1 => if (i : Int) ≠ but ∧ (rows.getD i []).getD p 0 = 1 then inTo rows F p but i ++ [F i p] else inTo rows F p but i
/-- the messages of some edges -/
def msgE (F : Nat → Nat → Int) (p : Nat) (but : Int) (es : List (Int × Int)) : List Int := (es.filter fun e => e.1 != but).map fun e => F e.1.toNat p
theorem msgE_snoc_no {F : Nat → Nat → Int} {p : Nat} {but : Int} {es : List (Int × Int)} {e : Int × Int} (h : e.1 = but) : msgE F p but (es ++ [e]) = msgE F p but es := by
  unfold msgE; rw [List.filter_append]; simp [h]
theorem msgE_snoc_yes {F : Nat → Nat → Int} {p : Nat} {but : Int} {es : List (Int × Int)} {e : Int × Int} (h : e.1 ≠ but) : msgE F p but (es ++ [e]) = msgE F p but es ++ [F e.1.toNat p] := by
  unfold msgE; rw [List.filter_append]; simp [h]
theorem msgE_edges (rows : List (List Int)) (F : Nat → Nat → Int) (p : Nat) (but : Int) : ∀ i, msgE F p but (edgesTo rows p i) = inTo rows F p but i
  | 0 => rfl
  | i + 1 => by
    have ih := msgE_edges rows F p but i
    rw [inTo]
    by_cases h : (rows.getD i []).getD p 0 = 1
    · rw [edgesTo_yes h]
      by_cases e : (i : Int) = but
      · rw [msgE_snoc_no e, ih, if_neg (fun hh => hh.1 e)]
      · rw [msgE_snoc_yes e, ih, if_pos ⟨e, h⟩]; rfl
    · rw [edgesTo_no h, ih, if_neg (fun hh => h hh.2)]
theorem edges_at {rows : List (List Int)} {p : Nat} : ∀ {i k : Nat}, k < (edgesTo rows p i).length → ∃ j : Nat, j < i ∧ (edgesTo rows p i).getD k (0, 0) = ((j : Int), ((onesTo (rows.getD j []) p).length : Int)) ∧ (rows.getD j []).getD p 0 = 1
  | 0, k, h => absurd h (by simp [edgesTo])
  | i + 1, k, h => by
    by_cases e : (rows.getD i []).getD p 0 = 1
    · rw [edgesTo_yes e] at h ⊢
      rw [List.length_append, List.length_singleton] at h
      by_cases hk : k < (edgesTo rows p i).length
      · obtain ⟨j, h1, h2, h3⟩ := edges_at hk
        refine ⟨j, by omega, ?_, h3⟩
        rw [← h2]; simp [List.getD, List.getElem?_append_left hk]
      · obtain rfl : k = (edgesTo rows p i).length := by omega
        exact ⟨i, by omega, by simp [List.getD], e⟩
    · rw [edgesTo_no e] at h ⊢
      obtain ⟨j, h1, h2, h3⟩ := edges_at h
      exact ⟨j, by omega, h2, h3⟩
theorem msgE_take_in {F : Nat → Nat → Int} {p : Nat} {but : Int} {es : List (Int × Int)} {k : Nat} {x : Int} (h : x ∈ msgE F p but (es.take k)) : x ∈ msgE F p but es := by
  unfold msgE at *
  obtain ⟨e, he, rfl⟩ := List.mem_map.1 h
  obtain ⟨h1, h2⟩ := List.mem_filter.1 he
  exact List.mem_map.2 ⟨e, List.mem_filter.2 ⟨List.mem_of_mem_take h1, h2⟩, rfl⟩
theorem msgE_bd {F : Nat → Nat → Int} (hF : ∀ j p, -cer ≤ F j p ∧ F j p ≤ cer) (p : Nat) (but : Int) (es : List (Int × Int)) : ∀ x, x ∈ msgE F p but es → -cer ≤ x ∧ x ≤ cer := fun x hx => by
  unfold msgE at hx
  obtain ⟨e, _, rfl⟩ := List.mem_map.1 hx
  exact hF _ _
theorem msgE_len (F : Nat → Nat → Int) (p : Nat) (but : Int) (es : List (Int × Int)) : (msgE F p but es).length ≤ es.length := by
  unfold msgE; rw [List.length_map]; exact List.length_filter_le _ _
theorem inTo_bd {F : Nat → Nat → Int} (hF : ∀ j p, -cer ≤ F j p ∧ F j p ≤ cer) (rows : List (List Int)) (p : Nat) (but : Int) (i : Nat) : ∀ x, x ∈ inTo rows F p but i → -cer ≤ x ∧ x ≤ cer := by
  rw [← msgE_edges]; exact msgE_bd hF p but _
theorem inTo_len (rows : List (List Int)) (F : Nat → Nat → Int) (p : Nat) (but : Int) : ∀ i, (inTo rows F p but i).length ≤ i
  | 0 => Nat.le_refl _
  | i + 1 => by
    have := inTo_len rows F p but i
    rw [inTo]; split
    · rw [List.length_append, List.length_singleton]; omega
    · omega

/-- one more message into a value -/
def cmb (r x : Int) : Int := if decide (x < 0) != decide (r < 0) then -(min (max x (-x)) (max r (-r))) else min (max x (-x)) (max r (-r))
/-- the message to p from a check, of the first k positions -/
def rfTo (row : List Int) (x : Nat → Int) (p : Nat) : Nat → Int
  | 0 => cer
  | k + 1 => if k ≠ p ∧ row.getD k 0 = 1 then cmb (rfTo row x p k) (x k) else rfTo row x p k
def valS (m : Int) (s : Bool) : Int := if s then -m else m
theorem cmb_val {m x : Int} {s : Bool} (hm : 0 ≤ m) : cmb (valS m s) x = valS (min (max x (-x)) m) (s ^^ decide (x < 0)) := by
  by_cases h0 : m = 0
  · subst h0
    have e1 : valS 0 s = 0 := by cases s <;> rfl
    have e2 : min (max x (-x)) 0 = 0 := by omega
    rw [e1, e2]
    have e3 : valS 0 (s ^^ decide (x < 0)) = 0 := by cases (s ^^ decide (x < 0)) <;> rfl
    rw [e3]
    unfold cmb
    have e4 : max (0 : Int) (-0) = 0 := by decide
    rw [e4, e2]; split <;> rfl
  · have e1 : max (valS m s) (-(valS m s)) = m := by cases s <;> simp only [valS] <;> simp <;> omega
    have e2 : decide (valS m s < 0) = s := by
      cases s
      · simp [valS]; omega
      · simp [valS]; omega
    unfold cmb
    rw [e1, e2]
    unfold valS
    cases s <;> cases decide (x < 0) <;> rfl
theorem valS_bd {m : Int} {s : Bool} (h0 : 0 ≤ m) (h1 : m ≤ cer) : -cer ≤ valS m s ∧ valS m s ≤ cer := by unfold valS; split <;> omega

/-- the least absolute value but that of i, of the first k; the parity of the negative ones -/
def minTo (u : Nat → Int) (i : Nat) : Nat → Int
  | 0 => cer
  | k + 1 => if k ≠ i then min (max (u k) (-(u k))) (minTo u i k) else minTo u i k
def parTo (u : Nat → Int) (i : Nat) : Nat → Bool
  | 0 => false
  | k + 1 => if k ≠ i then parTo u i k ^^ decide (u k < 0) else parTo u i k
theorem minTo_bd (u : Nat → Int) (i : Nat) : ∀ k, 0 ≤ minTo u i k ∧ minTo u i k ≤ cer
  | 0 => ⟨by show (0 : Int) ≤ cer; decide, Int.le_refl _⟩
  | k + 1 => by
    have := minTo_bd u i k
    rw [minTo]; split <;> omega
theorem minTo_congr {u v : Nat → Int} {i : Nat} : ∀ {k}, (∀ j, j < k → u j = v j) → minTo u i k = minTo v i k
  | 0, _ => rfl
  | k + 1, h => by rw [minTo, minTo, minTo_congr fun j hj => h j (by omega), h k (by omega)]
theorem parTo_congr {u v : Nat → Int} {i : Nat} : ∀ {k}, (∀ j, j < k → u j = v j) → parTo u i k = parTo v i k
  | 0, _ => rfl
  | k + 1, h => by rw [parTo, parTo, parTo_congr fun j hj => h j (by omega), h k (by omega)]

/-- the program's scan: the least value, the next one, the place of the least, the number of negative ones -/
structure Scan where
  fst : Int
  snd : Int
  at_ : Int
  mns : Int
def scanTo (u : Nat → Int) : Nat → Scan
  | 0 => ⟨cer, cer, -1, 0⟩
  | k + 1 =>
    let s := scanTo u k
    let a := if u k < 0 then -(u k) else u k
    let m := if u k < 0 then s.mns + 1 else s.mns
    if s.at_ < 0 ∨ a < s.fst then ⟨a, s.fst, k, m⟩ else if a < s.snd then ⟨s.fst, a, s.at_, m⟩ else ⟨s.fst, s.snd, s.at_, m⟩
theorem abs_eq (x : Int) : (if x < 0 then -x else x) = max x (-x) := by split <;> omega
theorem scan_inv {u : Nat → Int} (hu : ∀ k, -cer ≤ u k ∧ u k ≤ cer) : ∀ k : Nat, (∀ i : Nat, minTo u i k = if (scanTo u k).at_ = i then (scanTo u k).snd else (scanTo u k).fst) ∧
    (scanTo u k).fst ≤ (scanTo u k).snd ∧ (scanTo u k).snd ≤ cer ∧ 0 ≤ (scanTo u k).fst ∧ (scanTo u k).at_ < k ∧ -1 ≤ (scanTo u k).at_ ∧ ((scanTo u k).at_ < 0 → k = 0) ∧ 0 ≤ (scanTo u k).mns ∧ (scanTo u k).mns ≤ k
  | 0 => by
    refine ⟨fun i => ?_, Int.le_refl _, Int.le_refl _, by show (0 : Int) ≤ cer; decide, by show (-1 : Int) < ((0 : Nat) : Int); decide, by show (-1 : Int) ≤ -1; decide, fun _ => rfl, by show (0 : Int) ≤ 0; decide, by show (0 : Int) ≤ ((0 : Nat) : Int); decide⟩
    show cer = if (-1 : Int) = i then cer else cer
    split <;> rfl
  | k + 1 => by
    obtain ⟨h1, h2, h3, h4, h5, h6, h7, h8, h9⟩ := scan_inv hu k
    have hb := hu k
    have ha : 0 ≤ (if u k < 0 then -(u k) else u k) ∧ (if u k < 0 then -(u k) else u k) ≤ cer := by split <;> omega
    have hm : 0 ≤ (if u k < 0 then (scanTo u k).mns + 1 else (scanTo u k).mns) ∧ (if u k < 0 then (scanTo u k).mns + 1 else (scanTo u k).mns) ≤ ((k + 1 : Nat) : Int) := by push_cast; split <;> omega
    rw [scanTo]
    have hstep : ∀ i : Nat, minTo u i (k + 1) = if k ≠ i then min (if u k < 0 then -(u k) else u k) (minTo u i k) else minTo u i k := fun i => by rw [minTo, abs_eq]
    generalize (if u k < 0 then -(u k) else u k) = a at *
    generalize (if u k < 0 then (scanTo u k).mns + 1 else (scanTo u k).mns) = m at *
    by_cases c1 : (scanTo u k).at_ < 0 ∨ a < (scanTo u k).fst
    · rw [if_pos c1]
      refine ⟨fun i => ?_, ?_, by dsimp only; omega, ha.1, by dsimp only; push_cast; omega, by dsimp only; omega, fun h => by dsimp only at h; omega, hm.1, hm.2⟩
      · rw [hstep i, h1 i]
        dsimp only
        by_cases e : k = i
        · subst e
          rw [if_neg (fun h => h rfl), if_pos rfl, if_neg (show ¬ (scanTo u k).at_ = (k : Int) by omega)]
        · rw [if_pos e, if_neg (show ¬ (k : Int) = (i : Int) by omega)]
          rcases c1 with c1 | c1
          · have hk := h7 c1
            subst hk
            have e0 : (scanTo u 0).fst = cer := rfl
            have e1 : (scanTo u 0).snd = cer := rfl
            rw [e0, e1]; split <;> omega
          · split <;> omega
      · dsimp only
        rcases c1 with c1 | c1
        · have hk := h7 c1
          subst hk
          have e0 : (scanTo u 0).fst = cer := rfl
          rw [e0]; exact ha.2
        · omega
    · rw [if_neg c1]
      have c2 : 0 ≤ (scanTo u k).at_ ∧ (scanTo u k).fst ≤ a := by omega
      by_cases c3 : a < (scanTo u k).snd
      · rw [if_pos c3]
        refine ⟨fun i => ?_, c2.2, by dsimp only; omega, h4, by dsimp only; push_cast; omega, h6, fun h => by dsimp only at h; omega, hm.1, hm.2⟩
        rw [hstep i, h1 i]
        dsimp only
        by_cases e : k = i
        · subst e
          rw [if_neg (fun h => h rfl), if_neg (show ¬ (scanTo u k).at_ = (k : Int) by omega), if_neg (show ¬ (scanTo u k).at_ = (k : Int) by omega)]
        · rw [if_pos e]
          split <;> omega
      · rw [if_neg c3]
        refine ⟨fun i => ?_, h2, h3, h4, by dsimp only; push_cast; omega, h6, fun h => by dsimp only at h; omega, hm.1, hm.2⟩
        rw [hstep i, h1 i]
        dsimp only
        by_cases e : k = i
        · subst e; rw [if_neg (fun h => h rfl)]
        · rw [if_pos e]
          split <;> omega
/-- the number of negative ones but i -/
theorem scan_par (u : Nat → Int) (i : Nat) : ∀ k : Nat, ∃ c : Int, 0 ≤ c ∧ c ≤ k ∧ (scanTo u k).mns = c + (if i < k ∧ u i < 0 then 1 else 0) ∧ parTo u i k = decide (c % 2 = 1)
  | 0 => ⟨0, Int.le_refl _, Int.le_refl _, by rw [if_neg (by omega)]; rfl, rfl⟩
  | k + 1 => by
    obtain ⟨c, h0, h1, h2, h3⟩ := scan_par u i k
    have hm : (scanTo u (k + 1)).mns = if u k < 0 then (scanTo u k).mns + 1 else (scanTo u k).mns := by
      rw [scanTo]
      (repeat' split) <;> rfl
    rw [hm, h2, parTo, h3]
    by_cases e : k = i
    · subst e
      refine ⟨c, h0, by push_cast; omega, ?_, by rw [if_neg (fun h => h rfl)]⟩
      rw [if_neg (show ¬ (k < k ∧ u k < 0) by omega)]
      by_cases hn : u k < 0
      · rw [if_pos hn, if_pos ⟨by omega, hn⟩]; omega
      · rw [if_neg hn, if_neg (fun h => hn h.2)]
    · rw [if_pos e]
      have hi : (i < k + 1 ∧ u i < 0) = (i < k ∧ u i < 0) := by apply propext; constructor <;> rintro ⟨a, b⟩ <;> exact ⟨by omega, b⟩
      rw [show (if i < k + 1 ∧ u i < 0 then (1 : Int) else 0) = if i < k ∧ u i < 0 then 1 else 0 by simp only [hi]]
      by_cases hn : u k < 0
      · refine ⟨c + 1, by omega, by push_cast; omega, by rw [if_pos hn]; omega, ?_⟩
        rw [decide_eq_true hn]
        by_cases hc : c % 2 = 1
        · rw [decide_eq_true hc, decide_eq_false (by omega)]; rfl
        · rw [decide_eq_false hc, decide_eq_true (by omega)]; rfl
      · refine ⟨c, h0, by push_cast; omega, by rw [if_neg hn], ?_⟩
        rw [decide_eq_false hn]; simp
/-- the place of p among the ones of a row -/
theorem ones_idx {row : List Int} {p : Nat} (hp : row.getD p 0 = 1) : ∀ d, (onesTo row (p + 1 + d)).getD (onesTo row p).length 0 = (p : Int) ∧ (onesTo row p).length < (onesTo row (p + 1 + d)).length
  | 0 => by
    rw [Nat.add_zero, onesTo_yes hp]
    exact ⟨by simp [List.getD], by simp⟩
  | d + 1 => by
    obtain ⟨h1, h2⟩ := ones_idx hp d
    rw [← Nat.add_assoc]
    by_cases e : row.getD (p + 1 + d) 0 = 1
    · rw [onesTo_yes e]
      refine ⟨?_, by rw [List.length_append]; omega⟩
      rw [← h1]; simp [List.getD, List.getElem?_append_left h2]
    · rw [onesTo_no e]; exact ⟨h1, h2⟩
theorem ones_at {row : List Int} {p n : Nat} (hp : row.getD p 0 = 1) (hn : p < n) : (onesTo row n).getD (onesTo row p).length 0 = (p : Int) ∧ (onesTo row p).length < (onesTo row n).length := by
  have := ones_idx hp (n - (p + 1))
  rwa [show p + 1 + (n - (p + 1)) = n by omega] at this
/-- the pairwise form is the one by the two least values -/
theorem rf_val {row : List Int} {x u : Nat → Int} {p n : Nat} (hp : row.getD p 0 = 1) (hx : ∀ q, q < n → row.getD q 0 = 1 → u (onesTo row q).length = x q) : ∀ k, k ≤ n → rfTo row x p k = valS (minTo u (onesTo row p).length (onesTo row k).length) (parTo u (onesTo row p).length (onesTo row k).length)
  | 0, _ => rfl
  | k + 1, hk => by
    have ih := rf_val hp hx k (by omega)
    rw [rfTo]
    by_cases h : row.getD k 0 = 1
    · rw [onesTo_yes h, List.length_append, List.length_singleton, minTo, parTo]
      by_cases e : k = p
      · subst e
        rw [if_neg (fun hh => hh.1 rfl), if_neg (fun hh => hh rfl), if_neg (fun hh => hh rfl), ih]
      · have hne : (onesTo row k).length ≠ (onesTo row p).length := by
          rcases Nat.lt_or_gt_of_ne e with hlt | hlt
          · have := (ones_at (n := p) h hlt).2; omega
          · have := (ones_at (n := k) hp hlt).2; omega
        rw [if_pos ⟨e, h⟩, if_pos hne, if_pos hne, ih, cmb_val (minTo_bd _ _ _).1, hx k (by omega) h]
    · rw [onesTo_no h, if_neg (fun hh => h hh.2), ih]

/-- the messages behind one more round -/
def nxM (rows : List (List Int)) (n : Nat) (inp : List Int) (F : Nat → Nat → Int) : Nat → Nat → Int :=
  fun j p => rfTo (rows.getD j []) (fun q => sumV (inp.getD q 0) (inTo rows F q j rows.length)) p n
def itM (rows : List (List Int)) (n : Nat) (inp : List Int) : Nat → Nat → Nat → Int
  | 0 => fun _ _ => 0
  | t + 1 => nxM rows n inp (itM rows n inp t)
theorem cmb_bd {r x : Int} (hr : -cer ≤ r ∧ r ≤ cer) : -cer ≤ cmb r x ∧ cmb r x ≤ cer := by
  unfold cmb; split <;> omega
theorem rfTo_bd (row : List Int) (x : Nat → Int) (p : Nat) : ∀ k, -cer ≤ rfTo row x p k ∧ rfTo row x p k ≤ cer
  | 0 => ⟨by show -cer ≤ cer; decide, Int.le_refl _⟩
  | k + 1 => by
    rw [rfTo]; split
    · exact cmb_bd (rfTo_bd row x p k)
    · exact rfTo_bd row x p k
theorem itM_bd (rows : List (List Int)) (n : Nat) (inp : List Int) : ∀ t j p, -cer ≤ itM rows n inp t j p ∧ itM rows n inp t j p ≤ cer
  | 0, _, _ => ⟨by show -cer ≤ 0; decide, by show 0 ≤ cer; decide⟩
  | t + 1, j, p => rfTo_bd _ _ _ _
/-- the program's form of the messages, and the document's -/
def dnL (row : List Int) (n : Nat) (f : Nat → Int) : List Int := (onesTo row n).map fun p => f p.toNat
def dnM (rows : List (List Int)) (n : Nat) (F : Nat → Nat → Int) : List (List Int) := (List.range rows.length).map fun j => dnL (rows.getD j []) n (F j)
def mtL (row : List Int) (n : Nat) (f : Nat → Int) : List Int := rowOf n fun p => if row.getD p 0 = 1 then f p else 0
def mtM (rows : List (List Int)) (n : Nat) (F : Nat → Nat → Int) : List (List Int) := (List.range rows.length).map fun j => mtL (rows.getD j []) n (F j)
theorem dnM_len (rows : List (List Int)) (n : Nat) (F : Nat → Nat → Int) : (dnM rows n F).length = rows.length := by simp [dnM]
theorem dnM_getD {rows : List (List Int)} {n : Nat} {F : Nat → Nat → Int} {j : Nat} (h : j < rows.length) : (dnM rows n F).getD j [] = dnL (rows.getD j []) n (F j) := by simp [dnM, List.getD, h]
theorem mtM_len (rows : List (List Int)) (n : Nat) (F : Nat → Nat → Int) : (mtM rows n F).length = rows.length := by simp [mtM]
theorem mtM_getD {rows : List (List Int)} {n : Nat} {F : Nat → Nat → Int} {j : Nat} (h : j < rows.length) : (mtM rows n F).getD j [] = mtL (rows.getD j []) n (F j) := by simp [mtM, List.getD, h]
theorem dnL_len (row : List Int) (n : Nat) (f : Nat → Int) : (dnL row n f).length = (onesTo row n).length := by simp [dnL]
theorem dnL_at {row : List Int} {n : Nat} {f : Nat → Int} {p : Nat} (hp : row.getD p 0 = 1) (hn : p < n) : (dnL row n f).getD (onesTo row p).length 0 = f p := by
  obtain ⟨h1, h2⟩ := ones_at hp hn
  have : (onesTo row n)[(onesTo row p).length]? = some (p : Int) := by
    rw [List.getElem?_eq_getElem h2]
    simp [List.getD, h2] at h1
    rw [h1]
  simp [dnL, List.getD, this]
theorem dnL_getD {row : List Int} {n : Nat} {f : Nat → Int} {k : Nat} (h : k < (onesTo row n).length) : (dnL row n f).getD k 0 = f ((onesTo row n).getD k 0).toNat := by
  simp [dnL, List.getD, h]
theorem mtL_len (row : List Int) (n : Nat) (f : Nat → Int) : (mtL row n f).length = n := rowOf_len _ _
theorem mtL_getD {row : List Int} {n : Nat} {f : Nat → Int} {p : Nat} (h : p < n) : (mtL row n f).getD p 0 = if row.getD p 0 = 1 then f p else 0 := rowOf_getD h
/-- the beliefs -/
def belL (rows : List (List Int)) (n : Nat) (inp : List Int) (F : Nat → Nat → Int) : List Int := rowOf n fun p => sumV (inp.getD p 0) (inTo rows F p (-1) rows.length)
def decL (l : List Int) : List Int := l.map fun x => if x < 0 then 1 else 0
end Go.Proofs.Ytgabhlalamnbgaa

/- (*graph).sum, messages, beliefs; message.Decide. -/
namespace Go.Proofs.Ytgabhlalamnbgaa
open Go.RowKit
set_option linter.unusedVariables false
set_option maxRecDepth 100000

set_option maxHeartbeats 16000000 in
theorem gsum_any (w : World) (g n p : Nat) (but : Int) (iv dv : Value) (rows : List (List Int)) (inp : List Int) (F : Nat → Nat → Int) (h : GR w g (cksTo rows n rows.length) (atTo rows n rows.length 0)) (hi : SI w iv inp) (hd : SS w dv (dnM rows n F))
    (hF : ∀ j p, -cer ≤ F j p ∧ F j p ≤ cer) (hp : p < n) (hn : n ≤ 256) (hr : rows.length ≤ 256) (hil : inp.length = n) (hib : ∀ k, -1048576 ≤ inp.getD k 0 ∧ inp.getD k 0 ≤ 1048576) :
    Calls Try.prog 78 #[.pointer (some ⟨g, 0, none⟩), iv, dv, .int .i64 (p : Int), .int .i64 but] w (RetI w (sumV (inp.getD p 0) (inTo rows F p but rows.length))) := by
  obtain ⟨cv, gA, h0, h1, hs, he⟩ := h
  rw [atTo_len] at h1
  obtain ⟨EA, ec, es, hc, HES, HEE⟩ := he.elt (p := p) (by rw [atTo_len]; exact hp)
  rw [atTo_getD hp, if_neg (by omega)] at HEE
  have HAT := Lib.hid (fun k => @edges_at rows p rows.length k)
  have hel := edgesTo_len rows p rows.length
  rw [HEE.out] at HAT hel
  have HSC : Hid (msgE F p but es = inTo rows F p but rows.length) := hid' (by show _ = _; rw [← HEE.out, msgE_edges])
  rw [← HSC.out]
  have HFB := Lib.hid (fun k => lsum_bd (msgE_bd hF p but (es.take k)))
  have HFL := Lib.hid (fun k => msgE_len F p but (es.take k))
  have HFF := Lib.hid hF
  obtain ⟨ia, z0, hia, hic, _, HZ0⟩ : ∃ ia x, iv = .slice (some ia) n (match iv with | .slice _ _ c => c | _ => 0) ∧ w.cell? (ia.add p) = some (.int .i64 x) ∧ Hid (I64 x) ∧ Hid (inp.getD p 0 = x) := by
    obtain ⟨A, c, rfl, hia⟩ := hi
    obtain ⟨ad, x, rfl, hc2, hx1, hx2⟩ := hia.elt (k := p) (by omega)
    exact ⟨ad, x, by rw [hil], hc2, hx1, hx2⟩
  obtain ⟨ic, hice⟩ : ∃ ic, ic = (match iv with | .slice _ _ c => c | _ => 0) := ⟨_, rfl⟩
  rw [← hice] at hia
  subst hia
  clear hice
  have hzb := hib p
  rw [HZ0.out] at hzb ⊢
  obtain ⟨DA, dc, rfl, _⟩ := id hd
  rw [dnM_len] at *
  have HD := Lib.hid hd
  have HPN : Hid (∀ j, j < rows.length → (rows.getD j []).getD p 0 = 1 → (dnL (rows.getD j []) n (F j)).getD (onesTo (rows.getD j []) p).length 0 = F j p ∧ (onesTo (rows.getD j []) p).length < (dnL (rows.getD j []) n (F j)).length) := hid' fun j _ h => by
    refine ⟨dnL_at h hp, ?_⟩
    rw [dnL_len]; exact (ones_at h hp).2
  clear he hs h0 hi hd HSC HEE hib hF
  generalize hrr : rows.length = r at *
  have HRR := Lib.hid hrr; clear hrr
  generalize hem : es.length = em at *
  have HEM := Lib.hid hem; clear hem
  go_enter Try.func78, Try.ntmps78
  go_wp2_with fail
  go_loopw [11, 27] (fun s i wr => ∃ k : Nat, k ≤ em ∧ i = .int .i64 (k : Int) ∧ s = .int .i64 (z0 + lsum (msgE F p but (es.take k))) ∧ Hid (cer ∉ msgE F p but (es.take k)) ∧ Hid (Below w.heap.size w wr)) (fun _ i _ => em - (intOf i).toNat)
  case atStart => exact ⟨0, Nat.zero_le _, rfl, by simp [msgE, lsum], hid' (by simp [msgE]), bl_refl _⟩
  case round =>
    obtain ⟨k, hk, rfl, rfl, HNO, HW⟩ := hrel
    have hlb := HFB.out k
    have hll := HFL.out k
    have htl : (es.take k).length ≤ k := List.length_take_le _ _
    by_cases hkl : k < em
    · obtain ⟨ad, x, y, hEA, hc0, hc1, HXY⟩ := HES.out.elt (k := k) (by rw [HEM.out]; exact hkl)
      subst hEA
      obtain ⟨j, hj, hje, hrj⟩ := HAT.out k hkl
      rw [HXY.out] at hje
      have hje1 : x = (j : Int) := congrArg Prod.fst hje
      have hje2 : y = ((onesTo (rows.getD j []) p).length : Int) := congrArg Prod.snd hje
      subst hje1
      have HTK : Hid (es.take (k + 1) = es.take k ++ [((j : Int), y)]) := hid' (by show _ = _; rw [take_snocE es k (by rw [HEM.out]; exact hkl), HXY.out])
      have d0 := cell_below HW.out hc0
      have d1 := cell_below HW.out hc1
      have HBX := Lib.hid (bl_trans HW.out (bl_alloc wr (.cells #[.int .i64 (j : Int), .int .i64 y] 81)))
      have HBK := Lib.hid (Blk.new wr 81 [.int .i64 (j : Int), .int .i64 y])
      have b0 : (wr.alloc (.cells #[.int .i64 (j : Int), .int .i64 y] 81)).cell? ⟨wr.heap.size, 0, none⟩ = some (.int .i64 (j : Int)) := HBK.out.cell 0
      have b1 : (wr.alloc (.cells #[.int .i64 (j : Int), .int .i64 y] 81)).cell? ⟨wr.heap.size, 1, none⟩ = some (.int .i64 y) := HBK.out.cell 1
      by_cases hbut : (j : Int) = but
      · have hbb : ((j : Int) == but) = true := by rw [beq_iff_eq]; exact hbut
        have HS : Hid (msgE F p but (es.take (k + 1)) = msgE F p but (es.take k)) := hid' (by show _ = _; rw [HTK.out, msgE_snoc_no hbut])
        clear hje hje2 hrj hbut hlb hll htl hc0 hc1
        generalize hs : lsum (msgE F p but (es.take k)) = s at *
        have HSS := Lib.hid hs; clear hs
        go_wp2_with fail
        exact ⟨⟨k + 1, by omega, by push_cast; rfl, by rw [HS.out, HSS.out], by rw [HS.out]; exact HNO, HBX⟩, by simp only [intOf]; omega⟩
      · have hbb : ((j : Int) == but) = false := by rw [beq_eq_false_iff_ne]; exact hbut
        have hcs := HPN.out j hj hrj
        obtain ⟨yn, hyn⟩ : ∃ yn, yn = (onesTo (rows.getD j []) p).length := ⟨_, rfl⟩
        rw [← hyn] at hje2 hcs
        subst hje2
        obtain ⟨ra, Ak, ck, row, rfl, hd, HRR2, HRE⟩ := (HD.out.below HW.out (Nat.le_refl _)).eltA (k := j) (by rw [dnM_len, HRR.out]; exact hj)
        have hre := HRE.out
        rw [dnM_getD (by rw [HRR.out]; exact hj)] at hre
        rw [hre] at hcs
        obtain ⟨hcs1, hcs2⟩ := hcs
        obtain ⟨rd, z, rfl, he, _, HZ⟩ := HRR2.out.elt (k := yn) hcs2
        have hzf : z = F j p := by rw [← HZ.out]; exact hcs1
        have hd1 := cell_below (bl_alloc wr (.cells #[.int .i64 (j : Int), .int .i64 (yn : Int)] 81)) hd
        have he1 := cell_below (bl_alloc wr (.cells #[.int .i64 (j : Int), .int .i64 (yn : Int)] 81)) he
        have HS : Hid (msgE F p but (es.take (k + 1)) = msgE F p but (es.take k) ++ [z]) := hid' (by show _ = _; rw [HTK.out, msgE_snoc_yes hbut, hzf]; rfl)
        have hzb2 := HFF.out j p
        rw [← hzf] at hzb2
        clear hcs1 hzf hyn hje hrj hre HRE hc0 hc1 HPN
        by_cases hzc : z = 1099511627776
        · have hzz : (z == 1099511627776) = true := by rw [beq_iff_eq]; exact hzc
          have HV : Hid (sumV z0 (msgE F p but es) = 1099511627776) := hid' (by
            refine sumV_hit (msgE_take_in (k := k + 1) ?_)
            rw [HS.out, hzc]
            exact List.mem_append_right _ (List.mem_singleton.2 rfl))
          clear hlb hll htl hzc hzb2
          go_wp2_with fail
          go_quiet (fail)
          rename_i nq
          go_wp2_with fail
          go_ret
          exact ⟨by rw [HV.out]; rfl, bl_trans HBX.out (bl_drewN _ _)⟩
        · have hzz : (z == 1099511627776) = false := by rw [beq_eq_false_iff_ne]; exact hzc
          have HNO2 : Hid (cer ∉ msgE F p but (es.take (k + 1))) := hid' (by
            rw [HS.out]
            intro h
            rcases List.mem_append.1 h with h | h
            · exact HNO.out h
            · exact hzc (List.mem_singleton.1 h).symm)
          have HLS : Hid (lsum (msgE F p but (es.take (k + 1))) = lsum (msgE F p but (es.take k)) + z) := hid' (by show _ = _; rw [HS.out, lsum_snoc])
          have HWR : Hid (IntKind.i64.wrap (z0 + lsum (msgE F p but (es.take k)) + z) = z0 + lsum (msgE F p but (es.take (k + 1)))) := hid' (by
            show _ = _
            rw [HLS.out, IntWalk.i64_in _ (by unfold cer at *; omega)]; omega)
          have HBQ := Lib.hid (fun q => bl_trans HBX.out (bl_drewN (wr.alloc (.cells #[.int .i64 (j : Int), .int .i64 (yn : Int)] 81)) q))
          clear hlb hll htl hzc hzb2 HS
          have hwr := HWR.out
          generalize z0 + lsum (msgE F p but (es.take k)) = s at *
          generalize hs2 : z0 + lsum (msgE F p but (es.take (k + 1))) = s2 at *
          have HSS := Lib.hid hs2; clear hs2
          go_wp2_with fail
          go_quiet (fail)
          rename_i nq
          go_wp2_with fail
          exact ⟨⟨k + 1, by omega, by push_cast; rfl, by rw [HSS.out], HNO2, HBQ.out _⟩, by simp only [intOf]; omega⟩
    · obtain rfl : em = k := by omega
      have hte : es.take em = es := by rw [← HEM.out]; exact List.take_of_length_le (Nat.le_refl _)
      rw [hte] at HNO hlb hll ⊢
      have HV := Lib.hid (sumV_no (a := z0) HNO.out)
      clear hte htl
      generalize lsum (msgE F p but es) = s at *
      have HCV := Lib.hid (fun x y : Int => @congrArg Int Ending x y fun z => Ending.returned (.int .i64 z))
      go_wp2_with fail
      all_goals
        go_ret
        exact ⟨by rw [HV.out]; unfold clampV; exact HCV.out _ _ (by omega), HW.out⟩
end Go.Proofs.Ytgabhlalamnbgaa

/- Words for rows of the call's own, each in a block of its own. -/
namespace Go.Proofs.Ytgabhlalamnbgaa
open Go.RowKit
set_option linter.unusedVariables false
set_option maxRecDepth 100000

/-- the headers of rows that lie in the blocks gs -/
def hdR (gs : Nat → Nat) (xss : List (List Int)) : List Value := (List.range xss.length).map fun j => .slice (some ⟨gs j, 0, none⟩) (xss.getD j []).length (xss.getD j []).length
theorem hdR_at {gs : Nat → Nat} {xss : List (List Int)} {j : Nat} (h : j < xss.length) : (hdR gs xss)[j]? = some (.slice (some ⟨gs j, 0, none⟩) (xss.getD j []).length (xss.getD j []).length) := by simp [hdR, h]
theorem hdR_len (gs : Nat → Nat) (xss : List (List Int)) : (hdR gs xss).length = xss.length := by simp [hdR]
structure OR (B : Nat) (w : World) (v : Value) (gs : Nat → Nat) (xss : List (List Int)) : Prop where
  own : w.ownsRow B 25 1 v xss.length (hdR gs xss)
  row : ∀ j, j < xss.length → RI w (gs j) (xss.getD j [])
  lo : ∀ j, j < xss.length → B ≤ gs j
  no : ∀ j, j < xss.length → v.ownBlock ≠ some (gs j)
  inj : ∀ i j, i < xss.length → j < xss.length → i ≠ j → gs i ≠ gs j
theorem OR.nil (B : Nat) (w : World) (gs : Nat → Nat) : OR B w (.slice none 0 0) gs [] := ⟨World.ownsRow_nil w B 25 1, fun j h => absurd h (by simp), fun j h => absurd h (by simp), fun j h => absurd h (by simp), fun i j h => absurd h (by simp)⟩
theorem OR.lt {B : Nat} {w : World} {v : Value} {gs : Nat → Nat} {xss : List (List Int)} (h : OR B w v gs xss) {g : Nat} (hg : v.ownBlock = some g) : B ≤ g ∧ g < w.heap.size := World.ownsRow.lt h.own g hg
/-- a block that is none of these has turned -/
theorem OR.grown {B : Nat} {w w' : World} {v : Value} {gs : Nat → Nat} {xss : List (List Int)} {row : Option Nat} (h : OR B w v gs xss) (hg : w.grownBy w' row) (hne : ∀ g, row = some g → v.ownBlock ≠ some g ∧ ∀ j, j < xss.length → gs j ≠ g) : OR B w' v gs xss := by
  refine ⟨World.ownsRow.kept h.own hg ?_, fun j hj => (h.row j hj).grown hg (fun e => (hne _ e.symm).2 j hj rfl), h.lo, h.no, h.inj⟩
  cases row with
  | none => cases hv : v.ownBlock <;> simp
  | some g => exact .inr (hne g rfl).1
theorem OR.below {B : Nat} {w w' : World} {v : Value} {gs : Nat → Nat} {xss : List (List Int)} (h : OR B w v gs xss) (hb : Below w.heap.size w w') : OR B w' v gs xss := h.grown (gr_below hb none) fun g e => by cases e
theorem OR.alloc {B : Nat} {w : World} {v : Value} {gs : Nat → Nat} {xss : List (List Int)} (h : OR B w v gs xss) (o : Obj) : OR B (w.alloc o) v gs xss := h.below (bl_alloc w o)
theorem OR.form {B : Nat} {w : World} {v : Value} {gs : Nat → Nat} {xss : List (List Int)} (h : OR B w v gs xss) : ∃ A c, v = .slice A xss.length c := by
  rcases h.own.2 with ⟨rfl, h0⟩ | ⟨g, cap, cur, rfl, _⟩
  · exact ⟨none, 0, by rw [h0]⟩
  · exact ⟨_, _, rfl⟩
/-- the header of a row, by name -/
theorem OR.hd {B : Nat} {w : World} {A : Option Addr} {n c : Nat} {gs : Nat → Nat} {xss : List (List Int)} (h : OR B w (.slice A n c) gs xss) {j : Nat} (hj : j < xss.length) :
    ∃ gv, A = some ⟨gv, 0, none⟩ ∧ w.cell? ⟨gv, j, none⟩ = some (.slice (some ⟨gs j, 0, none⟩) (xss.getD j []).length (xss.getD j []).length) := by
  rcases h.own.2 with ⟨e, h0⟩ | ⟨g, cap, cur, e, _⟩
  · rw [h0] at hj; exact absurd hj (Nat.not_lt_zero _)
  · have e1 : A = some ⟨g, 0, none⟩ := by injection e
    refine ⟨g, e1, ?_⟩
    have := World.ownsRow.cells h.own (g := g) (by rw [e1]; rfl) j _ (hdR_at hj)
    have e : (⟨g, 0, none⟩ : Addr).add j = ⟨g, j, none⟩ := by
      by_cases hj0 : j = 0
      · subst hj0; rfl
      · simp [Addr.add, hj0]
    rwa [e] at this
theorem getD_setS (l : List (List Int)) (i k : Nat) (x : List Int) (hi : i < l.length) : (l.set i x).getD k [] = if i = k then x else l.getD k [] := by
  by_cases e : i = k
  · subst e; simp [List.getD, List.getElem?_set, hi]
  · simp [List.getD, List.getElem?_set, e]
/-- an entry of a row is written -/
theorem OR.set {B : Nat} {w : World} {v : Value} {gs : Nat → Nat} {xss : List (List Int)} (h : OR B w v gs xss) {i : Nat} (hi : i < xss.length) (k : Nat) (x : Int) :
    OR B (w.setCell ⟨gs i, k, none⟩ (.int .i64 x)) v gs (xss.set i ((xss.getD i []).set k x)) := by
  have hgr : w.grownBy (w.setCell ⟨gs i, k, none⟩ (.int .i64 x)) (some (gs i)) := ⟨rfl, rfl, rfl, by simp [World.setCell], fun j hj hne => Below.heap_setCell w _ _ j fun e => hne (congrArg some e)⟩
  have hl : ∀ j, ((xss.set i ((xss.getD i []).set k x)).getD j []).length = (xss.getD j []).length := fun j => by
    rw [getD_setS _ _ _ _ hi]
    by_cases e : i = j
    · subst e; rw [if_pos rfl, List.length_set]
    · rw [if_neg e]
  have hh : hdR gs (xss.set i ((xss.getD i []).set k x)) = hdR gs xss := by
    unfold hdR
    rw [List.length_set]
    exact List.map_congr_left fun j _ => by rw [hl j]
  refine ⟨?_, fun j hj => ?_, fun j hj => h.lo j (by simpa using hj), fun j hj => h.no j (by simpa using hj), fun a b ha hb => h.inj a b (by simpa using ha) (by simpa using hb)⟩
  · rw [hh, List.length_set]
    refine World.ownsRow.kept h.own hgr (.inr ?_)
    exact h.no i hi
  · rw [List.length_set] at hj
    rw [getD_setS _ _ _ _ hi]
    by_cases e : i = j
    · subst e; rw [if_pos rfl]; exact (h.row i hi).set k x
    · rw [if_neg e]; exact (h.row j hj).far (h.inj j i hj hi (fun e2 => e e2.symm)) _
/-- what is written lies in new memory -/
theorem OR.setBelow {B : Nat} {w0 w : World} {v : Value} {gs : Nat → Nat} {xss : List (List Int)} (h : OR B w v gs xss) (hb : Below B w0 w) {i : Nat} (hi : i < xss.length) (k : Nat) (u : Value) : Below B w0 (w.setCell ⟨gs i, k, none⟩ u) := hb.setCell (h.lo i hi) u
theorem OR.ss {B : Nat} {w : World} {v : Value} {gs : Nat → Nat} {xss : List (List Int)} (h : OR B w v gs xss) (hl : xss.length ≤ 17592186044416) (hr : ∀ j, j < xss.length → (xss.getD j []).length ≤ 17592186044416 ∧ ∀ k, I64 ((xss.getD j []).getD k 0)) : SS w v xss := by
  rcases h.own.2 with ⟨rfl, h0⟩ | ⟨g, cap, cur, rfl, _, _, hn, _, _, _⟩
  · obtain rfl : xss = [] := List.eq_nil_of_length_eq_zero h0
    exact SS.none_ w
  · refine ⟨some ⟨g, 0, none⟩, cap, rfl, hl, hn, fun k hk => ?_⟩
    exact ⟨_, _, rfl, World.ownsRow.cells h.own (g := g) rfl k _ (hdR_at hk), (h.row k hk).si (hr k hk).1 (hr k hk).2⟩
theorem OR.sep {B : Nat} {w : World} {v : Value} {gs : Nat → Nat} {xss : List (List Int)} (h : OR B w v gs xss) : True := trivial
theorem OR.bgrown {B : Nat} {w0 w w' : World} {v : Value} {gs : Nat → Nat} {xss : List (List Int)} (h : OR B w v gs xss) (hb : Below B w0 w) (hB : B ≤ w.heap.size) (hg : w.grownBy w' v.ownBlock) : Below B w0 w' :=
  hb.grown hg hB fun k hk => (h.lt hk).1
theorem OR.mono {B B' : Nat} {w : World} {v : Value} {gs : Nat → Nat} {xss : List (List Int)} (h : OR B w v gs xss) (hB : B' ≤ B) : OR B' w v gs xss := by
  refine ⟨⟨h.own.1, ?_⟩, h.row, fun j hj => Nat.le_trans hB (h.lo j hj), h.no, h.inj⟩
  rcases h.own.2 with hn | ⟨g, cap, cur, rfl, hb, hgg, rest⟩
  · exact .inl hn
  · exact .inr ⟨g, cap, cur, rfl, by omega, hgg, rest⟩

section
variable {ops : Array Oper} {rest : List Oper} {o : Oper} {a : Act} {w : World} {K : Act → World → Prop} {Q : Exit → Act → World → Prop} {E : Prop}
/-- 'out = append(out, row)', the row in a block of its own -/
theorem wp_pushR (s x : Operand)
    (ho : o.op = .call { callee := .builtin .append, args := #[s, x], argTypes := #[22, 22] })
    (B : Nat) (v : Value) (gs : Nat → Nat) (xss : List (List Int)) (hs : a.eval s = v) (hown : OR B w v gs xss) (g c gy : Nat) (ys : List Int) (hx : a.eval x = .slice (some ⟨g, 0, none⟩) 1 c) (hc : w.cell? ⟨g, 0, none⟩ = some (.slice (some ⟨gy, 0, none⟩) ys.length ys.length))
    (hy : RI w gy ys) (hyB : B ≤ gy) (hyo : v.ownBlock ≠ some gy) (hyn : ∀ j, j < xss.length → gs j ≠ gy)
    (hl : xss.length + 1 ≤ 4398046511104) (hB : B ≤ w.heap.size)
    (h : ∀ v' w', OR B w' v' (fun j => if j = xss.length then gy else gs j) (xss ++ [ys]) → w.grownBy w' v.ownBlock → (v'.ownBlock = v.ownBlock ∨ v'.ownBlock = some w.heap.size) → K (a.put o.dst v') w') : o.wp Try.prog a w K Q := by
  obtain ⟨i0, hi, hz0, hz1, hz2⟩ := info_parts Try.infoInts
  obtain ⟨v', w', hrun, h1, h2, _, h4⟩ := run_append_own_at (P := Try.prog) w B 22 o.type 25 i0 (.slice none 0 0) 1 24 Try.underlying22 hi hz0 hz1 hz2 rfl (by decide) v xss.length _ hown.own
    ⟨g, 0, none⟩ 1 c [.slice (some ⟨gy, 0, none⟩) ys.length ys.length] rfl (by
      intro j y hj
      match j, hj with
      | 0, hj => simp at hj; subst hj; simpa [Addr.add] using hc) (by intro y hy; simp at hy; subst hy; rfl) (by unfold maxLen; omega) (by omega) hB
  unfold Oper.wp execOp
  simp only [ho, resolve, invoke, builtin, Sem.run_bind, Sem.run_pure, Result.andThen_ok, List.map_toArray, List.map_cons, List.map_nil, hs, hx, hrun]
  have hold : ∀ j, j < xss.length → (xss ++ [ys]).getD j [] = xss.getD j [] := fun j hj => by simp [List.getD, List.getElem?_append_left hj]
  have hnew : (xss ++ [ys]).getD xss.length [] = ys := by simp [List.getD]
  have hno : ∀ j, j < xss.length → v'.ownBlock ≠ some (gs j) := fun j hj => by
    rcases h4 with h4 | h4
    · rw [h4]; exact hown.no j hj
    · rw [h4]; intro e; have := (hown.row j hj).lt; injection e with e; omega
  have hnoy : v'.ownBlock ≠ some gy := by
    rcases h4 with h4 | h4
    · rw [h4]; exact hyo
    · rw [h4]; intro e; have := hy.lt; injection e with e; omega
  refine h v' w' ⟨?_, fun j hj => ?_, fun j hj => ?_, fun j hj => ?_, fun i j hi hj hne => ?_⟩ h2 h4
  · have e : hdR (fun j => if j = xss.length then gy else gs j) (xss ++ [ys]) = hdR gs xss ++ [.slice (some ⟨gy, 0, none⟩) ys.length ys.length] := by
      unfold hdR
      rw [List.length_append, List.length_singleton, List.range_succ, List.map_append]
      congr 1
      · refine List.map_congr_left fun j hj => ?_
        rw [List.mem_range] at hj
        show Value.slice (some ⟨if j = xss.length then gy else gs j, 0, none⟩) ((xss ++ [ys]).getD j []).length ((xss ++ [ys]).getD j []).length = _
        rw [hold j hj, if_neg (show ¬ j = xss.length by omega)]
      · show [Value.slice (some ⟨if xss.length = xss.length then gy else gs xss.length, 0, none⟩) ((xss ++ [ys]).getD xss.length []).length ((xss ++ [ys]).getD xss.length []).length] = _
        rw [hnew, if_pos rfl]
    rw [e]
    simpa using h1
  · rw [List.length_append, List.length_singleton] at hj
    by_cases e : j = xss.length
    · subst e
      rw [if_pos rfl, hnew]
      exact hy.grown h2 (fun e => hyo e.symm)
    · rw [if_neg e, hold j (by omega)]
      exact (hown.row j (by omega)).grown h2 (fun e => hown.no j (by omega) e.symm)
  · rw [List.length_append, List.length_singleton] at hj
    by_cases e : j = xss.length
    · rw [if_pos e]; exact hyB
    · rw [if_neg e]; exact hown.lo j (by omega)
  · rw [List.length_append, List.length_singleton] at hj
    by_cases e : j = xss.length
    · rw [if_pos e]; exact hnoy
    · rw [if_neg e]; exact hno j (by omega)
  · rw [List.length_append, List.length_singleton] at hi hj
    by_cases e1 : i = xss.length
    · rw [if_pos e1, if_neg (by omega)]; exact fun e => hyn j (by omega) e.symm
    · by_cases e2 : j = xss.length
      · rw [if_neg e1, if_pos e2]; exact hyn i (by omega)
      · rw [if_neg e1, if_neg e2]; exact hown.inj i j (by omega) (by omega) hne
theorem wpList_pushR (hg : o.guard = none) (s x : Operand)
    (ho : o.op = .call { callee := .builtin .append, args := #[s, x], argTypes := #[22, 22] })
    (B : Nat) (v : Value) (gs : Nat → Nat) (xss : List (List Int)) (hs : a.eval s = v) (hown : OR B w v gs xss) (g c gy : Nat) (ys : List Int) (hx : a.eval x = .slice (some ⟨g, 0, none⟩) 1 c) (hc : w.cell? ⟨g, 0, none⟩ = some (.slice (some ⟨gy, 0, none⟩) ys.length ys.length))
    (hy : RI w gy ys) (hyB : B ≤ gy) (hyo : v.ownBlock ≠ some gy) (hyn : ∀ j, j < xss.length → gs j ≠ gy)
    (hl : xss.length + 1 ≤ 4398046511104) (hB : B ≤ w.heap.size)
    (h : ∀ v' w', OR B w' v' (fun j => if j = xss.length then gy else gs j) (xss ++ [ys]) → w.grownBy w' v.ownBlock → (v'.ownBlock = v.ownBlock ∨ v'.ownBlock = some w.heap.size) → wpList Try.prog ops Q rest (a.put o.dst v') w') : wpList Try.prog ops Q (o :: rest) a w :=
  wpList_plain hg fun K hK => wp_pushR s x ho B v gs xss hs hown g c gy ys hx hc hy hyB hyo hyn hl hB fun v' w' h1 h2 h3 => hK _ _ (h v' w' h1 h2 h3)
end
end Go.Proofs.Ytgabhlalamnbgaa

/- (*graph).messages, beliefs; both Decide. -/
namespace Go.Proofs.Ytgabhlalamnbgaa
open Go.RowKit
set_option linter.unusedVariables false
set_option maxRecDepth 100000

structure BI (n : Nat) (rows : List (List Int)) (inp : List Int) : Prop where
  nn : n ≤ 256
  rl : rows.length ≤ 256
  br : BitRows n rows
  il : inp.length = n
  ib : ∀ k, -1048576 ≤ inp.getD k 0 ∧ inp.getD k 0 ≤ 1048576
def zdM (rows : List (List Int)) (n : Nat) (k : Nat) : List (List Int) := (List.range k).map fun j => List.replicate (onesTo (rows.getD j []) n).length 0
theorem zdM_len (rows : List (List Int)) (n k : Nat) : (zdM rows n k).length = k := by simp [zdM]
theorem zdM_succ (rows : List (List Int)) (n k : Nat) : zdM rows n (k + 1) = zdM rows n k ++ [List.replicate (onesTo (rows.getD k []) n).length 0] := by unfold zdM; rw [List.range_succ, List.map_append]; rfl
theorem zdM_full (rows : List (List Int)) (n : Nat) : zdM rows n rows.length = dnM rows n (fun _ _ => 0) := List.map_congr_left fun j _ => by
  unfold dnL; rw [List.map_const']
def RetR (w : World) (xss : List (List Int)) (e : Ending) (w' : World) : Prop := ∃ u gs, e = .returned u ∧ OR w.heap.size w' u gs xss ∧ Below w.heap.size w w'

set_option maxHeartbeats 16000000 in
theorem gmsg_any (w : World) (g n : Nat) (rows : List (List Int)) (h : GR w g (cksTo rows n rows.length) (atTo rows n rows.length 0)) (hn : n ≤ 256) (hr : rows.length ≤ 256) :
    Calls Try.prog 58 #[.pointer (some ⟨g, 0, none⟩)] w (RetR w (dnM rows n (fun _ _ => 0))) := by
  obtain ⟨cv, gA, h0, h1, hs, he⟩ := h
  have HZF := Lib.hid (zdM_full rows n)
  have HSS := Lib.hid hs
  obtain ⟨CA, cc, rfl, _⟩ := hs
  rw [cksTo_len] at *
  generalize hrr : rows.length = r at *
  clear he h1
  have HO0 : Hid (OR w.heap.size w (.slice none 0 0) (fun _ => 0) (zdM rows n 0)) := hid' (OR.nil _ _ _)
  go_enter Try.func58, Try.ntmps58
  go_wp2_with fail
  go_loopw [3, 11] (fun u i wr => ∃ (k : Nat) (OA : Option Addr) (oc : Nat) (gs : Nat → Nat), k ≤ r ∧ i = .int .i64 (k : Int) ∧ u = .slice OA k oc ∧ Hid (OR w.heap.size wr (.slice OA k oc) gs (zdM rows n k)) ∧ Hid (Below w.heap.size w wr)) (fun _ i _ => r - (intOf i).toNat)
  case atStart => exact ⟨0, none, 0, _, Nat.zero_le _, rfl, rfl, HO0, bl_refl _⟩
  case round =>
    clear HO0
    obtain ⟨k, OA, oc, gs, hk, rfl, rfl, HO, HB⟩ := hrel
    by_cases hkr : k < r
    · obtain ⟨ra, Ak, ck, row, rfl, hd, HRR, HRE⟩ := (HSS.out.below HB.out (Nat.le_refl _)).eltA (k := k) (by rw [cksTo_len]; exact hkr)
      have hre := HRE.out
      rw [cksTo_getD hkr] at hre
      have hL := onesTo_len (rows.getD k []) n
      rw [hre] at hL
      have HNX : Hid (zdM rows n (k + 1) = zdM rows n k ++ [List.replicate row.length 0]) := hid' (by show _ = _; rw [zdM_succ, hre])
      have HZL := Lib.hid (zdM_len rows n k)
      clear hre HRE HRR
      generalize row.length = L at *
      have hmk := fun (w : World) => run_mkI L (by omega) w
      have HX := Lib.hid (RI.made wr L)
      have hsz := HB.out.size
      have HOa := Lib.hid ((HO.out.alloc (.cells (madeCells #[.int .i64 0] L) 3)))
      have HBa := Lib.hid (HB.out.alloc hsz (.cells (madeCells #[.int .i64 0] L) 3))
      have hda := cell_below (bl_alloc wr (.cells (madeCells #[.int .i64 0] L) 3)) hd
      have hs1 : (wr.alloc (.cells (madeCells #[.int .i64 0] L) 3)).heap.size = wr.heap.size + 1 := World.size_alloc _ _
      have HNO : Hid ((Value.slice OA k oc).ownBlock ≠ some wr.heap.size) := hid' fun e => by have := (HO.out.lt e).2; omega
      have HNJ : Hid (∀ j, j < (zdM rows n k).length → gs j ≠ wr.heap.size) := hid' fun j hj e => by have := (HO.out.row j hj).lt; omega
      have HGX : Hid (w.heap.size ≤ wr.heap.size) := hid' hsz
      have hbx := box1 (w := wr.alloc (.cells (madeCells #[.int .i64 0] L) 3)) (u := .slice (some ⟨wr.heap.size, 0, none⟩) L L) (t := 25)
      rw [hs1] at hbx
      have HBX := Lib.hid hbx
      have HOb := Lib.hid (HOa.out.alloc (.cells #[.slice (some ⟨wr.heap.size, 0, none⟩) L L] 25))
      have HXb := Lib.hid (HX.out.alloc (.cells #[.slice (some ⟨wr.heap.size, 0, none⟩) L L] 25))
      have HBb := Lib.hid (HBa.out.alloc HBa.out.size (.cells #[.slice (some ⟨wr.heap.size, 0, none⟩) L L] 25))
      have HUP := Lib.hid (up_alloc (B := w.heap.size) HBa.out.size (.cells #[.slice (some ⟨wr.heap.size, 0, none⟩) L L] 25))
      clear hsz HO HB hs1 hbx HOa HX HBa
      go_wp2_with (at_builtin; refine wpList_pushR rfl _ _ rfl w.heap.size _ gs (zdM rows n k) rfl HOb.out (wr.heap.size + 1) 1 wr.heap.size (List.replicate L 0) rfl (by rw [List.length_replicate]; exact HBX.out) HXb.out HGX.out HNO.out HNJ.out (by rw [HZL.out]; omega) HUP.out ?_; (intro v5 w5 ho5 hg5 hv5); go_must (have HB5 := Lib.hid (HOb.out.bgrown HBb.out HUP.out hg5); rw [← HNX.out] at ho5; obtain ⟨A5, c5, rfl⟩ := ho5.form; rw [zdM_len] at ho5 ⊢; have HO5 := Lib.hid ho5; clear ho5 hg5 hv5))
      exact ⟨⟨k + 1, A5, c5, _, by omega, by push_cast; rfl, rfl, HO5, HB5⟩, by simp only [intOf]; omega⟩
    · obtain rfl : k = r := by omega
      rw [HZF.out] at HO
      go_wp2_with fail
      go_ret
      exact ⟨_, gs, rfl, HO.out, HB.out⟩

set_option maxHeartbeats 16000000 in
theorem gbel_any (w : World) (g n : Nat) (iv dv : Value) (rows : List (List Int)) (inp : List Int) (F : Nat → Nat → Int) (h : GR w g (cksTo rows n rows.length) (atTo rows n rows.length 0)) (hi : SI w iv inp) (hd : SS w dv (dnM rows n F))
    (hF : ∀ j p, -cer ≤ F j p ∧ F j p ≤ cer) (hb : BI n rows inp) :
    Calls Try.prog 60 #[.pointer (some ⟨g, 0, none⟩), iv, dv] w (RetO w (belL rows n inp F)) := by
  have HCL := Lib.hid (fun w' (hw : Below w.heap.size w w') p (hp : p < n) => gsum_any w' g n p (-1) iv dv rows inp F (h.below hw (Nat.le_refl _)) (hi.below hw (Nat.le_refl _)) (hd.below hw (Nat.le_refl _)) hF hp hb.nn hb.rl hb.il hb.ib)
  have hnn := hb.nn
  obtain ⟨IA, ic, rfl, _⟩ := hi
  rw [hb.il] at *
  obtain ⟨DA, dc, rfl, _⟩ := hd
  rw [dnM_len] at *
  have HBE : Hid (belL rows n inp F = rowOf n fun p => sumV (inp.getD p 0) (inTo rows F p (-1) rows.length)) := rfl
  clear h hF hb
  generalize rows.length = r at *
  have hmk := fun (w : World) => run_mkI n (by omega) w
  have HX := Lib.hid (RI.made w n)
  have HBa := Lib.hid (bl_alloc w (.cells (madeCells #[.int .i64 0] n) 3))
  go_enter Try.func60, Try.ntmps60
  go_wp2_with fail
  clear hmk
  generalize w.alloc (.cells (madeCells #[.int .i64 0] n) 3) = w0 at *
  go_loopw [14] (fun i wr => ∃ k : Nat, k ≤ n ∧ i = .int .i64 (k : Int) ∧ Hid (RI wr w.heap.size (fillTo n (fun p => sumV (inp.getD p 0) (inTo rows F p (-1) r)) (fun _ => 0) k)) ∧ Hid (Below w.heap.size w wr)) (fun i _ => n - (intOf i).toNat)
  case atStart => exact ⟨0, Nat.zero_le _, rfl, by rw [fillTo_zero, rowOf_zero]; exact HX, HBa⟩
  case round =>
    clear HX HBa
    obtain ⟨k, hk, rfl, HX, HB⟩ := hrel
    by_cases hkn : k < n
    · have HFS := Lib.hid (fillTo_set (f := fun p => sumV (inp.getD p 0) (inTo rows F p (-1) r)) (g := fun _ => 0) hkn)
      go_wp2_with fail
      refine (HCL.out _ HB.out k hkn).mono ?_
      rintro e w1 ⟨rfl, hb1⟩
      have HX1 := Lib.hid (HX.out.belowS hb1)
      have HB1 := Lib.hid (bl_trans HB.out hb1)
      have d1 := HX1.out.cell k (by rw [fillTo_len]; exact hkn)
      rw [fillTo_getD hkn] at d1
      have f1 := HX1.out.frozen k
      have HX2 := Lib.hid (HX1.out.set k (sumV (inp.getD k 0) (inTo rows F k (-1) r)))
      rw [HFS.out] at HX2
      have HB2 := Lib.hid (HB1.out.setCell (p := ⟨w.heap.size, k, none⟩) (Nat.le_refl _) (.int .i64 (sumV (inp.getD k 0) (inTo rows F k (-1) r))))
      clear hb1 HX HB
      generalize sumV (inp.getD k 0) (inTo rows F k (-1) r) = s at *
      go_wp2_with fail
      exact ⟨⟨k + 1, by omega, by push_cast; rfl, HX2, HB2⟩, by simp only [intOf]; omega⟩
    · obtain rfl : n = k := by omega
      rw [fillTo_full, ← HBE.out] at HX
      have HL : Hid ((belL rows n inp F).length = n) := by show _ = _; unfold belL; rw [rowOf_len]
      go_wp2_with fail
      go_ret
      have := HX.out.oi (B := w.heap.size) (Nat.le_refl _) (by rw [HL.out]; omega)
      rw [HL.out] at this
      exact ⟨_, rfl, this, HB.out⟩

theorem decL_fill (l : List Int) : decL l = rowOf l.length fun p => if l.getD p 0 < 0 then 1 else 0 := by
  refine List.ext_getElem (by simp [decL, rowOf]) fun i h1 h2 => ?_
  have h3 : i < l.length := by simpa [decL] using h1
  simp [decL, rowOf, List.getD, h3]
set_option maxHeartbeats 8000000 in
theorem mdec_any (w : World) (v : Value) (l : List Int) (hv : SI w v l) : Calls Try.prog 38 #[v] w (RetO w (decL l)) := by
  obtain ⟨A, c, rfl, hl⟩ := hv
  have hn := hl.len
  have HL := Lib.hid hl.si; clear hl
  have HDE := Lib.hid (decL_fill l)
  generalize hm : l.length = m at *
  have HM := Lib.hid hm; clear hm
  have hmk := fun (w : World) => run_mkI m (by omega) w
  have HX := Lib.hid (RI.made w m)
  have HBa := Lib.hid (bl_alloc w (.cells (madeCells #[.int .i64 0] m) 3))
  go_enter Try.func38, Try.ntmps38
  go_wp2_with fail
  clear hmk
  generalize w.alloc (.cells (madeCells #[.int .i64 0] m) 3) = w0 at *
  go_loopw [11] (fun i wr => ∃ k : Nat, k ≤ m ∧ i = .int .i64 (k : Int) ∧ Hid (RI wr w.heap.size (fillTo m (fun p => if l.getD p 0 < 0 then 1 else 0) (fun _ => 0) k)) ∧ Hid (Below w.heap.size w wr)) (fun i _ => m - (intOf i).toNat)
  case atStart => exact ⟨0, Nat.zero_le _, rfl, by rw [fillTo_zero, rowOf_zero]; exact HX, HBa⟩
  case round =>
    clear HX HBa
    obtain ⟨k, hk, rfl, HX, HB⟩ := hrel
    by_cases hkm : k < m
    · obtain ⟨ad, x, rfl, hc, _, HXE⟩ := (HL.out.below HB.out (Nat.le_refl _)).elt (k := k) (by rw [HM.out]; exact hkm)
      by_cases hx : x < 0
      · have hd : decide (x < 0) = true := decide_eq_true hx
        have HFS : Hid ((fillTo m (fun p => if l.getD p 0 < 0 then 1 else 0) (fun _ => 0) k).set k 1 = fillTo m (fun p => if l.getD p 0 < 0 then 1 else 0) (fun _ => 0) (k + 1)) := hid' (by
          show _ = _
          rw [← fillTo_set hkm, HXE.out, if_pos hx])
        have d1 := HX.out.cell k (by rw [fillTo_len]; exact hkm)
        have f1 := HX.out.frozen k
        have HX2 := Lib.hid (HX.out.set k 1)
        rw [HFS.out] at HX2
        have HB2 := Lib.hid (HB.out.setCell (p := ⟨w.heap.size, k, none⟩) (Nat.le_refl _) (.int .i64 1))
        generalize (fillTo m (fun p => if l.getD p 0 < 0 then 1 else 0) (fun _ => 0) k).getD k 0 = y at *
        clear HFS hx
        go_wp2_with fail
        exact ⟨⟨k + 1, by omega, by push_cast; rfl, HX2, HB2⟩, by simp only [intOf]; omega⟩
      · have hd : decide (x < 0) = false := decide_eq_false hx
        have HFS := Lib.hid (fillTo_stay (N := m) (f := fun p => if l.getD p 0 < 0 then (1 : Int) else 0) (g := fun _ => 0) (k := k) (fun _ => by rw [HXE.out, if_neg hx]))
        clear hx
        go_wp2_with fail
        exact ⟨⟨k + 1, by omega, by push_cast; rfl, by rw [HFS.out]; exact HX, HB⟩, by simp only [intOf]; omega⟩
    · obtain rfl : m = k := by omega
      rw [fillTo_full, ← HDE.out] at HX
      have HLN : Hid ((decL l).length = m) := by show _ = _; unfold decL; rw [List.length_map, HM.out]
      go_wp2_with fail
      go_ret
      have := HX.out.oi (B := w.heap.size) (Nat.le_refl _) (by rw [HLN.out]; omega)
      rw [HLN.out] at this
      exact ⟨_, rfl, this, HB.out⟩
set_option maxHeartbeats 8000000 in
theorem rdec_any (w : World) (v : Value) (l : List Int) (hv : SI w v l) : Calls Try.prog 39 #[v] w (RetO w (decL l)) := by
  obtain ⟨A, c, rfl, hl⟩ := hv
  have hn := hl.len
  have HL := Lib.hid hl.si; clear hl
  have HDE := Lib.hid (decL_fill l)
  generalize hm : l.length = m at *
  have HM := Lib.hid hm; clear hm
  have hmk := fun (w : World) => run_mkI m (by omega) w
  have HX := Lib.hid (RI.made w m)
  have HBa := Lib.hid (bl_alloc w (.cells (madeCells #[.int .i64 0] m) 3))
  go_enter Try.func39, Try.ntmps39
  go_wp2_with fail
  clear hmk
  generalize w.alloc (.cells (madeCells #[.int .i64 0] m) 3) = w0 at *
  go_loopw [4] (fun i wr => ∃ k : Nat, k ≤ m ∧ i = .int .i64 (k : Int) ∧ Hid (RI wr w.heap.size (fillTo m (fun p => if l.getD p 0 < 0 then 1 else 0) (fun _ => 0) k)) ∧ Hid (Below w.heap.size w wr)) (fun i _ => m - (intOf i).toNat)
  case atStart => exact ⟨0, Nat.zero_le _, rfl, by rw [fillTo_zero, rowOf_zero]; exact HX, HBa⟩
  case round =>
    clear HX HBa
    obtain ⟨k, hk, rfl, HX, HB⟩ := hrel
    by_cases hkm : k < m
    · obtain ⟨ad, x, rfl, hc, _, HXE⟩ := (HL.out.below HB.out (Nat.le_refl _)).elt (k := k) (by rw [HM.out]; exact hkm)
      by_cases hx : x < 0
      · have hd : decide (x < 0) = true := decide_eq_true hx
        have HFS : Hid ((fillTo m (fun p => if l.getD p 0 < 0 then 1 else 0) (fun _ => 0) k).set k 1 = fillTo m (fun p => if l.getD p 0 < 0 then 1 else 0) (fun _ => 0) (k + 1)) := hid' (by
          show _ = _
          rw [← fillTo_set hkm, HXE.out, if_pos hx])
        have d1 := HX.out.cell k (by rw [fillTo_len]; exact hkm)
        have f1 := HX.out.frozen k
        have HX2 := Lib.hid (HX.out.set k 1)
        rw [HFS.out] at HX2
        have HB2 := Lib.hid (HB.out.setCell (p := ⟨w.heap.size, k, none⟩) (Nat.le_refl _) (.int .i64 1))
        generalize (fillTo m (fun p => if l.getD p 0 < 0 then 1 else 0) (fun _ => 0) k).getD k 0 = y at *
        clear HFS hx
        go_wp2_with fail
        exact ⟨⟨k + 1, by omega, by push_cast; rfl, HX2, HB2⟩, by simp only [intOf]; omega⟩
      · have hd : decide (x < 0) = false := decide_eq_false hx
        have HFS := Lib.hid (fillTo_stay (N := m) (f := fun p => if l.getD p 0 < 0 then (1 : Int) else 0) (g := fun _ => 0) (k := k) (fun _ => by rw [HXE.out, if_neg hx]))
        clear hx
        go_wp2_with fail
        exact ⟨⟨k + 1, by omega, by push_cast; rfl, by rw [HFS.out]; exact HX, HB⟩, by simp only [intOf]; omega⟩
    · obtain rfl : m = k := by omega
      rw [fillTo_full, ← HDE.out] at HX
      have HLN : Hid ((decL l).length = m) := by show _ = _; unfold decL; rw [List.length_map, HM.out]
      go_wp2_with fail
      go_ret
      have := HX.out.oi (B := w.heap.size) (Nat.le_refl _) (by rw [HLN.out]; omega)
      rw [HLN.out] at this
      exact ⟨_, rfl, this, HB.out⟩
end Go.Proofs.Ytgabhlalamnbgaa

/- ref45: sum, into, Args; message.inputs. -/
namespace Go.Proofs.Ytgabhlalamnbgaa
open Go.RowKit
set_option linter.unusedVariables false
set_option maxRecDepth 100000

theorem lsum_take {l : List Int} {k : Nat} (h : k < l.length) : lsum (l.take (k + 1)) = lsum (l.take k) + l.getD k 0 := by
  rw [take_snoc l k h, lsum_snoc]
set_option maxHeartbeats 8000000 in
theorem rsum_any (w : World) (v : Value) (l : List Int) (hv : SI w v l) (hl : l.length ≤ 300) (hb : ∀ x, x ∈ l → -cer ≤ x ∧ x ≤ cer) :
    Calls Try.prog 63 #[v] w (RetI w (sumV 0 l)) := by
  obtain ⟨A, c, rfl, hl2⟩ := hv
  have HL := Lib.hid hl2.si; clear hl2
  have HBD := Lib.hid (fun k => lsum_bd (l := l.take k) fun x hx => hb x (List.mem_of_mem_take hx))
  have HIN : Hid (∀ k, k < l.length → l.getD k 0 ∈ l) := hid' fun k hk => by simp [List.getD, hk]
  have HXB := Lib.hid hb
  have HTK := Lib.hid (fun k hk => @lsum_take l k hk)
  have HTS := Lib.hid (fun k hk => take_snoc l k hk)
  have HTL := Lib.hid (fun k => List.length_take_le k l)
  have HTF : Hid (l.take l.length = l) := hid' (List.take_of_length_le (Nat.le_refl _))
  clear hb
  generalize hm : l.length = m at *
  have HM := Lib.hid hm; clear hm
  go_enter Try.func63, Try.ntmps63
  go_wp2_with fail
  go_loop [3, 4] (fun s i => ∃ k : Nat, k ≤ m ∧ i = .int .i64 (k : Int) ∧ s = .int .i64 (lsum (l.take k)) ∧ Hid (cer ∉ l.take k)) (fun _ i => m - (intOf i).toNat)
  case atStart => exact ⟨0, Nat.zero_le _, rfl, rfl, hid' (by simp)⟩
  case round =>
    obtain ⟨k, hk, rfl, rfl, HNO⟩ := hrel
    have hbd := HBD.out k
    have htl := HTL.out k
    by_cases hkm : k < m
    · obtain ⟨ad, x, rfl, hc, _, HX⟩ := HL.out.elt (k := k) (by rw [HM.out]; exact hkm)
      have hxb := HXB.out _ (HIN.out k hkm)
      rw [HX.out] at hxb
      by_cases hxc : x = 1099511627776
      · have hzz : (x == 1099511627776) = true := by rw [beq_iff_eq]; exact hxc
        have HV : Hid (sumV 0 l = 1099511627776) := hid' (sumV_hit (by
          have := HIN.out k hkm
          rw [HX.out, hxc] at this
          exact this))
        clear hbd htl hxb hxc
        go_wp2_with fail
        go_ret
        exact ⟨by rw [HV.out]; rfl, bl_refl _⟩
      · have hzz : (x == 1099511627776) = false := by rw [beq_eq_false_iff_ne]; exact hxc
        have HNO2 : Hid (cer ∉ l.take (k + 1)) := hid' (by
          rw [HTS.out k hkm, HX.out]
          intro h
          rcases List.mem_append.1 h with h | h
          · exact HNO.out h
          · exact hxc (List.mem_singleton.1 h).symm)
        have HWR : Hid (IntKind.i64.wrap (lsum (l.take k) + x) = lsum (l.take (k + 1))) := hid' (by
          show _ = _
          rw [HTK.out k hkm, HX.out, IntWalk.i64_in _ (by unfold cer at *; omega)])
        clear hbd htl hxb hxc
        have hwr := HWR.out
        generalize lsum (l.take k) = s at *
        generalize hs2 : lsum (l.take (k + 1)) = s2 at *
        have HSS := Lib.hid hs2; clear hs2
        go_wp2_with fail
        exact ⟨⟨k + 1, by omega, by push_cast; rfl, by rw [HSS.out], HNO2⟩, by simp only [intOf]; omega⟩
    · obtain rfl : k = m := by omega
      rw [HTF.out] at HNO hbd ⊢
      have HV := Lib.hid (sumV_no (a := 0) HNO.out)
      clear htl hbd
      have HCV := Lib.hid (fun x y : Int => @congrArg Int Ending x y fun z => Ending.returned (.int .i64 z))
      generalize lsum l = s at *
      go_wp2_with fail
      all_goals
        go_ret
        exact ⟨by rw [HV.out]; unfold clampV; exact HCV.out _ _ (by omega), bl_refl _⟩

set_option maxHeartbeats 16000000 in
theorem rinto_any (w : World) (n p : Nat) (but : Int) (rv iv fv : Value) (rows fm : List (List Int)) (inp : List Int) (F : Nat → Nat → Int) (hv : SS w rv rows) (hi : SI w iv inp) (hf : SS w fv fm) (hb : BI n rows inp) (hp : p < n)
    (hfl : fm.length = rows.length) (hfr : ∀ j, j < rows.length → (fm.getD j []).length = n ∧ ((rows.getD j []).getD p 0 = 1 → (fm.getD j []).getD p 0 = F j p)) :
    Calls Try.prog 64 #[.agg #[.int .i64 (n : Int), rv], iv, fv, .int .i64 (p : Int), .int .i64 but] w (RetO w (inp.getD p 0 :: inTo rows F p but rows.length)) := by
  have HV := Lib.hid hv; have HI := Lib.hid hi; have HFM := Lib.hid hf; have HFR := Lib.hid hfr; have HBR := Lib.hid hb.br
  have hrl := hb.rl; have hnn := hb.nn
  have HIL := Lib.hid hb.il
  clear hv hi hf hfr hb
  obtain ⟨RA, rc, rfl, _⟩ := HV.out
  obtain ⟨IA, ic, rfl, _⟩ := HI.out
  rw [HIL.out] at HI ⊢
  obtain ⟨FA, fc, rfl, _⟩ := HFM.out
  rw [hfl] at HFM ⊢
  have HFL := Lib.hid hfl; clear hfl
  have HB0 := Lib.hid (MBox.mk' w n (.slice RA rows.length rc))
  have HIN := Lib.hid (fun k => inTo_len rows F p but k)
  generalize hr : rows.length = r at *
  have HR := Lib.hid hr; clear hr
  obtain ⟨ia, z0, rfl, hic, _, HZ0⟩ := HI.out.elt (k := p) (by rw [HIL.out]; exact hp)
  rw [HZ0.out]
  have hic1 := cell_below HB0.out.bel hic
  have hs1 : (w.alloc (.cells #[.int .i64 (n : Int), .slice RA r rc] 24)).heap.size = w.heap.size + 1 := World.size_alloc _ _
  have hx0 := OI.lit (B := w.heap.size + 1) (w.alloc (.cells #[.int .i64 (n : Int), .slice RA r rc] 24)) [z0] (by rw [hs1]; exact Nat.le_refl _) (by simp)
  rw [hs1] at hx0
  have HX0 := Lib.hid hx0
  have HB1 := Lib.hid (HB0.out.on (bl_alloc _ (.cells #[.int .i64 z0] 3)))
  clear hx0 hs1 hic HB0
  go_enter Try.func64, Try.ntmps64
  go_wp2_with fail
  clear hic1
  go_loopw [11, 12] (fun u i wr => ∃ (k L : Nat) (UA : Option Addr) (uc : Nat), k ≤ r ∧ i = .int .i64 (k : Int) ∧ u = .slice UA L uc ∧ Hid ((z0 :: inTo rows F p but k).length = L) ∧ Hid (OI (w.heap.size + 1) wr (.slice UA L uc) (z0 :: inTo rows F p but k)) ∧ Hid (MBox w wr n (.slice RA r rc))) (fun _ i _ => r - (intOf i).toNat)
  case atStart => exact ⟨0, 1, _, _, Nat.zero_le _, rfl, rfl, rfl, HX0, HB1⟩
  case round =>
    clear HX0 HB1
    obtain ⟨k, L, UA, uc, hk, rfl, rfl, HLE, HX, HM⟩ := hrel
    have d0 := HM.out.d0; have d1 := HM.out.d1
    by_cases hkr : k < r
    · by_cases hbut : (k : Int) = but
      · have hbb : ((k : Int) != but) = false := by rw [bne_eq_false_iff_eq]; exact hbut
        have HNX : Hid (inTo rows F p but (k + 1) = inTo rows F p but k) := hid' (by show _ = _; rw [inTo, if_neg (fun h => h.1 hbut)])
        clear hbut
        go_wp2_with fail
        exact ⟨⟨k + 1, L, UA, uc, by omega, by push_cast; rfl, rfl, by rw [HNX.out]; exact HLE, by rw [HNX.out]; exact HX, HM⟩, by simp only [intOf]; omega⟩
      · have hbb : ((k : Int) != but) = true := by rw [bne_iff_ne]; exact hbut
        obtain ⟨ra, Ak, ck, row, rfl, hd, HRR, HRE⟩ := (HV.out.below HM.out.bel (Nat.le_refl _)).eltA (k := k) (by rw [HR.out]; exact hkr)
        obtain ⟨hrl2, hrb⟩ := HBR.out k (by rw [HR.out]; exact hkr)
        rw [HRE.out] at hrl2 hrb
        have HRL := Lib.hid hrl2; clear hrl2
        obtain ⟨rd, x, rfl, he, _, HXE⟩ := HRR.out.elt (k := p) (by rw [HRL.out]; exact hp)
        have hrl3 : p < row.length := by rw [HRL.out]; exact hp
        by_cases hx1 : x = 1
        · have hxx : (x == 1) = true := by rw [beq_iff_eq]; exact hx1
          have hrow1 : (rows.getD k []).getD p 0 = 1 := by rw [HRE.out, HXE.out]; exact hx1
          obtain ⟨fa, Fk, fk, frow, rfl, hfd, HFRR, HFRE⟩ := (HFM.out.below HM.out.bel (Nat.le_refl _)).eltA (k := k) (by rw [HFL.out]; exact hkr)
          obtain ⟨hf1, hf2⟩ := HFR.out k hkr
          rw [HFRE.out] at hf1 hf2
          have hfl3 : p < frow.length := by omega
          obtain ⟨fd, m, rfl, hfe, _, HME⟩ := HFRR.out.elt (k := p) hfl3
          have hmv := hf2 hrow1
          rw [HME.out] at hmv
          have HNX : Hid (z0 :: inTo rows F p but (k + 1) = (z0 :: inTo rows F p but k) ++ [m]) := hid' (by show _ = _; rw [inTo, if_pos ⟨hbut, hrow1⟩, hmv]; rfl)
          have HP := Lib.hid (PushI.mk' HX.out HM.out.bel (by have := HM.out.blk.lt; omega) m)
          have HMA := Lib.hid (HM.out.on (bl_alloc wr (.cells #[.int .i64 m] 3)))
          have hin := HIN.out k
          have HLL : Hid ((z0 :: inTo rows F p but k).length + 1 ≤ 17592186044416) := hid' (by simp only [List.length_cons]; omega)
          clear hx1 hrow1 hmv hf1 hf2 hbut HFRE HRE hin
          go_wp2_with (at_builtin; refine wpList_pushI rfl _ _ rfl (w.heap.size + 1) _ (z0 :: inTo rows F p but k) rfl HP.out.own wr.heap.size 1 m rfl HP.out.box HLL.out HP.out.up ?_; (intro v5 w5 ho5 hg5); go_must (have HM5 := Lib.hid (HMA.out.grown hg5 (fun q e => by have := (HP.out.own.lt e).1; omega)); rw [← HNX.out] at ho5; obtain ⟨A5, c5, rfl⟩ := ho5.form'; have HO5 := Lib.hid ho5; clear ho5 hg5))
          exact ⟨⟨k + 1, _, A5, c5, by omega, by push_cast; rfl, rfl, rfl, HO5, HM5⟩, by simp only [intOf]; omega⟩
        · have hxx : (x == 1) = false := by rw [beq_eq_false_iff_ne]; exact hx1
          have HNX : Hid (inTo rows F p but (k + 1) = inTo rows F p but k) := hid' (by show _ = _; rw [inTo, if_neg (fun h => hx1 (by have := h.2; rw [HRE.out, HXE.out] at this; exact this))])
          clear hx1 hbut
          go_wp2_with fail
          exact ⟨⟨k + 1, L, UA, uc, by omega, by push_cast; rfl, rfl, by rw [HNX.out]; exact HLE, by rw [HNX.out]; exact HX, HM⟩, by simp only [intOf]; omega⟩
    · obtain rfl : k = r := by omega
      go_wp2_with fail
      go_ret
      exact ⟨_, rfl, HX.out.mono (by omega), HM.out.bel⟩
end Go.Proofs.Ytgabhlalamnbgaa

/- ref45.round. -/
namespace Go.Proofs.Ytgabhlalamnbgaa
open Go.RowKit
set_option linter.unusedVariables false
set_option maxRecDepth 100000

theorem sumV_cons {a : Int} {l : List Int} (h : a ≠ cer) : sumV 0 (a :: l) = sumV a l := by
  unfold sumV
  have e : (cer ∈ a :: l) = (cer ∈ l) := by
    apply propext
    constructor
    · intro hh
      rcases List.mem_cons.1 hh with hh | hh
      · exact absurd hh.symm h
      · exact hh
    · exact List.mem_cons_of_mem _
  simp only [e, lsum, Int.zero_add]
theorem cmb_four (r x : Int) : (x < 0 → r < 0 → cmb r x = min (max x (-x)) (max r (-r))) ∧ (x < 0 → ¬ r < 0 → cmb r x = -(min (max x (-x)) (max r (-r)))) ∧ (¬ x < 0 → r < 0 → cmb r x = -(min (max x (-x)) (max r (-r)))) ∧ (¬ x < 0 → ¬ r < 0 → cmb r x = min (max x (-x)) (max r (-r))) := by
  unfold cmb
  refine ⟨fun h1 h2 => ?_, fun h1 h2 => ?_, fun h1 h2 => ?_, fun h1 h2 => ?_⟩ <;> simp [h1, h2]
/-- the document's messages of the first j checks -/
def mtTo (rows : List (List Int)) (n : Nat) (F : Nat → Nat → Int) (j : Nat) : List (List Int) := (List.range j).map fun j => mtL (rows.getD j []) n (F j)
theorem mtTo_len (rows : List (List Int)) (n : Nat) (F : Nat → Nat → Int) (j : Nat) : (mtTo rows n F j).length = j := by simp [mtTo]
theorem mtTo_succ (rows : List (List Int)) (n : Nat) (F : Nat → Nat → Int) (j : Nat) : mtTo rows n F (j + 1) = mtTo rows n F j ++ [mtL (rows.getD j []) n (F j)] := by unfold mtTo; rw [List.range_succ, List.map_append]; rfl

set_option maxHeartbeats 32000000 in
theorem rround_any (w : World) (n : Nat) (rv iv fv : Value) (rows : List (List Int)) (inp : List Int) (F : Nat → Nat → Int) (hv : SS w rv rows) (hi : SI w iv inp) (hf : SS w fv (mtM rows n F)) (hF : ∀ j p, -cer ≤ F j p ∧ F j p ≤ cer) (hb : BI n rows inp) :
    Calls Try.prog 62 #[.agg #[.int .i64 (n : Int), rv], iv, fv] w (RetS w (mtM rows n (nxM rows n inp F))) := by
  have HIN := Lib.hid (fun w' (hw : Below w.heap.size w w') k (hk : k < n) (j : Nat) => rinto_any w' n k (j : Int) rv iv fv rows (mtM rows n F) inp F (hv.below hw (Nat.le_refl _)) (hi.below hw (Nat.le_refl _)) (hf.below hw (Nat.le_refl _)) hb hk (mtM_len _ _ _) (fun j hj => ⟨by rw [mtM_getD hj, mtL_len], fun h => by rw [mtM_getD hj, mtL_getD hk, if_pos h]⟩))
  have HIB := Lib.hid (fun k j => inTo_bd hF rows k j rows.length)
  have HIL := Lib.hid (fun k j => inTo_len rows F k j rows.length)
  have HV := Lib.hid hv; have HBR := Lib.hid hb.br; have HIP := Lib.hid hb.ib
  have hrl := hb.rl; have hnn := hb.nn
  obtain ⟨RA, rc, rfl, _⟩ := HV.out
  obtain ⟨IA, ic, rfl, _⟩ := id hi
  rw [hb.il] at *
  obtain ⟨FA, fc, rfl, _⟩ := id hf
  rw [mtM_len] at *
  clear hv hi hf hF hb
  have HN : Hid (mtM rows n (nxM rows n inp F) = mtTo rows n (nxM rows n inp F) rows.length) := rfl
  have HNX : Hid (∀ j i, nxM rows n inp F j i = rfTo (rows.getD j []) (fun q => sumV (inp.getD q 0) (inTo rows F q j rows.length)) i n) := hid' fun _ _ => rfl
  have HNB := Lib.hid (fun j i k => rfTo_bd (rows.getD j []) (fun q => sumV (inp.getD q 0) (inTo rows F q j rows.length)) i k)
  generalize nxM rows n inp F = G at *
  have HB0 := Lib.hid (MBox.mk' w n (.slice RA rows.length rc))
  generalize hr : rows.length = r at *
  have HR := Lib.hid hr; clear hr
  have hmk := fun (w : World) => run_mkI n (by omega) w
  have HO0 : Hid (OS (w.heap.size + 1) (fun g => g ≤ w.heap.size) (w.alloc (.cells #[.int .i64 (n : Int), .slice RA r rc] 24)) (.slice none 0 0) (mtTo rows n G 0)) := hid' (OS.nil _ _ _)
  go_enter Try.func62, Try.ntmps62
  go_wp2_with fail
  generalize w.alloc (.cells #[.int .i64 (n : Int), .slice RA r rc] 24) = w0 at *
  go_loopw [7, 8] (fun u i wr => ∃ (j : Nat) (OA : Option Addr) (oc : Nat), j ≤ r ∧ i = .int .i64 (j : Int) ∧ u = .slice OA j oc ∧ Hid (OS (w.heap.size + 1) (fun g => g ≤ w.heap.size) wr (.slice OA j oc) (mtTo rows n G j)) ∧ Hid (MBox w wr n (.slice RA r rc))) (fun _ i _ => r - (intOf i).toNat)
  case atStart => exact ⟨0, none, 0, Nat.zero_le _, rfl, rfl, HO0, HB0⟩
  case round =>
    clear HO0 HB0
    obtain ⟨j, OA, oc, hj, rfl, rfl, HO, HM⟩ := hrel
    have d0 := HM.out.d0; have d1 := HM.out.d1
    by_cases hjr : j < r
    · obtain ⟨ra, Ak, ck, row, rfl, hd0, HRR0, HRE⟩ := HV.out.eltA (k := j) (by rw [HR.out]; exact hjr)
      obtain ⟨hrl2, hrb⟩ := HBR.out j (by rw [HR.out]; exact hjr)
      rw [HRE.out] at hrl2 hrb
      have HRL := Lib.hid hrl2; have HRB := Lib.hid hrb; clear hrl2 hrb
      have HD0 := Lib.hid hd0; clear hd0
      have HMS := Lib.hid (mtTo_succ rows n G j)
      have HML := Lib.hid (mtTo_len rows n G j)
      rw [HRE.out] at HMS
      have HNXj : Hid (∀ i, G j i = rfTo row (fun q => sumV (inp.getD q 0) (inTo rows F q j r)) i n) := hid' fun i => by rw [HNX.out j i, HRE.out]
      have HNBj : Hid (∀ i k, -cer ≤ rfTo row (fun q => sumV (inp.getD q 0) (inTo rows F q j r)) i k ∧ rfTo row (fun q => sumV (inp.getD q 0) (inTo rows F q j r)) i k ≤ cer) := hid' fun i k => by have := HNB.out j i k; rwa [HRE.out] at this
      obtain ⟨mf, hmf⟩ : ∃ mf : Nat → Int, mf = fun i => if row.getD i 0 = 1 then G j i else 0 := ⟨_, rfl⟩
      have HMF := Lib.hid hmf
      have HMLf : Hid (mtL row n (G j) = rowOf n mf) := hid' (by show _ = _; rw [hmf]; rfl)
      clear hmf
      -- the row of this check
      have HX := Lib.hid (RI.made wr n)
      have hal := bl_alloc wr (.cells (madeCells #[.int .i64 0] n) 3)
      have HMa := Lib.hid (HM.out.on hal)
      have HOa := Lib.hid ((HO.out.names (Y := fun g => g = wr.heap.size ∨ g ≤ w.heap.size) (fun g h1 h2 => by omega)).alloc (.cells (madeCells #[.int .i64 0] n) 3))
      have HNEW : Hid (∀ g, (Value.slice OA j oc).ownBlock = some g → g ≠ wr.heap.size) := hid' fun g hg => by have := (HO.out.lt hg).2; omega
      have HGX : Hid (w.heap.size < wr.heap.size) := hid' HM.out.blk.lt
      clear hal HO HM
      go_wp2_with fail
      clear d0 d1
      generalize wr.alloc (.cells (madeCells #[.int .i64 0] n) 3) = w2 at *
      generalize hgx : wr.heap.size = gx at *
      clear hgx
      go_loopw [10] (fun i wr => ∃ p : Nat, p ≤ n ∧ i = .int .i64 (p : Int) ∧ Hid (RI wr gx (fillTo n mf (fun _ => 0) p)) ∧ Hid (OS (w.heap.size + 1) (fun g => g = gx ∨ g ≤ w.heap.size) wr (.slice OA j oc) (mtTo rows n G j)) ∧ Hid (MBox w wr n (.slice (some ra) r rc))) (fun i _ => n - (intOf i).toNat)
      case atStart => exact ⟨0, Nat.zero_le _, rfl, by rw [fillTo_zero, rowOf_zero]; exact HX, HOa, HMa⟩
      case round =>
        clear HX HOa HMa
        obtain ⟨p, hp, rfl, HX, HO, HM⟩ := hrel
        have d0 := HM.out.d0; have d1 := HM.out.d1
        by_cases hpn : p < n
        · have hd := cell_below HM.out.bel HD0.out
          obtain ⟨rd, x, rfl, he, _, HXE⟩ := (HRR0.out.below HM.out.bel (Nat.le_refl _)).elt (k := p) (by rw [HRL.out]; exact hpn)
          have hrl3 : p < row.length := by rw [HRL.out]; exact hpn
          by_cases hx1 : x = 1
          · have hxx : (x == 1) = true := by rw [beq_iff_eq]; exact hx1
            have HMP : Hid (mf p = G j p) := hid' (by show _ = _; rw [HMF.out]; exact if_pos (by rw [HXE.out]; exact hx1))
            have u0 := HX.out.cell p (by rw [fillTo_len]; exact hpn)
            have uf := HX.out.frozen p
            have HX1 : Hid (RI (wr.setCell ⟨gx, p, none⟩ (.int .i64 1099511627776)) gx ((fillTo n mf (fun _ => 0) p).set p (rfTo row (fun q => sumV (inp.getD q 0) (inTo rows F q j r)) p 0))) := hid' (HX.out.set p 1099511627776)
            have HO1 := Lib.hid (HO.out.grown (gr_set1 wr gx p (.int .i64 1099511627776)) (fun g e => by
              have e2 := Option.some.inj e
              subst e2
              exact ⟨fun h => HNEW.out _ h rfl, .inl rfl⟩))
            have HM1 := Lib.hid (HM.out.grown (gr_set1 wr gx p (.int .i64 1099511627776)) (fun q e => by have := Option.some.inj e; have := HGX.out; omega))
            clear hx1 HX HO HM
            generalize (fillTo n mf (fun _ => 0) p).getD p 0 = y at *
            go_wp2_with fail
            clear u0 uf d0 d1 hd he
            have HFS := Lib.hid (fillTo_set (f := mf) (g := fun _ => 0) hpn)
            generalize wr.setCell ⟨gx, p, none⟩ (.int .i64 1099511627776) = w3 at *
            have HSL : Hid ((fillTo n mf (fun _ => 0) p).length = n) := fillTo_len _ _ _ _
            generalize fillTo n mf (fun _ => 0) p = fl at *
            go_loopw [11] (fun i wr => ∃ k : Nat, k ≤ n ∧ i = .int .i64 (k : Int) ∧ Hid (RI wr gx (fl.set p (rfTo row (fun q => sumV (inp.getD q 0) (inTo rows F q j r)) p k))) ∧ Hid (OS (w.heap.size + 1) (fun g => g = gx ∨ g ≤ w.heap.size) wr (.slice OA j oc) (mtTo rows n G j)) ∧ Hid (MBox w wr n (.slice (some ra) r rc))) (fun i _ => n - (intOf i).toNat)
            case atStart => exact ⟨0, Nat.zero_le _, rfl, HX1, HO1, HM1⟩
            case round =>
              clear HX1 HO1 HM1
              obtain ⟨k, hk, rfl, HX, HO, HM⟩ := hrel
              have d0 := HM.out.d0; have d1 := HM.out.d1
              by_cases hkn : k < n
              · by_cases hkp : k = p
                · have hbb : ((k : Int) != (p : Int)) = false := by rw [bne_eq_false_iff_eq, hkp]
                  have HST : Hid (rfTo row (fun q => sumV (inp.getD q 0) (inTo rows F q j r)) p (k + 1) = rfTo row (fun q => sumV (inp.getD q 0) (inTo rows F q j r)) p k) := hid' (by show _ = _; rw [rfTo, if_neg (fun h => h.1 hkp)])
                  clear hkp
                  go_wp2_with fail
                  exact ⟨⟨k + 1, by omega, by push_cast; rfl, by rw [HST.out]; exact HX, HO, HM⟩, by simp only [intOf]; omega⟩
                · have hbb : ((k : Int) != (p : Int)) = true := by rw [bne_iff_ne]; omega
                  have hd := cell_below HM.out.bel HD0.out
                  obtain ⟨rd2, y, hrd, he, _, HYE⟩ := (HRR0.out.below HM.out.bel (Nat.le_refl _)).elt (k := k) (by rw [HRL.out]; exact hkn)
                  obtain rfl := Option.some.inj hrd
                  clear hrd
                  have hrl4 : k < row.length := by rw [HRL.out]; exact hkn
                  by_cases hy1 : y = 1
                  · have hyy : (y == 1) = true := by rw [beq_iff_eq]; exact hy1
                    have HST : Hid (rfTo row (fun q => sumV (inp.getD q 0) (inTo rows F q j r)) p (k + 1) = cmb (rfTo row (fun q => sumV (inp.getD q 0) (inTo rows F q j r)) p k) (sumV (inp.getD k 0) (inTo rows F k j r))) := hid' (by show _ = _; rw [rfTo, if_pos ⟨hkp, by rw [HYE.out]; exact hy1⟩])
                    have hrb := HNBj.out p k
                    have hxb := sumV_bd (inp.getD k 0) (inTo rows F k j r)
                    have hib := HIP.out k
                    have HCC : Hid (sumV 0 (inp.getD k 0 :: inTo rows F k j r) = sumV (inp.getD k 0) (inTo rows F k j r)) := hid' (sumV_cons (by unfold cer; omega))
                    have HLN := Lib.hid (HIL.out k j)
                    have HLB : Hid (∀ z, z ∈ inp.getD k 0 :: inTo rows F k j r → -cer ≤ z ∧ z ≤ cer) := hid' fun z hz => by
                      rcases List.mem_cons.1 hz with hz | hz
                      · rw [hz]; unfold cer; omega
                      · exact HIB.out k j z hz
                    clear hy1 hkp hib
                    go_wp2_with fail
                    refine (HIN.out _ HM.out.bel k hkn j).mono ?_
                    rintro e w4 ⟨u4, rfl, ho4, hb4⟩
                    have HO4 := Lib.hid (ho4.si (by simp only [List.length_cons]; have := HLN.out; omega) (fun i => by
                      by_cases hi : i < (inp.getD k 0 :: inTo rows F k j r).length
                      · have h1 := HLB.out ((inp.getD k 0 :: inTo rows F k j r).getD i 0) (getD_mem_or i hi)
                        unfold cer at h1
                        exact I64.of_small (by omega) (by omega)
                      · rw [getD_len (by omega)]; exact I64.zero))
                    have HX4 := Lib.hid (HX.out.belowS hb4); have HOs4 := Lib.hid (HO.out.below hb4); have HM4 := Lib.hid (HM.out.on hb4)
                    clear ho4 hb4 HX HO HM d0 d1 hd he
                    go_wp2_with fail
                    refine (rsum_any _ u4 (inp.getD k 0 :: inTo rows F k j r) HO4.out (by simp only [List.length_cons]; have := HLN.out; omega) HLB.out).mono ?_
                    rintro e w5 ⟨rfl, hb5⟩
                    rw [HCC.out]
                    have HX5 := Lib.hid (HX4.out.belowS hb5); have HOs5 := Lib.hid (HOs4.out.below hb5); have HM5 := Lib.hid (HM4.out.on hb5)
                    clear hb5 HX4 HOs4 HM4 HLB HLN HCC HO4
                    have u0 := HX5.out.cell p (by rw [List.length_set, HSL.out]; exact hpn)
                    have uf := HX5.out.frozen p
                    have hge : (fl.set p (rfTo row (fun q => sumV (inp.getD q 0) (inTo rows F q j r)) p k)).getD p 0 = rfTo row (fun q => sumV (inp.getD q 0) (inTo rows F q j r)) p k := by
                      have : p < fl.length := by rw [HSL.out]; exact hpn
                      simp [List.getD, List.getElem?_set, this]
                    rw [hge] at u0
                    clear hge
                    have HSET : Hid (∀ (N : Nat) V, V = cmb (rfTo row (fun q => sumV (inp.getD q 0) (inTo rows F q j r)) p k) (sumV (inp.getD k 0) (inTo rows F k j r)) → RI ((w5.drewN N).setCell ⟨gx, p, none⟩ (.int .i64 V)) gx (fl.set p (rfTo row (fun q => sumV (inp.getD q 0) (inTo rows F q j r)) p (k + 1)))) := hid' fun N V hV => by
                      have h := (RI.drewN HX5.out N).set p V
                      rw [List.set_set] at h
                      rw [HST.out, ← hV]
                      exact h
                    have HOF : Hid (∀ (N : Nat) V, OS (w.heap.size + 1) (fun g => g = gx ∨ g ≤ w.heap.size) ((w5.drewN N).setCell ⟨gx, p, none⟩ (.int .i64 V)) (.slice OA j oc) (mtTo rows n G j)) := hid' fun N V => (HOs5.out.below (bl_drewN w5 N)).grown (gr_set1 (w5.drewN N) gx p (.int .i64 V)) (fun g e => by
                      have e2 := Option.some.inj e
                      subst e2
                      exact ⟨fun h => HNEW.out _ h rfl, .inl rfl⟩)
                    have HMF5 : Hid (∀ (N : Nat) V, MBox w ((w5.drewN N).setCell ⟨gx, p, none⟩ (.int .i64 V)) n (.slice (some ra) r rc)) := hid' fun N V => (HM5.out.on (bl_drewN w5 N)).grown (gr_set1 (w5.drewN N) gx p (.int .i64 V)) (fun q e => by have := Option.some.inj e; have := HGX.out; omega)
                    clear HX5 HOs5 HM5 HST
                    generalize rfTo row (fun q => sumV (inp.getD q 0) (inTo rows F q j r)) p k = r0 at *
                    generalize sumV (inp.getD k 0) (inTo rows F k j r) = x0 at *
                    have HCI := Lib.hid (cmb_four r0 x0)
                    unfold cer at hrb hxb
                    cases hdx : decide (x0 < 0) <;> cases hdr : decide (r0 < 0) <;> by_cases c3 : max x0 (-x0) ≤ max r0 (-r0)
                    all_goals
                      (first | have c1 := of_decide_eq_true hdx | have c1 := of_decide_eq_false hdx)
                      (first | have c2 := of_decide_eq_true hdr | have c2 := of_decide_eq_false hdr)
                      go_wp2_with fail
                      go_quiet (fail)
                      go_wp2_with fail
                      all_goals exact ⟨⟨k + 1, by omega, by push_cast; rfl, HSET.out _ _ (by first | (rw [HCI.out.1 (by omega) (by omega)]; first | omega | ((repeat' split) <;> omega)) | (rw [HCI.out.2.1 (by omega) (by omega)]; first | omega | ((repeat' split) <;> omega)) | (rw [HCI.out.2.2.1 (by omega) (by omega)]; first | omega | ((repeat' split) <;> omega)) | (rw [HCI.out.2.2.2 (by omega) (by omega)]; first | omega | ((repeat' split) <;> omega))), HOF.out _ _, HMF5.out _ _⟩, by simp only [intOf]; omega⟩
                  · have hyy : (y == 1) = false := by rw [beq_eq_false_iff_ne]; exact hy1
                    have HST : Hid (rfTo row (fun q => sumV (inp.getD q 0) (inTo rows F q j r)) p (k + 1) = rfTo row (fun q => sumV (inp.getD q 0) (inTo rows F q j r)) p k) := hid' (by show _ = _; rw [rfTo, if_neg (fun h => hy1 (by rw [← HYE.out]; exact h.2))])
                    clear hy1 hkp
                    go_wp2_with fail
                    exact ⟨⟨k + 1, by omega, by push_cast; rfl, by rw [HST.out]; exact HX, HO, HM⟩, by simp only [intOf]; omega⟩
              · obtain rfl : k = n := by omega
                have HEQ : Hid (fl.set p (rfTo row (fun q => sumV (inp.getD q 0) (inTo rows F q j r)) p k) = fillTo k mf (fun _ => 0) (p + 1)) := hid' (by show _ = _; rw [← HFS.out, HMP.out, HNXj.out p])
                rw [HEQ.out] at HX
                go_wp2_with fail
                exact ⟨⟨p + 1, by omega, by push_cast; rfl, HX, HO, HM⟩, by simp only [intOf]; omega⟩
          · have hxx : (x == 1) = false := by rw [beq_eq_false_iff_ne]; exact hx1
            have HFS := Lib.hid (fillTo_stay (N := n) (f := mf) (g := fun _ => 0) (k := p) (fun _ => by rw [HMF.out]; exact if_neg (by rw [HXE.out]; exact hx1)))
            clear hx1
            go_wp2_with fail
            exact ⟨⟨p + 1, by omega, by push_cast; rfl, by rw [HFS.out]; exact HX, HO, HM⟩, by simp only [intOf]; omega⟩
        · obtain rfl : p = n := by omega
          rw [fillTo_full, ← HMLf.out] at HX
          have HXS : Hid (SI wr (.slice (some ⟨gx, 0, none⟩) p p) (mtL row p (G j))) := hid' (by
            have h := HX.out.si (by rw [mtL_len]; omega) (fun i => by
              by_cases hi : i < p
              · rw [mtL_getD hi]
                split
                · have h1 := HNBj.out i p
                  rw [← HNXj.out i] at h1
                  unfold cer at h1
                  exact I64.of_small (by omega) (by omega)
                · exact I64.zero
              · rw [getD_len (by rw [mtL_len]; omega)]; exact I64.zero)
            rwa [mtL_len] at h)
          have HBX := Lib.hid (box1 (w := wr) (u := .slice (some ⟨gx, 0, none⟩) p p) (t := 25))
          have hba := bl_alloc wr (.cells #[.slice (some ⟨gx, 0, none⟩) p p] 25)
          have HXA := Lib.hid (HXS.out.below hba (Nat.le_refl _))
          have HUP := Lib.hid (up_alloc (w := wr) (B := w.heap.size + 1) (by have := HM.out.blk.lt; omega) (.cells #[.slice (some ⟨gx, 0, none⟩) p p] 25))
          have HOA := Lib.hid ((HO.out.names (Y := fun g => g ≤ w.heap.size) (fun g _ h => .inr h)).alloc (.cells #[.slice (some ⟨gx, 0, none⟩) p p] 25))
          have HMA := Lib.hid (HM.out.on hba)
          have HLL : Hid ((mtTo rows p G j).length + 1 ≤ 4398046511104) := hid' (by rw [HML.out]; omega)
          clear hba
          go_wp2_with (at_builtin; refine wpList_pushS rfl _ _ rfl (w.heap.size + 1) (fun g => g ≤ w.heap.size) _ (mtTo rows p G j) rfl HOA.out wr.heap.size 1 _ (mtL row p (G j)) rfl HBX.out HXA.out (fun _ g hg => ⟨fun e => HNEW.out _ e (by simp [Value.ownBlock] at hg; exact hg.symm), fun h => by simp [Value.ownBlock] at hg; have := HGX.out; omega⟩) HLL.out HUP.out ?_; (intro v5 w5 ho5 hg5 hv5); go_must (have HM5 := Lib.hid (HMA.out.grown hg5 (fun q e => by have := (HOA.out.lt e).1; omega)); rw [← HMS.out] at ho5; obtain ⟨A5, c5, rfl⟩ := ho5.form; rw [mtTo_len] at ho5 ⊢; have HO5 := Lib.hid ho5; clear ho5 hg5 hv5))
          exact ⟨⟨j + 1, A5, c5, by omega, by push_cast; rfl, rfl, HO5, HM5⟩, by simp only [intOf]; omega⟩
    · obtain rfl : j = r := by omega
      go_wp2_with fail
      go_ret
      exact ⟨_, rfl, by rw [HN.out]; exact (HO.out.mono (by omega)).names (fun g _ h => by omega), HM.out.bel⟩
end Go.Proofs.Ytgabhlalamnbgaa

/- The messages behind a round, check by check and position by position. No program in sight. -/
namespace Go.Proofs.Ytgabhlalamnbgaa
set_option linter.unusedVariables false

def mixM (rows : List (List Int)) (n : Nat) (G : Nat → Nat → Int) (j : Nat) : List (List Int) := (List.range rows.length).map fun q => if q < j then dnL (rows.getD q []) n (G q) else List.replicate (onesTo (rows.getD q []) n).length 0
theorem mixM_len (rows : List (List Int)) (n : Nat) (G : Nat → Nat → Int) (j : Nat) : (mixM rows n G j).length = rows.length := by simp [mixM]
theorem mixM_getD {rows : List (List Int)} {n : Nat} {G : Nat → Nat → Int} {j q : Nat} (h : q < rows.length) : (mixM rows n G j).getD q [] = if q < j then dnL (rows.getD q []) n (G q) else List.replicate (onesTo (rows.getD q []) n).length 0 := by simp [mixM, List.getD, h]
theorem mixM_zero (rows : List (List Int)) (n : Nat) (G : Nat → Nat → Int) : mixM rows n G 0 = dnM rows n (fun _ _ => 0) := List.map_congr_left fun j _ => by
  unfold dnL; rw [List.map_const', if_neg (by omega)]
theorem mixM_full (rows : List (List Int)) (n : Nat) (G : Nat → Nat → Int) : mixM rows n G rows.length = dnM rows n G := List.map_congr_left fun j hj => if_pos (by simpa using hj)
theorem mixM_next {rows : List (List Int)} {n : Nat} {G : Nat → Nat → Int} {j : Nat} (h : j < rows.length) : (mixM rows n G j).set j (dnL (rows.getD j []) n (G j)) = mixM rows n G (j + 1) := by
  refine List.ext_getElem (by simp [mixM]) fun i h1 h2 => ?_
  have hi : i < rows.length := by simpa [mixM] using h2
  by_cases e : j = i
  · subst e; simp [mixM]
  · have : (i < j + 1) = (i < j) := by apply propext; constructor <;> intro _ <;> omega
    simp [mixM, List.getElem_set, e, this]
theorem dnL_row (row : List Int) (n : Nat) (f : Nat → Int) : dnL row n f = rowOf (onesTo row n).length fun t => f ((onesTo row n).getD t 0).toNat := by
  refine List.ext_getElem (by simp [dnL, rowOf]) fun i h1 h2 => ?_
  have hi : i < (onesTo row n).length := by simpa [dnL] using h1
  simp [dnL, rowOf, List.getD, hi]
theorem ones_get {row : List Int} : ∀ {n t : Nat}, t < (onesTo row n).length → ∃ p, p < n ∧ (onesTo row n).getD t 0 = (p : Int) ∧ row.getD p 0 = 1 ∧ (onesTo row p).length = t
  | 0, t, h => absurd h (by rw [onesTo_zero]; simp)
  | n + 1, t, h => by
    by_cases e : row.getD n 0 = 1
    · rw [onesTo_yes e] at h ⊢
      rw [List.length_append, List.length_singleton] at h
      by_cases ht : t < (onesTo row n).length
      · obtain ⟨p, h1, h2, h3, h4⟩ := ones_get ht
        refine ⟨p, by omega, ?_, h3, h4⟩
        rw [← h2]; simp [List.getD, List.getElem?_append_left ht]
      · have ht2 : t = (onesTo row n).length := by omega
        exact ⟨n, by omega, by rw [ht2]; simp [List.getD], e, ht2.symm⟩
    · rw [onesTo_no e] at h ⊢
      obtain ⟨p, h1, h2, h3, h4⟩ := ones_get h
      exact ⟨p, by omega, h2, h3, h4⟩
/-- the values that come in at the positions of a check -/
def upF (rows : List (List Int)) (n : Nat) (inp : List Int) (F : Nat → Nat → Int) (j : Nat) (t : Nat) : Int :=
  sumV (inp.getD ((onesTo (rows.getD j []) n).getD t 0).toNat 0) (inTo rows F ((onesTo (rows.getD j []) n).getD t 0).toNat j rows.length)
theorem upF_bd (rows : List (List Int)) (n : Nat) (inp : List Int) (F : Nat → Nat → Int) (j t : Nat) : -cer ≤ upF rows n inp F j t ∧ upF rows n inp F j t ≤ cer := sumV_bd _ _
/-- the message to the t-th position of check j, as the program finds it -/
theorem nx_val {rows : List (List Int)} {n : Nat} {inp : List Int} {F : Nat → Nat → Int} {j t : Nat} (ht : t < (onesTo (rows.getD j []) n).length) :
    nxM rows n inp F j ((onesTo (rows.getD j []) n).getD t 0).toNat = valS (if (scanTo (upF rows n inp F j) (onesTo (rows.getD j []) n).length).at_ = t then (scanTo (upF rows n inp F j) (onesTo (rows.getD j []) n).length).snd else (scanTo (upF rows n inp F j) (onesTo (rows.getD j []) n).length).fst)
      (decide (((scanTo (upF rows n inp F j) (onesTo (rows.getD j []) n).length).mns - (if upF rows n inp F j t < 0 then 1 else 0)) % 2 = 1)) ∧ 0 ≤ (scanTo (upF rows n inp F j) (onesTo (rows.getD j []) n).length).mns - (if upF rows n inp F j t < 0 then 1 else 0) := by
  obtain ⟨p, h1, h2, h3, h4⟩ := ones_get ht
  have hinv := scan_inv (upF_bd rows n inp F j) (onesTo (rows.getD j []) n).length
  obtain ⟨c, c0, c1, c2, c3⟩ := scan_par (upF rows n inp F j) t (onesTo (rows.getD j []) n).length
  have hc : (scanTo (upF rows n inp F j) (onesTo (rows.getD j []) n).length).mns - (if upF rows n inp F j t < 0 then 1 else 0) = c := by
    rw [c2]
    by_cases hn : upF rows n inp F j t < 0
    · rw [if_pos hn, if_pos ⟨ht, hn⟩]; omega
    · rw [if_neg hn, if_neg (fun h => hn h.2)]; omega
  rw [hc, ← c3, ← hinv.1 t, h2, Int.toNat_natCast]
  refine ⟨?_, c0⟩
  have := rf_val (row := rows.getD j []) (x := fun q => sumV (inp.getD q 0) (inTo rows F q j rows.length)) (u := upF rows n inp F j) (n := n) h3 (fun q hq hrq => by
    unfold upF
    rw [(ones_at hrq hq).1, Int.toNat_natCast]) n (Nat.le_refl _)
  rw [h4] at this
  exact this
/-- the steps of the scan -/
theorem scan_new {u : Nat → Int} {k : Nat} {A M : Int} (hA : (if u k < 0 then -(u k) else u k) = A) (hM : (if u k < 0 then (scanTo u k).mns + 1 else (scanTo u k).mns) = M) (h : (scanTo u k).at_ < 0 ∨ A < (scanTo u k).fst) : scanTo u (k + 1) = ⟨A, (scanTo u k).fst, k, M⟩ := by
  rw [scanTo, hA, hM, if_pos h]
theorem scan_snd {u : Nat → Int} {k : Nat} {A M : Int} (hA : (if u k < 0 then -(u k) else u k) = A) (hM : (if u k < 0 then (scanTo u k).mns + 1 else (scanTo u k).mns) = M) (h : ¬ ((scanTo u k).at_ < 0 ∨ A < (scanTo u k).fst)) (h2 : A < (scanTo u k).snd) : scanTo u (k + 1) = ⟨(scanTo u k).fst, A, (scanTo u k).at_, M⟩ := by
  rw [scanTo, hA, hM, if_neg h, if_pos h2]
theorem scan_old {u : Nat → Int} {k : Nat} {A M : Int} (hA : (if u k < 0 then -(u k) else u k) = A) (hM : (if u k < 0 then (scanTo u k).mns + 1 else (scanTo u k).mns) = M) (h : ¬ ((scanTo u k).at_ < 0 ∨ A < (scanTo u k).fst)) (h2 : ¬ A < (scanTo u k).snd) : scanTo u (k + 1) = ⟨(scanTo u k).fst, (scanTo u k).snd, (scanTo u k).at_, M⟩ := by
  rw [scanTo, hA, hM, if_neg h, if_neg h2]
end Go.Proofs.Ytgabhlalamnbgaa
