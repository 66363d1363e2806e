/-
  KurganTexts, part 5 of 5: what the code computes, and plain laws; no condition beside those that each theorem tells.
-/
import Derived.Test.YtakfcekfmdjklaaDoorKurganTextsD
import Derived.Test.YtakfcekfmdjklaaDoorRows
namespace Go.Proofs.YtakfcekfmdjklaaDoor
def rowP : List Int → List Pc
  | [] => []
  | [x] => [nuP x 10]
  | x :: y :: l => nuP x 32 :: rowP (y :: l)
theorem rowP_len : ∀ l, (rowP l).length = l.length
  | [] => rfl
  | [_] => rfl
  | x :: y :: l => by rw [rowP, List.length_cons, rowP_len]; rfl
theorem rowP_get : ∀ (l : List Int) (c : Nat), c < l.length → ((rowP l).getD c pz).k = 2 ∧ ((rowP l).getD c pz).n = l.getD c 0
  | [], _, h => absurd h (Nat.not_lt_zero _)
  | [x], 0, _ => ⟨rfl, rfl⟩
  | [x], c + 1, h => absurd h (by simp)
  | x :: y :: l, 0, _ => ⟨rfl, rfl⟩
  | x :: y :: l, c + 1, h => by
    rw [rowP, List.getD_cons_succ, List.getD_cons_succ]
    exact rowP_get (y :: l) c (by simp at h ⊢; omega)
theorem rowP_gd : ∀ (l : List Int), (∀ x ∈ l, 0 ≤ x ∧ x ≤ 2147483647) → ∀ p ∈ rowP l, gd p
  | [], _, p, hp => by cases hp
  | [x], h, p, hp => by
    obtain rfl : p = nuP x 10 := by simpa [rowP] using hp
    have := h x (.head _)
    exact nu_gd this.1 (by omega) b10
  | x :: y :: l, h, p, hp => by
    rw [rowP] at hp
    rcases List.mem_cons.1 hp with rfl | hp
    · have := h x (.head _)
      exact nu_gd this.1 (by omega) b32
    · exact rowP_gd (y :: l) (fun z hz => h z (.tail _ hz)) p hp
theorem rowT : ∀ (l : List Int) (x : Int), (Lib.itoa x ++ Lib.joinTail [32] (l.map Lib.itoa)) ++ [10] = txt (rowP (x :: l))
  | [], x => by simp [Lib.joinTail, rowP, txt, nuP]
  | y :: l, x => by
    have := rowT l y
    rw [rowP, txt_cons, ← this]
    simp [Lib.joinTail, nuP]
theorem lineB_txt {l : List Int} (h : l ≠ []) : lineB l = txt (rowP l) := by
  cases l with
  | nil => exact absurd rfl h
  | cons x l => unfold lineB; rw [List.map_cons, Lib.join_cons, rowT]
def itmP (i : Ins) (k : Nat) : List Pc := rowP [i.wt.getD k 0, i.vl.getD k 0]
def rwsP (i : Ins) (r : Nat) : List Pc := rowP (i.cost.getD r [])
theorem itemsB_txt (i : Ins) : ∀ k, itemsB i k = txt ((List.range k).flatMap (itmP i))
  | 0 => rfl
  | k + 1 => by rw [itemsB, itemsB_txt i k, List.range_succ, List.flatMap_append, txt_app, lineB_txt (by simp)]; simp [itmP]
theorem rowsB_txt {i : Ins} (h : ∀ r, r < i.cost.length → i.cost.getD r [] ≠ []) : ∀ k, k ≤ i.cost.length → rowsB i k = txt ((List.range k).flatMap (rwsP i))
  | 0, _ => rfl
  | k + 1, hk => by rw [rowsB, rowsB_txt h k (by omega), List.range_succ, List.flatMap_append, txt_app, lineB_txt (h k (by omega))]; simp [rwsP]
theorem flat_len {f : Nat → List Pc} {L : Nat} : ∀ {R : Nat}, (∀ r, r < R → (f r).length = L) → ((List.range R).flatMap f).length = R * L
  | 0, _ => by simp
  | R + 1, h => by
    rw [List.range_succ, List.flatMap_append, List.length_append, flat_len (R := R) (fun r hr => h r (by omega)), Nat.add_mul, Nat.one_mul]
    simp [h R (by omega)]
theorem flat_get {f : Nat → List Pc} {L r c : Nat} (hc : c < L) : ∀ {R : Nat}, (∀ r, r < R → (f r).length = L) → r < R → ((List.range R).flatMap f).getD (r * L + c) pz = (f r).getD c pz
  | 0, _, h => absurd h (Nat.not_lt_zero _)
  | R + 1, h, hr => by
    have hl := flat_len (f := f) (L := L) (R := R) (fun r hr => h r (by omega))
    rw [List.range_succ, List.flatMap_append]
    have e1 : [R].flatMap f = f R := by simp
    rw [e1]
    simp only [List.getD_eq_getElem?_getD]
    rcases Nat.lt_succ_iff_lt_or_eq.1 hr with g | g
    · have h1 : r * L + c < R * L := by
        have : (r + 1) * L ≤ R * L := Nat.mul_le_mul_right L g
        rw [Nat.add_mul, Nat.one_mul] at this; omega
      rw [List.getElem?_append_left (by omega)]
      have := flat_get (f := f) hc (R := R) (fun r hr => h r (by omega)) g
      simpa only [List.getD_eq_getElem?_getD] using this
    · subst g
      rw [List.getElem?_append_right (by omega), hl, Nat.add_sub_cancel_left]
def hdP (i : Ins) : List Pc :=
  if i.kind = 1 then [wdP [75, 78, 65, 80, 83, 65, 67, 75] 32, nuP i.n 32, nuP i.cap 10]
  else if i.kind = 2 then [wdP [65, 83, 83, 73, 71, 78, 77, 69, 78, 84] 32, nuP i.n 10] else [wdP [84, 83, 80] 32, nuP i.n 32, wdP [70, 85, 76, 76] 10]
def pcs (i : Ins) : List Pc := hdP i ++ if i.kind = 1 then (List.range i.n.toNat).flatMap (itmP i) else (List.range i.n.toNat).flatMap (rwsP i)
theorem row_ne {i : Ins} (h : InF i) {r : Nat} (hr : r < i.cost.length) : i.cost.getD r [] ≠ [] := fun e => by
  have h1 := h.row r hr
  have h2 := h.n1
  rw [e] at h1
  simp at h1; omega
theorem textB_txt {i : Ins} (h : InF i) : textB i = txt (pcs i) := by
  have hk := h.kind
  have hc := h.cost
  unfold textB headB pcs hdP
  by_cases h1 : i.kind = 1
  · rw [if_pos h1] at hc
    rw [if_pos h1, if_pos h1, if_pos h1, if_pos h1, txt_app, itemsB_txt, hc, lineB_txt (by simp)]
    simp [rowsB, txt, rowP, nameB, wdP]
  · rw [if_neg h1] at hc
    rw [if_neg h1, if_neg h1, if_neg h1, if_neg h1, txt_app, rowsB_txt (fun r hr => row_ne h hr) _ (Nat.le_refl _), hc]
    by_cases h2 : i.kind = 2
    · rw [if_pos h2, if_pos h2, lineB_txt (by simp)]
      simp [txt, rowP, nameB, wdP]
    · rw [if_neg h2, if_neg h2]
      simp [txt, nameB, wdP, nuP]
theorem kb3 {b : List UInt8} (h : ∀ c ∈ b, kindI (c.toNat : Int) = 3) : ∀ j, j < b.length → kb (bs b) j = 3 := fun j hj => by
  rw [kb_in (by rw [bs_size]; exact hj), show bs b = ⟨b.toArray⟩ from rfl, byt_mk hj]; exact h _ (List.getElem_mem hj)
theorem mem_row {i : Ins} (h : InF i) {r : Nat} : ∀ x ∈ i.cost.getD r [], 0 ≤ x ∧ x ≤ 2147483647 := fun x hx => by
  obtain ⟨c, hc, rfl⟩ := List.getElem_of_mem hx
  have := h.cell r c
  have e : (i.cost.getD r []).getD c 0 = (i.cost.getD r [])[c] := by rw [List.getD_eq_getElem?_getD, List.getElem?_eq_getElem hc]; rfl
  rwa [e] at this
theorem pcs_gd {i : Ins} (h : InF i) : ∀ p ∈ pcs i, gd p := fun p hp => by
  have hn := h.n1
  have hn2 := h.n64
  have hcp := h.cap
  unfold pcs hdP at hp
  have gKN : gd (wdP [75, 78, 65, 80, 83, 65, 67, 75] 32) := wd_gd (kb3 (by decide)) (by decide) (by decide) b32
  have gAS : gd (wdP [65, 83, 83, 73, 71, 78, 77, 69, 78, 84] 32) := wd_gd (kb3 (by decide)) (by decide) (by decide) b32
  have gTS : gd (wdP [84, 83, 80] 32) := wd_gd (kb3 (by decide)) (by decide) (by decide) b32
  have gFU : gd (wdP [70, 85, 76, 76] 10) := wd_gd (kb3 (by decide)) (by decide) (by decide) b10
  have gn : ∀ s, blk1 s → gd (nuP i.n s) := fun s hs => nu_gd (by omega) (by omega) hs
  rcases List.mem_append.1 hp with hp | hp
  · split at hp
    · simp only [List.mem_cons, List.not_mem_nil, or_false] at hp
      rcases hp with rfl | rfl | rfl
      · exact gKN
      · exact gn _ b32
      · exact nu_gd hcp.1 (by omega) b10
    · split at hp
      · simp only [List.mem_cons, List.not_mem_nil, or_false] at hp
        rcases hp with rfl | rfl
        · exact gAS
        · exact gn _ b10
      · simp only [List.mem_cons, List.not_mem_nil, or_false] at hp
        rcases hp with rfl | rfl | rfl
        · exact gTS
        · exact gn _ b32
        · exact gFU
  · split at hp
    · obtain ⟨k, -, hk⟩ := List.mem_flatMap.1 hp
      refine rowP_gd _ (fun x hx => ?_) p hk
      simp only [List.mem_cons, List.not_mem_nil, or_false] at hx
      rcases hx with rfl | rfl
      · exact h.wtr k
      · exact h.vlr k
    · obtain ⟨r, -, hr⟩ := List.mem_flatMap.1 hp
      exact rowP_gd _ (mem_row h) p hr
def j0I (i : Ins) : Nat := if i.kind = 3 then 3 else 2
def mI (i : Ins) : Nat := if i.kind = 1 then 1 + 2 * i.n.toNat else i.n.toNat * i.n.toNat
def vN (i : Ins) (q : Nat) : Int := if i.kind = 1 then (if q = 0 then i.cap else if q % 2 = 1 then i.wt.getD (q / 2) 0 else i.vl.getD (q / 2 - 1) 0) else (i.cost.getD (q / i.n.toNat) []).getD (q % i.n.toNat) 0
theorem getD_app2P {a b : List Pc} {j : Nat} : (a ++ b).getD (a.length + j) pz = b.getD j pz := by
  rw [List.getD_eq_getElem?_getD, List.getD_eq_getElem?_getD, List.getElem?_append_right (by omega), Nat.add_sub_cancel_left]
theorem pcs_len {i : Ins} (h : InF i) : (pcs i).length = j0I i + mI i := by
  have hk := h.kind
  have hc := h.cost
  unfold pcs hdP j0I mI
  by_cases h1 : i.kind = 1
  · rw [if_pos h1, if_pos h1, if_neg (by omega), if_pos h1, List.length_append, flat_len (L := 2) (fun r _ => by rw [itmP, rowP_len]; rfl)]
    simp only [List.length_cons, List.length_nil]; omega
  · rw [if_neg h1] at hc
    have hl : ((List.range i.n.toNat).flatMap (rwsP i)).length = i.n.toNat * i.n.toNat := flat_len (L := i.n.toNat) (fun r hr => by rw [rwsP, rowP_len]; exact h.row r (by omega))
    rw [if_neg h1, if_neg h1, if_neg h1, List.length_append, hl]
    by_cases h2 : i.kind = 2
    · rw [if_pos h2, if_neg (by omega)]; simp only [List.length_cons, List.length_nil]
    · rw [if_neg h2, if_pos (by omega)]; simp only [List.length_cons, List.length_nil]
theorem pcs_num {i : Ins} (h : InF i) {q : Nat} (hq : q < mI i) : ((pcs i).getD (j0I i + q) pz).k = 2 ∧ ((pcs i).getD (j0I i + q) pz).n = vN i q := by
  have hk := h.kind
  have hc := h.cost
  have hn := h.n1
  unfold mI at hq
  by_cases h1 : i.kind = 1
  · rw [if_pos h1] at hq
    unfold pcs hdP j0I vN
    rw [if_pos h1, if_pos h1, if_neg (by omega), if_pos h1]
    by_cases h0 : q = 0
    · subst h0; exact ⟨rfl, rfl⟩
    · rw [if_neg h0]
      have e0 : 2 + q = [wdP [75, 78, 65, 80, 83, 65, 67, 75] 32, nuP i.n 32, nuP i.cap 10].length + (q - 1) := by show _ = 3 + (q - 1); omega
      rw [e0, getD_app2P]
      have hL : ∀ r, r < i.n.toNat → (itmP i r).length = 2 := fun r _ => by rw [itmP, rowP_len]; rfl
      by_cases h2 : q % 2 = 1
      · rw [if_pos h2, show q - 1 = (q / 2) * 2 + 0 by omega, flat_get (by decide) hL (by omega)]
        exact rowP_get _ 0 (by simp)
      · rw [if_neg h2, show q - 1 = (q / 2 - 1) * 2 + 1 by omega, flat_get (by decide) hL (by omega)]
        exact rowP_get _ 1 (by simp)
  · rw [if_neg h1] at hq hc
    have hn0 : 0 < i.n.toNat := by omega
    have hdm := Nat.div_add_mod' q i.n.toNat
    have hdl : q / i.n.toNat < i.n.toNat := Nat.div_lt_of_lt_mul hq
    have hml := Nat.mod_lt q hn0
    have hL : ∀ r, r < i.n.toNat → (rwsP i r).length = i.n.toNat := fun r hr => by rw [rwsP, rowP_len]; exact h.row r (by omega)
    have key : ∀ hd : List Pc, ((hd ++ (List.range i.n.toNat).flatMap (rwsP i)).getD (hd.length + q) pz).k = 2 ∧ ((hd ++ (List.range i.n.toNat).flatMap (rwsP i)).getD (hd.length + q) pz).n = vN i q := fun hd => by
      rw [getD_app2P]
      have e1 : ((List.range i.n.toNat).flatMap (rwsP i)).getD q pz = (rwsP i (q / i.n.toNat)).getD (q % i.n.toNat) pz := by
        have := flat_get (f := rwsP i) (r := q / i.n.toNat) hml hL hdl
        rwa [hdm] at this
      rw [e1]
      unfold vN; rw [if_neg h1]
      exact rowP_get _ _ (by rw [h.row _ (by omega)]; exact hml)
    unfold pcs hdP j0I
    rw [if_neg h1, if_neg h1]
    by_cases h2 : i.kind = 2
    · rw [if_pos h2, if_neg (by omega)]; exact key _
    · rw [if_neg h2, if_pos (by omega)]; exact key _
theorem vN_bd {i : Ins} (h : InF i) (q : Nat) : 0 ≤ vN i q ∧ vN i q ≤ 2147483647 := by
  unfold vN
  split
  · split
    · exact h.cap
    · split
      · exact h.wtr _
      · exact h.vlr _
  · exact h.cell _ _
def Hd (X : List Tok) (i : Ins) (m : Nat) : Prop := ∀ j, j < j0I i + m → (X.getD j tz).k = ((pcs i).getD j pz).k ∧ (X.getD j tz).x = ((pcs i).getD j pz).x ∧ (X.getD j tz).n = ((pcs i).getD j pz).n
theorem Hd.num {X : List Tok} {i : Ins} {m : Nat} (hH : Hd X i m) (h : InF i) (hm : m ≤ mI i) {q : Nat} (hq : q < m) : (X.getD (j0I i + q) tz).k = 2 ∧ (X.getD (j0I i + q) tz).n = vN i q := by
  obtain ⟨h1, -, h3⟩ := hH (j0I i + q) (by omega)
  obtain ⟨g1, g2⟩ := pcs_num h (q := q) (by omega)
  exact ⟨h1.trans g1, h3.trans g2⟩
theorem Hd.ok {X : List Tok} {i : Ins} {m : Nat} (hH : Hd X i m) (h : InF i) (hm : m ≤ mI i) {f : Nat → Bool} (hf : ∀ q, f q = true → q < mI i → vN i q = 0) : ∀ q, q < m → nuE (f q) (X.getD (j0I i + q) tz) = 0 := fun q hq => by
  obtain ⟨h1, h2⟩ := hH.num h hm hq
  have hb := vN_bd h q
  obtain ⟨g1, g2⟩ := numR_ok (t := X.getD (j0I i + q) tz) (m := 2147483647) (by omega) (by omega) (by omega)
  exact nuE_ok g1 (fun g => g.2 (by rw [g2, h2]; exact hf q g.1 (by omega)))
theorem Hd.head {X : List Tok} {i : Ins} {m : Nat} (hH : Hd X i m) (hj : j0I i ≤ j0I i + m) : (X.getD 0 tz).k = 1 ∧ (X.getD 1 tz).k = 2 ∧ (X.getD 1 tz).n = i.n ∧ (i.kind = 1 → (X.getD 0 tz).x = wKN) ∧ (i.kind = 2 → (X.getD 0 tz).x = wAS) ∧ (¬ i.kind = 1 → ¬ i.kind = 2 → (X.getD 0 tz).x = wTS) ∧ (i.kind = 3 → (X.getD 2 tz).k = 1 ∧ (X.getD 2 tz).x = wFU) := by
  have hj2 : 2 ≤ j0I i := by unfold j0I; split <;> omega
  obtain ⟨a1, a2, a3⟩ := hH 0 (by omega)
  obtain ⟨b1, b2, b3⟩ := hH 1 (by omega)
  rw [a1, a2, b1, b3]
  unfold pcs hdP
  by_cases h1 : i.kind = 1
  · rw [if_pos h1]; exact ⟨rfl, rfl, rfl, fun _ => rfl, fun h => absurd h (by omega), fun h => absurd h1 h, fun h => absurd h (by omega)⟩
  · rw [if_neg h1]
    by_cases h2 : i.kind = 2
    · rw [if_pos h2]; exact ⟨rfl, rfl, rfl, fun h => absurd h h1, fun _ => rfl, fun _ h => absurd h2 h, fun h => absurd h (by omega)⟩
    · rw [if_neg h2]
      refine ⟨rfl, rfl, rfl, fun h => absurd h h1, fun h => absurd h h2, fun _ _ => rfl, fun h3 => ?_⟩
      obtain ⟨c1, c2, -⟩ := hH 2 (by unfold j0I; rw [if_pos h3]; omega)
      rw [c1, c2]
      unfold pcs hdP
      rw [if_neg h1, if_neg h2]
      exact ⟨rfl, rfl⟩
theorem list_ext0 {l : List Int} {n : Nat} {g : Nat → Int} (hl : l.length = n) (h : ∀ k, k < n → g k = l.getD k 0) : (List.range n).map g = l := by
  refine List.ext_getElem (by simp [hl]) (fun k h1 h2 => ?_)
  simp only [List.getElem_map, List.getElem_range]
  rw [h k (by omega)]; simp [List.getD, h2]
theorem mat_ext {R : List (List Int)} {n : Nat} {g : Nat → Nat → Int} (hl : R.length = n) (hr : ∀ r, r < n → (R.getD r []).length = n) (h : ∀ r c, r < n → c < n → g r c = (R.getD r []).getD c 0) : mat n g = R := by
  refine List.ext_getElem (by simp [mat, hl]) (fun r h1 h2 => ?_)
  have e : R.getD r [] = R[r] := by simp [List.getD, h2]
  have hr' : r < n := by omega
  simp only [mat, List.getElem_map, List.getElem_range]
  rw [← e]
  exact list_ext0 (hr r hr') (fun c hc => h r c hr' hc)
theorem pb_text {X : List Tok} {i : Ins} {m : Nat} (hH : Hd X i m) (h : InF i) (hm : m ≤ mI i) :
  (m < mI i → (X.getD (j0I i + m) tz).k = 3 → pbR X = (6, j0I i + m)) ∧ (m = mI i → pbR X = (endR (X.getD (j0I i + m) tz), j0I i + m) ∧ pbI X = i) := by
 have hk := h.kind
 have hn := h.n1
 have hn64 := h.n64
 have hc := h.cost
 obtain ⟨a1, b1, b3, kKN, kAS, kTS, kFU⟩ := hH.head (by omega)
 obtain ⟨n, hne⟩ : ∃ n : Nat, i.n = (n : Int) := ⟨i.n.toNat, by omega⟩
 have hnt : i.n.toNat = n := by omega
 have cnt : ∀ M : Int, i.n ≤ M → cntR (X.getD 1 tz) M = 0 ∧ ctN X 1 M = n := fun M hM => by
  obtain ⟨c0, c1⟩ := cnt_0 (t := X.getD 1 tz) (m := M) (by omega) (by omega) (by omega) (by omega)
  exact ⟨c0, by unfold ctN; rw [c1, b3, hne]; rfl⟩
 have bad : ∀ (f : Nat → Bool), (∀ q, q < m → nuE (f q) (X.getD (j0I i + q) tz) = 0) → (X.getD (j0I i + m) tz).k = 3 → m < mI i → nuR f X (j0I i) (mI i) = (6, j0I i + m) := fun f hall k3 hlt => by
  have e := numR_end (t := X.getD (j0I i + m) tz) (m := 2147483647) k3
  rw [nuR_badP hall rfl (by rw [e.1]; decide) hlt, e.1]
 by_cases h1 : i.kind = 1
 ·
  have hj : j0I i = 2 := by unfold j0I; rw [if_neg (by omega)]
  have hM : mI i = 1 + 2 * n := by unfold mI; rw [if_pos h1, hnt]
  have hw := w3_kn a1 (kKN h1)
  obtain ⟨c0, c1⟩ := cnt 64 (by omega)
  have hall := hH.ok h hm (f := ff) (fun q hq => by cases hq)
  refine ⟨fun hlt k3 => ?_, fun he => ?_⟩
  ·
   have hb := bad ff hall k3 hlt
   rw [hj] at hb ⊢
   exact pb_b hw rfl (bod1 c0 c1 hM hb) (by decide)
  ·
   subst he
   have hb := nuR_ok hall
   rw [hj] at hb ⊢
   refine ⟨pb_e hw rfl (bod1 c0 c1 hM hb), ?_⟩
   rw [← pb_it hw c1]
   have num : ∀ q, q < mI i → (X.getD (2 + q) tz).n = vN i q := fun q hq => by have := (hH.num h hm hq).2; rwa [hj] at this
   have hwl := h.wt
   have hvl := h.vl
   rw [if_pos h1] at hwl hvl hc
   refine Ins.ext h1.symm hne.symm ?_ (list_ext0 (by omega) fun k hk => ?_) (list_ext0 (by omega) fun k hk => ?_) (List.length_eq_zero_iff.1 hc).symm
   ·
    show (X.getD (2 + 0) tz).n = i.cap
    rw [num 0 (by omega)]; unfold vN; rw [if_pos h1, if_pos rfl]
   ·
    show (X.getD (3 + 2 * k) tz).n = _
    rw [show 3 + 2 * k = 2 + (1 + 2 * k) by omega, num _ (by omega)]; unfold vN
    rw [if_pos h1, if_neg (by omega), if_pos (by omega)]; congr 1; omega
   ·
    show (X.getD (4 + 2 * k) tz).n = _
    rw [show 4 + 2 * k = 2 + (2 + 2 * k) by omega, num _ (by omega)]; unfold vN
    rw [if_pos h1, if_neg (by omega), if_neg (by omega)]; congr 1; omega
 ·
  have hM : mI i = n * n := by unfold mI; rw [if_neg h1, hnt]
  have hn24 := h.n24 h1
  have hwl := h.wt
  have hvl := h.vl
  have hcp := h.cap0 h1
  rw [if_neg h1] at hwl hvl hc
  obtain ⟨c0, c1⟩ := cnt 24 (by omega)
  have cells : ∀ j, j0I i = j → (m = mI i) → mat n (rwI X j n) = i.cost := fun j hj he => by
   refine mat_ext (by omega) (fun r hr => by rw [h.row r (by omega)]; exact hnt) (fun r c hr hc' => ?_)
   have hidx := idx_lt hr hc'
   have := (hH.num h hm (q := r * n + c) (by omega)).2
   rw [hj] at this
   show (X.getD (j + (r * n + c)) tz).n = _
   rw [this]; unfold vN
   rw [if_neg h1, hnt, show (r * n + c) / n = r by rw [Nat.mul_comm, Nat.mul_add_div (by omega), Nat.div_eq_of_lt hc']; rfl, show (r * n + c) % n = c by rw [Nat.mul_comm, Nat.mul_add_mod, Nat.mod_eq_of_lt hc']]
  by_cases h2 : i.kind = 2
  ·
   have hj : j0I i = 2 := by unfold j0I; rw [if_neg (by omega)]
   have hw := w3_as a1 (kAS h2)
   have hall := hH.ok h hm (f := ff) (fun q hq => by cases hq)
   refine ⟨fun hlt k3 => ?_, fun he => ?_⟩
   ·
    have hb := bad ff hall k3 hlt
    rw [hj] at hb ⊢
    exact pb_b hw rfl (bod2 c0 c1 hM hb) (by decide)
   ·
    have hcl := cells 2 hj he
    subst he
    have hb := nuR_ok hall
    rw [hj] at hb ⊢
    refine ⟨pb_e hw rfl (bod2 c0 c1 hM hb), ?_⟩
    rw [← pb_as hw c1 hcl.symm]
    exact Ins.ext h2.symm hne.symm hcp.symm (List.length_eq_zero_iff.1 hwl).symm (List.length_eq_zero_iff.1 hvl).symm rfl
  ·
   have h3 : i.kind = 3 := by omega
   have hj : j0I i = 3 := by unfold j0I; rw [if_pos h3]
   have hw := w3_ts a1 (kTS h1 h2)
   have hw2 := w2_fu (kFU h3).1 (kFU h3).2
   have hall := hH.ok h hm (f := dgk 3 n) (fun q hq hlt => by
    have hd : (q % (n + 1) = 0) := (of_decide_eq_true hq).2
    have hn0 : 0 < n := by omega
    have hdl : q / n < n := Nat.div_lt_of_lt_mul (by omega)
    have hml := Nat.mod_lt q hn0
    have hdm := Nat.div_add_mod' q n
    have e := (dg_iff hdl hml).1 (by rw [hdm]; exact hd)
    unfold vN; rw [if_neg h1, hnt, ← e]
    exact h.diag h3 _)
   refine ⟨fun hlt k3 => ?_, fun he => ?_⟩
   ·
    have hb := bad (dgk 3 n) hall k3 hlt
    rw [hj] at hb ⊢
    exact pb_b hw rfl (bod3f c0 c1 hw2 hM hb) (by decide)
   ·
    have hcl := cells 3 hj he
    subst he
    have hb := nuR_ok hall
    rw [hj] at hb ⊢
    refine ⟨pb_e hw rfl (bod3f c0 c1 hw2 hM hb), ?_⟩
    rw [← pb_full hw hw2 c1 hcl.symm]
    exact Ins.ext h3.symm hne.symm hcp.symm (List.length_eq_zero_iff.1 hwl).symm (List.length_eq_zero_iff.1 hvl).symm rfl
theorem prs_of {s : ByteArray} {X : List Tok} (hs : scan s = (X, 0, 0)) : ((pbR X).1 = 0 → prs s = (pbI X, 0, 0)) ∧ ((pbR X).1 ≠ 0 → prs s = (insZ, (X.getD (pbR X).2 tz).a, (pbR X).1)) :=
  ⟨fun h => by rw [prs_ok (by rw [hs]) (by rw [hs]; exact h), hs], fun h => by rw [prs_bad (by rw [hs]) (by rw [hs]; exact h), hs]⟩
theorem bdl1 {a : Int} (h : bd64 a) : ∀ x ∈ [a], bd64 x := fun x hx => by rcases List.mem_cons.1 hx with rfl | hx; exact h; cases hx
theorem bdl2 {a b : Int} (h : bd64 a) (g : bd64 b) : ∀ x ∈ [a, b], bd64 x := fun x hx => by
  rcases List.mem_cons.1 hx with rfl | hx
  · exact h
  · exact bdl1 g x hx
theorem textB_len {i : Ins} (h : InF i) : (textB i).length ≤ 60000 := by
  have hk := h.kind
  have hn := h.n1
  have hn64 := h.n64
  have hc := h.cost
  have hcp := h.cap
  have l1 := itoa_len' (n := i.n) (by unfold bd64; omega)
  have i1 := itemsB_len h i.n.toNat
  have r1 := rowsB_len h i.cost.length (Nat.le_refl _)
  have c1 := lineB_len (l := [i.n, i.cap]) (bdl2 (by unfold bd64; omega) (by unfold bd64; omega))
  have c2 := lineB_len (l := [i.n]) (bdl1 (by unfold bd64; omega))
  unfold textB headB
  by_cases h1 : i.kind = 1
  · rw [if_pos h1] at hc
    rw [if_pos h1, if_pos h1]
    simp only [List.length_append, List.length_cons, List.length_nil, nameB] at c1 ⊢
    rw [hc] at r1 ⊢
    simp; omega
  · rw [if_neg h1] at hc
    have hn24 := h.n24 h1
    rw [if_neg h1, if_neg h1]
    split
    · simp only [List.length_append, List.length_cons, List.length_nil] at c2 ⊢
      simp [nameB]; omega
    · simp only [List.length_append, List.length_cons, List.length_nil]
      simp [nameB]; omega
theorem prs_text {i : Ins} (h : InF i) : prs (bs (textB i)) = (i, 0, 0) := by
  have hl := textB_len h
  have ht := textB_txt h
  rw [ht] at hl ⊢
  have hs := txt_scan (pcs_gd h) (by omega)
  have hR := rds_of (pcs i) (txt (pcs i)).length
  have hp := pcs_len h
  obtain ⟨h1, h2⟩ := (pb_text (m := mI i) (fun j hj => hR.at_ j (by omega)) h (Nat.le_refl _)).2 rfl
  have he : endR ((toks 0 (pcs i) ++ [(⟨3, ⟨#[]⟩, 0, ((txt (pcs i)).length : Int)⟩ : Tok)]).getD (j0I i + mI i) tz) = 0 := by
    rw [← hp]; exact if_neg (not_not_intro hR.end_.1)
  rw [(prs_of hs).1 (by rw [h1]; exact he), h2]
end Go.Proofs.YtakfcekfmdjklaaDoor
namespace Go.Proofs.YtakfcekfmdjklaaDoor
theorem numE_ok {x : Int} (h : 0 ≤ x ∧ x ≤ 2147483647) : numE x = 0 := by unfold numE; rw [if_neg (by omega), if_neg (by omega)]
theorem nu_rng {X : List Tok} (hX : Toks X) {f : Nat → Bool} {j m : Nat} (h : (nuR f X j m).1 = 0) : ∀ q, q < m → 0 ≤ vl X j q ∧ vl X j q ≤ 2147483647 ∧ (f q = true → vl X j q = 0) := fun q hq => by
  have h1 := nuE_zero ((nuR_zero h).1 q hq)
  obtain ⟨h2, -, -, h3⟩ := numN_eq h1.1
  exact ⟨hX.num _, h3, fun hf => by have := h1.2 hf; rw [h2] at this; exact this⟩
theorem mat_cell {n r c : Nat} {g : Nat → Nat → Int} (hr : r < n) (hc : c < n) : ((mat n g).getD r []).getD c 0 = g r c := by
  rw [mat_row hr]; simp [List.getD, hc]
theorem form_mat {kd : Int} {n : Nat} {g : Nat → Nat → Int} (hk : kd = 2 ∨ kd = 3) (h1 : 1 ≤ n) (h24 : n ≤ 24) (hg : ∀ r c, r < n → c < n → 0 ≤ g r c ∧ g r c ≤ 2147483647) (hd : kd = 3 → ∀ r, r < n → g r r = 0) :
    sizeE ⟨kd, n, 0, [], [], mat n g⟩ = 0 ∧ shapeOK ⟨kd, n, 0, [], [], mat n g⟩ ∧ numsE ⟨kd, n, 0, [], [], mat n g⟩ = 0 := by
  refine ⟨?_, .inr ⟨by show kd ≠ 1; omega, by show ((mat n g).length : Int) = n; rw [mat_len], rfl, rfl, rfl, fun r hr => ?_⟩, ?_⟩
  · unfold sizeE; rw [if_neg (by simp only; omega), if_neg (by simp only; omega), if_neg (by simp only; omega)]
  · have hr' : r < n := by have : r < (mat n g).length := hr; rwa [mat_len] at this
    show (((mat n g).getD r []).length : Int) = n
    rw [mat_row hr']; simp
  · unfold numsE
    rw [if_neg (by show ¬ kd = 1; omega)]
    show pfx _ ((n : Int)).toNat = 0
    rw [Int.toNat_natCast]
    refine pfx_all n (fun r hr => pfx_all n (fun c hc => ?_))
    unfold cellF
    have e : (((⟨kd, (n : Int), 0, [], [], mat n g⟩ : Ins).cost).getD r []).getD c 0 = g r c := mat_cell hr hc
    rw [e, numE_ok (hg r c hr hc), if_neg (by simp), if_neg (fun q => ?_)]
    obtain ⟨⟨q1, q2⟩, q3⟩ := q
    subst q2
    exact q3 (hd q1 r hr)
theorem pb_form {X : List Tok} (hX : Toks X) (h : (pbR X).1 = 0) : sizeE (pbI X) = 0 ∧ shapeOK (pbI X) ∧ numsE (pbI X) = 0 := by
 by_cases hw : (wordR (X.getD 0 tz) W3).2 = 0
 ·
  have hrg := wordR_rng _ _ hw
  rw [show (W3 : List ByteArray).length = 3 from rfl] at hrg
  obtain ⟨kd, hkd⟩ : ∃ kd, (wordR (X.getD 0 tz) W3).1 + 1 = kd := ⟨_, rfl⟩
  rw [pbR_in hw hkd] at h
  have hb : (bodR X kd 1).1 = 0 := by
   by_cases q : (bodR X kd 1).1 = 0
   · exact q
   · rw [finR_err q] at h; exact absurd h q
  by_cases k1 : kd = 1
  ·
   subst k1
   rw [bodR_it] at hb
   by_cases hc : cntR (X.getD 1 tz) 64 = 0
   ·
    obtain ⟨n, hn, hcn, h1, h64, -⟩ := hX.ct hc
    rw [itR_num hc hcn] at hb
    have hr := nu_rng hX hb
    rw [← pbI_it hkd hcn]
    refine ⟨?_, .inl ⟨rfl, by show ((itI X 3 n).length : Int) = n; rw [itI_len], by show ((itI X 4 n).length : Int) = n; rw [itI_len], rfl⟩, ?_⟩
    · unfold sizeE; rw [if_neg (by simp only; omega), if_neg (by simp only; omega), if_neg (by simp only; omega)]
    ·
     unfold numsE
     rw [if_pos rfl]
     have hcap := hr 0 (by omega)
     have e0 : numE (X.getD 2 tz).n = 0 := numE_ok ⟨hcap.1, hcap.2.1⟩
     show (if numE (X.getD 2 tz).n ≠ 0 then numE (X.getD 2 tz).n else pfx _ ((n : Int)).toNat) = 0
     rw [if_neg (not_not_intro e0), Int.toNat_natCast]
     refine pfx_all n (fun k hk => ?_)
     have g : ∀ j, k < n → (itI X j n).getD k 0 = vl X j (2 * k) := fun j hk => by simp [itI, List.getD, hk]
     unfold itF
     show (if numE ((itI X 3 n).getD k 0) ≠ 0 then numE ((itI X 3 n).getD k 0) else numE ((itI X 4 n).getD k 0)) = 0
     rw [g 3 hk, g 4 hk]
     have r1 := hr (1 + 2 * k) (by omega)
     have r2 := hr (2 + 2 * k) (by omega)
     have v1 : vl X 3 (2 * k) = vl X (1 + 1) (1 + 2 * k) := by unfold vl; congr 2; omega
     have v2 : vl X 4 (2 * k) = vl X (1 + 1) (2 + 2 * k) := by unfold vl; congr 2; omega
     rw [v1, v2, numE_ok ⟨r1.1, r1.2.1⟩, numE_ok ⟨r2.1, r2.2.1⟩]; rfl
   · rw [itR_cnt hc] at hb; exact absurd hb hc
  ·
   by_cases k3 : kd = 3
   ·
    subst k3
    rw [bodR_to] at hb
    by_cases hc : cntR (X.getD 1 tz) 24 = 0
    ·
     obtain ⟨n, hn, hcn, h1, h24, -⟩ := hX.ct hc
     by_cases hw2 : (wordR (X.getD 2 tz) W2).2 = 0
     ·
      by_cases hl : (wordR (X.getD 2 tz) W2).1 = 0
      ·
       rw [toR_full hc hcn hw2 hl] at hb
       have hr := nu_rng hX hb
       rw [← pbI_full (R := mat n (rwI X 3 n)) hkd hcn (by rw [if_pos hl])]
       refine form_mat (.inr rfl) h1 (by omega) (fun r c hr' hc' => ?_) (fun _ r hr' => ?_)
       · have := hr (r * n + c) (idx_lt hr' hc'); exact ⟨this.1, this.2.1⟩
       · exact (hr (r * n + r) (idx_lt hr' hr')).2.2 (decide_eq_true ⟨rfl, (dg_iff hr' hr').2 rfl⟩)
      ·
       rw [toR_half hc hcn hw2 hl] at hb
       have hr := nu_rng hX hb
       rw [← pbI_full (R := mat n (hfI X 3 n)) hkd hcn (by rw [if_neg hl])]
       refine form_mat (.inr rfl) h1 (by omega) (fun r c hr' hc' => ?_) (fun _ r _ => hfI_diag X 3 n r)
       rcases Nat.lt_trichotomy r c with g | g | g
       ·
        unfold hfI; rw [if_neg (by omega)]
        have := hr (hxI n r c) (hxI_hlf g hc'); exact ⟨this.1, this.2.1⟩
       · subst g; rw [hfI_diag]; decide
       ·
        rw [hfI_sym]; unfold hfI; rw [if_neg (by omega)]
        have := hr (hxI n c r) (hxI_hlf g hr'); exact ⟨this.1, this.2.1⟩
     · rw [toR_word hc hw2] at hb; exact absurd hb hw2
    · rw [toR_cnt hc] at hb; exact absurd hb hc
   ·
    have k2 : kd = 2 := by omega
    rw [bodR_as k1 k3] at hb
    by_cases hc : cntR (X.getD 1 tz) 24 = 0
    ·
     obtain ⟨n, hn, hcn, h1, h24, -⟩ := hX.ct hc
     rw [asR_num hc hcn] at hb
     have hr := nu_rng hX hb
     rw [← pbI_as hkd k2 hcn (R := mat n (rwI X 2 n)) rfl]
     refine form_mat (.inl k2) h1 (by omega) (fun r c hr' hc' => ?_) (fun h3 => absurd h3 k3)
     have := hr (r * n + c) (idx_lt hr' hc'); exact ⟨this.1, this.2.1⟩
    · rw [asR_cnt hc] at hb; exact absurd hb hc
 · rw [pbR_word hw] at h; exact absurd h hw
end Go.Proofs.YtakfcekfmdjklaaDoor
namespace Go.Proofs.YtakfcekfmdjklaaDoor
open Go.RowKit
theorem chk_of {i : Ins} (h : sizeE i = 0 ∧ shapeOK i ∧ numsE i = 0) : chk i = 0 := by unfold chk; rw [if_neg (not_not_intro h.1), if_pos h.2.1, h.2.2]
theorem prs_form {s : ByteArray} {G : Ins} {p : Int} (h : prs s = (G, p, 0)) : chk G = 0 ∧ p = 0 := by
  by_cases h1 : (scan s).2.2 = 0
  · by_cases h2 : (pbR (scan s).1).1 = 0
    · rw [prs_ok h1 h2] at h
      simp only [Prod.mk.injEq, and_true] at h
      rw [← h.1]
      exact ⟨chk_of (pb_form (scan_toks h1 (scan_len s)) h2), h.2.symm⟩
    · rw [prs_bad h1 h2] at h
      simp only [Prod.mk.injEq] at h
      exact absurd h.2.2 h2
  · rw [prs_scan h1] at h
    simp only [Prod.mk.injEq] at h
    exact absurd h.2.2 h1
theorem wtxt_ok {i : Ins} (h : chk i = 0) : wtxt i = textB i := if_pos h
theorem prs_wtxt {i : Ins} (h : chk i = 0) : prs (bs (wtxt i)) = (i, 0, 0) := by rw [wtxt_ok h]; exact prs_text (chk_inF h)
theorem wtxt_len {i : Ins} (h : chk i = 0) : (wtxt i).length ≤ 60000 := by rw [wtxt_ok h]; exact textB_len (chk_inF h)
theorem inF_len {i : Ins} (h : InF i) : i.wt.length ≤ 64 ∧ i.vl.length ≤ 64 ∧ i.cost.length ≤ 64 := by
  have h1 := h.wt
  have h2 := h.vl
  have h3 := h.cost
  have h4 := h.n64
  refine ⟨?_, ?_, ?_⟩
  · rw [h1]; split <;> omega
  · rw [h2]; split <;> omega
  · rw [h3]; split <;> omega
end Go.Proofs.YtakfcekfmdjklaaDoor
namespace Go.Proofs.YtakfcekfmdjklaaDoor
open Go.RowKit
theorem sum_wrap (a b : Int) : wrap64 (IntKind.u64.wrap (IntKind.u64.wrap a + IntKind.u64.wrap b)) = (a + b + 9223372036854775808) % 18446744073709551616 - 9223372036854775808 := by
  rw [← IntWalk.i64_left, IntKind.wrap_i64, IntKind.wrap_u64, IntKind.wrap_u64, IntKind.wrap_u64]; omega
theorem over_sum {a b S : Int} (a0 : -9223372036854775808 ≤ a) (a1 : a ≤ 9223372036854775807) (b0 : -9223372036854775808 ≤ b) (b1 : b ≤ 9223372036854775807)
    (hS : S = (a + b + 9223372036854775808) % 18446744073709551616 - 9223372036854775808) (h1 : a < 0 ↔ b < 0) (h2 : ¬ (S < 0 ↔ b < 0)) : intN (a + b) = 0 ∧ intB (a + b) = false :=
  int_no (by omega)
theorem fine_sum {a b S : Int} (a0 : -9223372036854775808 ≤ a) (a1 : a ≤ 9223372036854775807) (b0 : -9223372036854775808 ≤ b) (b1 : b ≤ 9223372036854775807)
    (hS : S = (a + b + 9223372036854775808) % 18446744073709551616 - 9223372036854775808) (h : ¬ (a < 0 ↔ b < 0) ∨ (S < 0 ↔ b < 0)) : intN (a + b) = S ∧ intB (a + b) = true := by
  have := int_yes (v := a + b) (by omega)
  exact ⟨by rw [this.1]; omega, this.2⟩
set_option maxHeartbeats 400000 in
theorem a_add (a b : Int) (a0 : -9223372036854775808 ≤ a) (a1 : a ≤ 9223372036854775807) (b0 : -9223372036854775808 ≤ b) (b1 : b ≤ 9223372036854775807) (w : World) :
    Calls Tryd.prog 51 #[.int .i64 a, .int .i64 b] w fun e w' => e = .returned (.tuple #[.int .i64 (intN (a + b)), .bool (intB (a + b))]) ∧ w = w' := by
  have HS := hid (sum_wrap a b)
  go_enter Tryd.func51, Tryd.ntmps51
  go_wp2
  · rename_i h1 h2
    have := over_sum a0 a1 b0 b1 HS.out h1 (by intro h; simp [h] at h2)
    go_ret2
    exact ⟨ret_ib this.1.symm this.2.symm, rfl⟩
  · rename_i h1 h2
    have := fine_sum a0 a1 b0 b1 HS.out (by right; simpa using h2)
    go_ret2
    exact ⟨ret_ib this.1.symm this.2.symm, rfl⟩
  · rename_i h1
    have := fine_sum a0 a1 b0 b1 HS.out (.inl h1)
    go_ret2
    exact ⟨ret_ib this.1.symm this.2.symm, rfl⟩
end Go.Proofs.YtakfcekfmdjklaaDoor
namespace Go.Proofs.YtakfcekfmdjklaaDoor
open Go.RowKit
theorem add_ok (a b : Int) (a0 : -9223372036854775808 ≤ a) (a1 : a ≤ 9223372036854775807) (b0 : -9223372036854775808 ≤ b) (b1 : b ≤ 9223372036854775807) (h : -9223372036854775808 ≤ a + b ∧ a + b ≤ 9223372036854775807) (w : World) :
    Calls Tryd.prog 51 #[.int .i64 a, .int .i64 b] w fun e w' => e = .returned (.tuple #[.int .i64 (a + b), .bool true]) ∧ w = w' := by
  have := a_add a b a0 a1 b0 b1 w
  rwa [(int_yes h).1, (int_yes h).2] at this
end Go.Proofs.YtakfcekfmdjklaaDoor
namespace Go.Proofs.YtakfcekfmdjklaaDoor
open Go.RowKit
def cb (kd : Int) (a b : Nat) : Nat := if kd = 3 ∧ a < b then b - 1 else b
def i0 : Ins := ⟨0, 0, 0, [], [], []⟩
section
variable {w0 w w' : World} {F : Nat → Prop} {L : List Ck} {e t : TypeId} {b n : Nat}
end
end Go.Proofs.YtakfcekfmdjklaaDoor
namespace Go.Proofs.YtakfcekfmdjklaaDoor
open Go.RowKit
theorem plF_pos {s : ByteArray} {q : Int} : ∀ (f p : Nat) (l c : Int), 1 ≤ l → 1 ≤ c → 1 ≤ (plF s q f p l c).1 ∧ 1 ≤ (plF s q f p l c).2
  | 0, p, l, c, h, g => ⟨h, g⟩
  | f + 1, p, l, c, h, g => by
    by_cases hp : p < s.size ∧ (p : Int) < q
    · rw [plF_step hp.1 hp.2 (Nat.succ_pos f)]
      refine plF_pos f _ _ _ ?_ ?_
      · split <;> omega
      · split <;> omega
    · rw [plF_stop hp]; exact ⟨h, g⟩
theorem plI_pos (s : ByteArray) (q : Int) : 1 ≤ (plI s q).1 ∧ 1 ≤ (plI s q).2 := plF_pos _ _ _ _ (by decide) (by decide)
theorem scF_at (s : ByteArray) : ∀ f p X, p ≤ s.size → 0 ≤ (scF s f p X).2.1 ∧ (scF s f p X).2.1 ≤ s.size
  | 0, p, X, h => by simp [scF]
  | f + 1, p, X, h => by
    by_cases hp : p < s.size
    · have hb := lst_bd hp
      by_cases he : (lst s p).1 = 0
      · rw [scF_go hp (Nat.succ_pos f) he]; exact scF_at s f _ _ hb.2.1
      · rw [scF_err hp (Nat.succ_pos f) he]
        refine ⟨Int.natCast_nonneg _, ?_⟩
        have := hb.2.1
        show (((lst s p).2.1 : Nat) : Int) ≤ _
        omega
    · rw [scF_end hp]; exact ⟨Int.le_refl _, Int.natCast_nonneg _⟩
theorem prs_at {s : ByteArray} {G : Ins} {p e : Int} (h : prs s = (G, p, e)) (he : e ≠ 0) : G = insZ ∧ 0 ≤ p ∧ p ≤ s.size := by
  by_cases h1 : (scan s).2.2 = 0
  · by_cases h2 : (pbR (scan s).1).1 = 0
    · rw [prs_ok h1 h2] at h
      simp only [Prod.mk.injEq] at h
      exact absurd h.2.2.symm he
    · rw [prs_bad h1 h2] at h
      simp only [Prod.mk.injEq] at h
      refine ⟨h.1.symm, ?_⟩
      rw [← h.2.1]
      obtain ⟨Y, hY, hT, -⟩ := (scan_TI s).1 h1
      rw [hY]
      show 0 ≤ ((Y ++ [tend s]).getD _ tz).a ∧ ((Y ++ [tend s]).getD _ tz).a ≤ _
      generalize (pbR (Y ++ [tend s], (0 : Int), (0 : Int)).1).2 = j
      rcases Nat.lt_trichotomy j Y.length with g | g | g
      · rw [getD_app1 g]
        have := (hT j g).1
        unfold tokOK at this; omega
      · subst g; rw [getD_app2]; exact ⟨Int.natCast_nonneg _, Int.le_refl _⟩
      · rw [List.getD_eq_getElem?_getD, List.getElem?_eq_none (by rw [List.length_append]; simp; omega)]
        exact ⟨Int.le_refl _, Int.natCast_nonneg _⟩
  · rw [prs_scan h1] at h
    simp only [Prod.mk.injEq] at h
    refine ⟨h.1.symm, ?_⟩
    rw [← h.2.1]
    unfold scan
    split
    · exact ⟨Int.le_refl _, Int.natCast_nonneg _⟩
    · exact scF_at s _ _ _ (Nat.zero_le _)
theorem scan_wtxt {i : Ins} (h : chk i = 0) : ∃ X, scan (bs (wtxt i)) = (X, 0, 0) ∧ 3 ≤ X.length := by
  have hF := chk_inF h
  have hl := textB_len hF
  have hp := pcs_len hF
  rw [wtxt_ok h]
  rw [textB_txt hF] at hl ⊢
  refine ⟨_, txt_scan (pcs_gd hF) (by omega), ?_⟩
  rw [List.length_append, toks_len, hp]
  have : 2 ≤ j0I i := by unfold j0I; split <;> omega
  simp; omega
theorem iSame_eqK (i : Ins) (ax3 : Option Addr) (cx3 : Nat) (ax4 : Option Addr) (cx4 : Nat) (ax5 : Option Addr) (cx5 : Nat) (ay3 : Option Addr) (cy3 : Nat) (ay4 : Option Addr) (cy4 : Nat) (ay5 : Option Addr) (cy5 : Nat) (w : World) (hx3 : IntSl w (.slice ax3 i.wt.length cx3) i.wt) (hx4 : IntSl w (.slice ax4 i.vl.length cx4) i.vl) (hx5 : RowsV w (.slice ax5 i.cost.length cx5) i.cost) (hy3 : IntSl w (.slice ay3 i.wt.length cy3) i.wt) (hy4 : IntSl w (.slice ay4 i.vl.length cy4) i.vl) (hy5 : RowsV w (.slice ay5 i.cost.length cy5) i.cost) :
    Calls Tryd.prog 26 #[.agg #[.int .i64 i.kind, .int .i64 i.n, .int .i64 i.cap, .slice ax3 i.wt.length cx3, .slice ax4 i.vl.length cx4, .slice ax5 i.cost.length cx5], .agg #[.int .i64 i.kind, .int .i64 i.n, .int .i64 i.cap, .slice ay3 i.wt.length cy3, .slice ay4 i.vl.length cy4, .slice ay5 i.cost.length cy5]] w fun e w' => e = .returned (.bool true) ∧ Below w.heap.size w w' :=
  (iSame i ax3 cx3 ax4 cx4 ax5 cx5 i ay3 cy3 ay4 cy4 ay5 cy5 w hx3 hx4 hx5 hy3 hy4 hy5).mono fun e w' h => ⟨by rw [h.1, decide_eq_true rfl], h.2⟩
set_option maxRecDepth 100000 in
set_option maxHeartbeats 400000 in
theorem stands_any  (w : World) :
    Calls Tryd.prog 31 #[] w fun e w' => e = .returned (.bool true) ∧ w = w' := by
  have hbs := Below.refl (B := w.heap.size) w
  have hM := Mem.start w
  refine Calls.of_ends (vs := []) Tryd.func31 rfl Tryd.ntmps31 rfl ?_
  intro a hA
  replace hA : St 12 [] a := hA
  refine Ends.seq (Ends.region ?_)
  refine S.val hA (R.assign rfl) rfl ?_; clear hA a; intro a hA
  refine S.done ?_
  refine Ends.seq (Ends.region ?_)
  refine S.call hA (R.callF Tryd.func51 rfl rfl rfl) rfl (add_ok 2 3 (by decide) (by decide) (by decide) (by decide) (by decide) _) ?_; clear hA a
  rintro e w1 ⟨rfl, rfl⟩
  refine ⟨.tuple #[.int .i64 5, .bool true], rfl, fun a hA => ?_⟩
  refine S.val hA (R.move rfl) rfl ?_; clear hA a; intro a hA
  refine S.val hA (R.extract (v := .int .i64 5) rfl rfl) rfl ?_; clear hA a; intro a hA
  refine S.val hA (R.extract (v := .bool true) rfl rfl) rfl ?_; clear hA a; intro a hA
  refine S.val hA (R.assign rfl) rfl ?_; clear hA a; intro a hA
  refine S.val hA (R.assign rfl) rfl ?_; clear hA a; intro a hA
  refine S.done ?_
  replace hA : St 12 [(1, _), (2, _)] a := hA.sub ((.cons rfl (.cons rfl .nil)))
  refine Ends.seq (Ends.region ?_)
  refine S.val hA (R.move rfl) rfl ?_; clear hA a; intro a hA
  refine S.val hA (R.move rfl) rfl ?_; clear hA a; intro a hA
  refine S.valg (dj := 8) hA (by kernel_rfl) rfl (R.move rfl) rfl ?_; clear hA a; intro a hA
  refine S.valg (dj := 8) hA (by kernel_rfl) rfl (R.tt (R.eql rfl rfl) (by first | decide | simp | omega)) rfl ?_; clear hA a; intro a hA
  refine S.val hA (R.pickT rfl rfl) rfl ?_; clear hA a; intro a hA
  refine S.val hA (R.assign rfl) rfl ?_; clear hA a; intro a hA
  refine S.done ?_
  replace hA : St 12 [(0, _)] a := hA.sub ((.cons rfl .nil))
  refine Ends.ret1 Tryd.func31 Tryd.results31 hA rfl ?_
  exact ⟨rfl, rfl⟩
set_option maxRecDepth 100000 in
set_option maxHeartbeats 400000 in
theorem kurganTexts_w (s : ByteArray) (hs : s.size ≤ 9223372036854775807) (w : World) (htab : Lib.TabIs Tryd.prog w "internal/strconv.uint64pow10" .u64 Lib.pow10Tab) (hut : U8T w) :
  Calls Tryd.prog 13 #[.string s] w fun e w' => e = .returned (.bool true) ∧ Below w.heap.size w w' := by
 have hbs := Below.refl (B := w.heap.size) w
 have hM := Mem.start w
 refine Calls.of_ends (vs := [.string s]) Tryd.func13 rfl Tryd.ntmps13 rfl ?_
 intro a hA
 replace hA : St 110 [(0, _)] a := hA
 refine Ends.seq (Ends.region ?_)
 refine S.val hA (R.assign rfl) rfl ?_; clear hA a; intro a hA
 refine S.done ?_
 refine Ends.seq (Ends.seq (Ends.region ?_))
 refine S.call hA (R.callF Tryd.func31 rfl rfl rfl) rfl (stands_any _) ?_; clear hA a
 rintro e w1 ⟨rfl, rfl⟩
 refine ⟨.bool true, rfl, fun a hA => ?_⟩
 refine S.val hA (R.not rfl) rfl ?_; clear hA a; intro a hA
 refine S.val hA (R.move rfl) rfl ?_; clear hA a; intro a hA
 refine S.valg (dj := 18) hA (by kernel_rfl) rfl (R.move rfl) rfl ?_; clear hA a; intro a hA
 refine S.valg (dj := 18) hA (by kernel_rfl) rfl (R.lenStr Tryd.underlying9 rfl rfl) rfl ?_; clear hA a; intro a hA
 refine S.valg (dj := 18) hA (by kernel_rfl) rfl (R.gtr rfl rfl) rfl ?_; clear hA a; intro a hA
 refine S.val hA (R.pickF rfl rfl) rfl ?_; clear hA a; intro a hA
 refine S.done ?_
 replace hA : St 110 [(0, _), (22, _)] a := hA.sub ((.cons rfl (.cons rfl .nil)))
 refine Ends.ite hA rfl (fun hc1 => ?_) (fun hc1 => ?_)
 ·
  refine Ends.seq (Ends.region ?_)
  refine S.call hA (R.callF Tryd.func31 rfl rfl rfl) rfl (stands_any _) ?_; clear hA a
  rintro e w2 ⟨rfl, rfl⟩
  refine ⟨.bool true, rfl, fun a hA => ?_⟩
  refine S.val hA (R.assign rfl) rfl ?_; clear hA a; intro a hA
  refine S.done ?_
  refine Ends.ret1 Tryd.func13 Tryd.results13 hA rfl ?_
  exact ⟨rfl, Mem.trans0 hbs hM.nilL⟩
 ·
  refine Ends.skip (Ends.seq (Ends.region ?_))
  refine S.val hA (R.move rfl) rfl ?_; clear hA a; intro a hA
  obtain ⟨G1, pa1, pe1, hpr1⟩ : ∃ G p e, prs s = (G, p, e) := ⟨_, _, _, rfl⟩
  refine S.call hA (R.callF Tryd.func28 rfl rfl rfl) rfl (parse_eq s (by omega) G1 pa1 pe1 hpr1 _ (U8T.below hut (Mem.trans0 hbs hM.nilL))) ?_; clear hA a
  rintro e w3 ⟨ap23, cp23, ap24, cp24, ap25, cp25, rfl, ⟨hp23, hp24, hp25⟩, hb⟩
  replace hM := hM.callB hb; clear hb
  have hbs := hbs.trans (hM.below.mono hbs.size)
  replace hM := Mem.start w3
  refine ⟨.tuple #[.agg #[.int .i64 G1.kind, .int .i64 G1.n, .int .i64 G1.cap, .slice ap23 G1.wt.length cp23, .slice ap24 G1.vl.length cp24, .slice ap25 G1.cost.length cp25], .int .i64 pa1, .int .i64 pe1], rfl, fun a hA => ?_⟩
  refine S.val hA (R.move rfl) rfl ?_; clear hA a; intro a hA
  refine S.val hA (R.extract (v := .agg #[.int .i64 G1.kind, .int .i64 G1.n, .int .i64 G1.cap, .slice ap23 G1.wt.length cp23, .slice ap24 G1.vl.length cp24, .slice ap25 G1.cost.length cp25]) rfl rfl) rfl ?_; clear hA a; intro a hA
  refine S.val hA (R.extract (v := .int .i64 pa1) rfl rfl) rfl ?_; clear hA a; intro a hA
  refine S.val hA (R.extract (v := .int .i64 pe1) rfl rfl) rfl ?_; clear hA a; intro a hA
  refine S.alloc hA hM info25 rfl rfl ?_; clear hA hM a; intro b3 w4 hb4 hM a hA
  replace hM : Mem _ _ [pt b3 #[.int .i64 0, .int .i64 0, .int .i64 0, .slice none 0 0, .slice none 0 0, .slice none 0 0] 25] _ := hM
  refine S.storeA (k := 0) hA hM sz25 rfl rfl rfl rfl rfl rfl ?_; clear hM
  intro w5 hM
  replace hM : Mem _ _ [pt b3 #[.int .i64 G1.kind, .int .i64 G1.n, .int .i64 G1.cap, .slice ap23 G1.wt.length cp23, .slice ap24 G1.vl.length cp24, .slice ap25 G1.cost.length cp25] 25] _ := hM
  refine S.val hA (R.assign rfl) rfl ?_; clear hA a; intro a hA
  refine S.val hA (R.assign rfl) rfl ?_; clear hA a; intro a hA
  refine S.done ?_
  replace hA : St 110 [(0, _), (3, _), (4, _), (5, _)] a := hA.sub ((.cons rfl (.cons rfl (.cons rfl (.cons rfl .nil)))))
  refine Ends.seq (Ends.seq (Ends.region ?_))
  refine S.val hA (R.move rfl) rfl ?_; clear hA a; intro a hA
  refine S.val hA (R.neq rfl rfl) rfl ?_; clear hA a; intro a hA
  refine S.done ?_
  refine Ends.ite hA rfl (fun hc5 => ?_) (fun hc5 => ?_)
  ·
   obtain ⟨hGz, ha0, ha1⟩ := prs_at hpr1 hc5
   have hpp := plI_pos s pa1
   have hk9 : G1.kind = 0 := by rw [hGz]; rfl
   have hn9 : G1.n = 0 := by rw [hGz]; rfl
   refine Ends.seq (Ends.region ?_)
   refine S.val hA (R.move rfl) rfl ?_; clear hA a; intro a hA
   refine S.val hA (R.move rfl) rfl ?_; clear hA a; intro a hA
   refine S.call hA (R.callF Tryd.func32 rfl rfl rfl) rfl (place_any s pa1 (by omega) _) ?_; clear hA a
   rintro e w6 ⟨rfl, hb⟩
   replace hM := hM.callB hb; clear hb
   refine ⟨.tuple #[.int .i64 ((plI s pa1).1), .int .i64 ((plI s pa1).2)], rfl, fun a hA => ?_⟩
   refine S.val hA (R.move rfl) rfl ?_; clear hA a; intro a hA
   refine S.val hA (R.extract (v := .int .i64 ((plI s pa1).1)) rfl rfl) rfl ?_; clear hA a; intro a hA
   refine S.val hA (R.extract (v := .int .i64 ((plI s pa1).2)) rfl rfl) rfl ?_; clear hA a; intro a hA
   refine S.val hA (R.assign rfl) rfl ?_; clear hA a; intro a hA
   refine S.val hA (R.assign rfl) rfl ?_; clear hA a; intro a hA
   refine S.done ?_
   replace hA : St 110 [(0, _), (3, _), (4, _), (6, _), (7, _)] a := hA.sub ((.cons rfl (.cons rfl (.cons rfl (.cons rfl (.cons rfl .nil))))))
   refine Ends.seq (Ends.region ?_)
   refine S.val hA (R.move rfl) rfl ?_; clear hA a; intro a hA
   refine S.val hA (R.tt (R.geq rfl rfl) (by omega)) rfl ?_; clear hA a; intro a hA
   refine S.val hA (R.move rfl) rfl ?_; clear hA a; intro a hA
   refine S.valg (dj := 40) hA (by kernel_rfl) rfl (R.move rfl) rfl ?_; clear hA a; intro a hA
   refine S.valg (dj := 40) hA (by kernel_rfl) rfl (R.move rfl) rfl ?_; clear hA a; intro a hA
   refine S.valg (dj := 40) hA (by kernel_rfl) rfl (R.lenStr Tryd.underlying9 rfl rfl) rfl ?_; clear hA a; intro a hA
   refine S.valg (dj := 40) hA (by kernel_rfl) rfl (R.tt (R.leq rfl rfl) (by omega)) rfl ?_; clear hA a; intro a hA
   refine S.val hA (R.pickT rfl rfl) rfl ?_; clear hA a; intro a hA
   refine S.val hA (R.move rfl) rfl ?_; clear hA a; intro a hA
   refine S.valg (dj := 46) hA (by kernel_rfl) rfl (R.move rfl) rfl ?_; clear hA a; intro a hA
   refine S.valg (dj := 46) hA (by kernel_rfl) rfl (R.tt (R.geq rfl rfl) (by omega)) rfl ?_; clear hA a; intro a hA
   refine S.val hA (R.pickT rfl rfl) rfl ?_; clear hA a; intro a hA
   refine S.val hA (R.move rfl) rfl ?_; clear hA a; intro a hA
   refine S.valg (dj := 50) hA (by kernel_rfl) rfl (R.move rfl) rfl ?_; clear hA a; intro a hA
   refine S.valg (dj := 50) hA (by kernel_rfl) rfl (R.tt (R.geq rfl rfl) (by omega)) rfl ?_; clear hA a; intro a hA
   refine S.val hA (R.pickT rfl rfl) rfl ?_; clear hA a; intro a hA
   refine S.val hA (R.move rfl) rfl ?_; clear hA a; intro a hA
   refine S.valg (dj := 54) hA (by kernel_rfl) rfl (R.fieldAddr (q := 0) fi25_0 rfl rfl rfl) rfl ?_; clear hA a; intro a hA
   refine S.valg (dj := 54) hA (by kernel_rfl) rfl (R.load sz3 rfl (hM.cell (k := 0) rfl rfl)) rfl ?_; clear hA a; intro a hA
   refine S.valg (dj := 54) hA (by kernel_rfl) rfl (R.tt (R.eql rfl rfl) (by omega)) rfl ?_; clear hA a; intro a hA
   refine S.val hA (R.pickT rfl rfl) rfl ?_; clear hA a; intro a hA
   refine S.val hA (R.move rfl) rfl ?_; clear hA a; intro a hA
   refine S.valg (dj := 59) hA (by kernel_rfl) rfl (R.fieldAddr (q := 1) fi25_1 rfl rfl rfl) rfl ?_; clear hA a; intro a hA
   refine S.valg (dj := 59) hA (by kernel_rfl) rfl (R.load sz3 rfl (hM.cell (k := 0) rfl rfl)) rfl ?_; clear hA a; intro a hA
   refine S.valg (dj := 59) hA (by kernel_rfl) rfl (R.tt (R.eql rfl rfl) (by omega)) rfl ?_; clear hA a; intro a hA
   refine S.val hA (R.pickT rfl rfl) rfl ?_; clear hA a; intro a hA
   refine S.val hA (R.assign rfl) rfl ?_; clear hA a; intro a hA
   refine S.done ?_
   replace hA : St 110 [(2, _), (3, _), (4, _)] a := hA.sub ((.cons rfl (.cons rfl (.cons rfl .nil))))
   refine Ends.ret1 Tryd.func13 Tryd.results13 hA rfl ?_
   exact ⟨rfl, Mem.trans0 hbs hM.nilL⟩
  ·
   have hpe : pe1 = 0 := Decidable.not_not.1 hc5
   subst hpe
   obtain ⟨hz1, hpa⟩ := prs_form hpr1
   have hF1 := chk_inF hz1
   obtain ⟨hl1, hl2, hl3⟩ := inF_len hF1
   obtain ⟨X, hsX, hX3⟩ := scan_wtxt hz1
   refine Ends.skip (Ends.seq (Ends.region ?_))
   refine S.val hA (R.loadA sz25 rfl (hM.range (k := 0) rfl) rfl) rfl ?_; clear hA a; intro a hA
   refine S.call hA (R.callF Tryd.func20 rfl rfl rfl) rfl (write05 G1 ap23 cp23 ap24 cp24 ap25 cp25 ⟨by omega, by omega⟩ _ (hp23.mem hM) (hp24.mem hM) (hp25.mem hM) (tab_below htab (Mem.trans0 hbs hM.nilL))) ?_; clear hA a
   rintro e w7 ⟨rfl, hb⟩
   replace hM := hM.callB hb; clear hb
   refine ⟨.tuple #[.string ((bs (wtxt G1))), .int .i64 (chk G1)], rfl, fun a hA => ?_⟩
   refine S.val hA (R.move rfl) rfl ?_; clear hA a; intro a hA
   refine S.val hA (R.extract (v := .string ((bs (wtxt G1)))) rfl rfl) rfl ?_; clear hA a; intro a hA
   refine S.val hA (R.extract (v := .int .i64 (chk G1)) rfl rfl) rfl ?_; clear hA a; intro a hA
   refine S.val hA (R.assign rfl) rfl ?_; clear hA a; intro a hA
   refine S.val hA (R.assign rfl) rfl ?_; clear hA a; intro a hA
   refine S.done ?_
   replace hA : St 110 [(3, _), (4, _), (8, _), (9, _)] a := hA.sub ((.cons rfl (.cons rfl (.cons rfl (.cons rfl .nil)))))
   refine Ends.seq (Ends.region ?_)
   refine S.val hA (R.move rfl) rfl ?_; clear hA a; intro a hA
   refine S.call hA (R.callF Tryd.func28 rfl rfl rfl) rfl (parse_eq (bs (wtxt G1)) (by rw [bs_size]; have h9 := wtxt_len hz1; omega) G1 0 0 (prs_wtxt hz1) _ (U8T.below hut (Mem.trans0 hbs hM.nilL))) ?_; clear hA a
   rintro e w8 ⟨ap63, cp63, ap64, cp64, ap65, cp65, rfl, ⟨hp63, hp64, hp65⟩, hb⟩
   replace hM := hM.callB hb; clear hb
   have hbx7 := hM.block (k := 0) rfl
   have hbs := hbs.trans (hM.below.mono hbs.size)
   have hp23 := hp23.mem hM
   have hp24 := hp24.mem hM
   have hp25 := hp25.mem hM
   replace hM := Mem.start w8
   refine ⟨.tuple #[.agg #[.int .i64 G1.kind, .int .i64 G1.n, .int .i64 G1.cap, .slice ap63 G1.wt.length cp63, .slice ap64 G1.vl.length cp64, .slice ap65 G1.cost.length cp65], .int .i64 0, .int .i64 0], rfl, fun a hA => ?_⟩
   refine S.val hA (R.move rfl) rfl ?_; clear hA a; intro a hA
   refine S.val hA (R.extract (v := .agg #[.int .i64 G1.kind, .int .i64 G1.n, .int .i64 G1.cap, .slice ap63 G1.wt.length cp63, .slice ap64 G1.vl.length cp64, .slice ap65 G1.cost.length cp65]) rfl rfl) rfl ?_; clear hA a; intro a hA
   refine S.val hA (R.extract (v := .int .i64 0) rfl rfl) rfl ?_; clear hA a; intro a hA
   refine S.val hA (R.extract (v := .int .i64 0) rfl rfl) rfl ?_; clear hA a; intro a hA
   refine S.alloc hA hM info25 rfl rfl ?_; clear hA hM a; intro b8 w9 hb9 hM a hA
   replace hM : Mem _ _ [pt b8 #[.int .i64 0, .int .i64 0, .int .i64 0, .slice none 0 0, .slice none 0 0, .slice none 0 0] 25] _ := hM
   refine S.storeA (k := 0) hA hM sz25 rfl rfl rfl rfl rfl rfl ?_; clear hM
   intro w10 hM
   replace hM : Mem _ _ [pt b8 #[.int .i64 G1.kind, .int .i64 G1.n, .int .i64 G1.cap, .slice ap63 G1.wt.length cp63, .slice ap64 G1.vl.length cp64, .slice ap65 G1.cost.length cp65] 25] _ := hM
   refine S.val hA (R.assign rfl) rfl ?_; clear hA a; intro a hA
   refine S.val hA (R.assign rfl) rfl ?_; clear hA a; intro a hA
   refine S.done ?_
   replace hA : St 110 [(3, _), (4, _), (8, _), (9, _), (10, _), (12, _)] a := hA.sub ((.cons rfl (.cons rfl (.cons rfl (.cons rfl (.cons rfl (.cons rfl .nil)))))))
   refine Ends.seq (Ends.region ?_)
   refine S.val hA (R.move rfl) rfl ?_; clear hA a; intro a hA
   refine S.call hA (R.callF Tryd.func33 rfl rfl rfl) rfl (scan_eq (bs (wtxt G1)) (by rw [bs_size]; have h9 := wtxt_len hz1; omega) X 0 0 hsX _ (U8T.below hut (Mem.trans0 hbs hM.nilL))) ?_; clear hA a
   rintro e w11 ⟨a10, c11, rfl, hn⟩
   replace hM : Mem _ _ [own 77 4 (.slice a10 X.length c11) X.length (tokv X), pt b8 #[.int .i64 G1.kind, .int .i64 G1.n, .int .i64 G1.cap, .slice ap63 G1.wt.length cp63, .slice ap64 G1.vl.length cp64, .slice ap65 G1.cost.length cp65] 25] _ := hM.call hn; clear hn
   refine ⟨.tuple #[.slice a10 X.length c11, .int .i64 0, .int .i64 0], rfl, fun a hA => ?_⟩
   refine S.val hA (R.move rfl) rfl ?_; clear hA a; intro a hA
   refine S.val hA (R.extract (v := .slice a10 X.length c11) rfl rfl) rfl ?_; clear hA a; intro a hA
   refine S.val hA (R.extract (v := .int .i64 0) rfl rfl) rfl ?_; clear hA a; intro a hA
   refine S.val hA (R.extract (v := .int .i64 0) rfl rfl) rfl ?_; clear hA a; intro a hA
   refine S.val hA (R.assign rfl) rfl ?_; clear hA a; intro a hA
   refine S.val hA (R.assign rfl) rfl ?_; clear hA a; intro a hA
   refine S.val hA (R.assign rfl) rfl ?_; clear hA a; intro a hA
   refine S.done ?_
   replace hA : St 110 [(3, _), (4, _), (9, _), (10, _), (12, _), (13, _), (15, _)] a := hA.sub ((.cons rfl (.cons rfl (.cons rfl (.cons rfl (.cons rfl (.cons rfl (.cons rfl .nil))))))))
   refine Ends.seq (Ends.region ?_)
   refine S.val hA (R.move rfl) rfl ?_; clear hA a; intro a hA
   refine S.val hA (R.tt (R.eql rfl rfl) (hpa)) rfl ?_; clear hA a; intro a hA
   refine S.val hA (R.move rfl) rfl ?_; clear hA a; intro a hA
   refine S.valg (dj := 83) hA (by kernel_rfl) rfl (R.loadA sz25 rfl (hM.oldRange hbx7) rfl) rfl ?_; clear hA a; intro a hA
   refine S.callg (dj := 83) hA (by kernel_rfl) rfl (R.callF Tryd.func18 rfl rfl rfl) rfl (check05 G1 ap23 cp23 ap24 cp24 ap25 cp25 ⟨by omega, by omega⟩ _ (hp23.mem hM) (hp24.mem hM) (hp25.mem hM)) ?_; clear hA a
   rintro e w12 ⟨rfl, hb⟩
   replace hM := hM.callB hb; clear hb
   refine ⟨.int .i64 (chk G1), rfl, fun a hA => ?_⟩
   refine S.valg (dj := 83) hA (by kernel_rfl) rfl (R.tt (R.eql rfl rfl) (hz1)) rfl ?_; clear hA a; intro a hA
   refine S.val hA (R.pickT rfl rfl) rfl ?_; clear hA a; intro a hA
   refine S.val hA (R.move rfl) rfl ?_; clear hA a; intro a hA
   refine S.valg (dj := 88) hA (by kernel_rfl) rfl (R.move rfl) rfl ?_; clear hA a; intro a hA
   refine S.valg (dj := 88) hA (by kernel_rfl) rfl (R.tt (R.eql rfl rfl) (hz1)) rfl ?_; clear hA a; intro a hA
   refine S.val hA (R.pickT rfl rfl) rfl ?_; clear hA a; intro a hA
   refine S.val hA (R.move rfl) rfl ?_; clear hA a; intro a hA
   refine S.valg (dj := 92) hA (by kernel_rfl) rfl (R.move rfl) rfl ?_; clear hA a; intro a hA
   refine S.valg (dj := 92) hA (by kernel_rfl) rfl (R.tt (R.eql rfl rfl) (by first | decide | simp | omega)) rfl ?_; clear hA a; intro a hA
   refine S.val hA (R.pickT rfl rfl) rfl ?_; clear hA a; intro a hA
   refine S.val hA (R.move rfl) rfl ?_; clear hA a; intro a hA
   refine S.valg (dj := 96) hA (by kernel_rfl) rfl (R.move rfl) rfl ?_; clear hA a; intro a hA
   refine S.valg (dj := 96) hA (by kernel_rfl) rfl (R.tt (R.eql rfl rfl) (by first | decide | simp | omega)) rfl ?_; clear hA a; intro a hA
   refine S.val hA (R.pickT rfl rfl) rfl ?_; clear hA a; intro a hA
   refine S.val hA (R.move rfl) rfl ?_; clear hA a; intro a hA
   refine S.valg (dj := 100) hA (by kernel_rfl) rfl (R.loadA sz25 rfl (hM.oldRange hbx7) rfl) rfl ?_; clear hA a; intro a hA
   refine S.valg (dj := 100) hA (by kernel_rfl) rfl (R.loadA sz25 rfl (hM.range (k := 1) rfl) rfl) rfl ?_; clear hA a; intro a hA
   refine S.callg (dj := 100) hA (by kernel_rfl) rfl (R.callF Tryd.func26 rfl rfl rfl) rfl (iSame_eqK G1 ap23 cp23 ap24 cp24 ap25 cp25 ap63 cp63 ap64 cp64 ap65 cp65 _ (hp23.mem hM) (hp24.mem hM) (hp25.mem hM) (hp63.mem hM) (hp64.mem hM) (hp65.mem hM)) ?_; clear hA a
   rintro e w13 ⟨rfl, hb⟩
   replace hM := hM.callB hb; clear hb
   refine ⟨.bool true, rfl, fun a hA => ?_⟩
   refine S.val hA (R.pickT rfl rfl) rfl ?_; clear hA a; intro a hA
   refine S.val hA (R.move rfl) rfl ?_; clear hA a; intro a hA
   refine S.valg (dj := 105) hA (by kernel_rfl) rfl (R.move rfl) rfl ?_; clear hA a; intro a hA
   refine S.valg (dj := 105) hA (by kernel_rfl) rfl (R.lenS Tryd.underlying48 rfl rfl) rfl ?_; clear hA a; intro a hA
   refine S.valg (dj := 105) hA (by kernel_rfl) rfl (R.tt (R.geq rfl rfl) (by omega)) rfl ?_; clear hA a; intro a hA
   refine S.val hA (R.pickT rfl rfl) rfl ?_; clear hA a; intro a hA
   refine S.val hA (R.assign rfl) rfl ?_; clear hA a; intro a hA
   refine S.done ?_
   replace hA : St 110 [(2, _)] a := hA.sub ((.cons rfl .nil))
   refine Ends.ret1 Tryd.func13 Tryd.results13 hA rfl ?_
   exact ⟨rfl, Mem.trans0 hbs hM.nilL⟩
theorem kurganTexts_any (s : ByteArray) (hs : s.size ≤ maxLen) (w : World) (htab : Lib.TabIs Tryd.prog w "internal/strconv.uint64pow10" .u64 Lib.pow10Tab) (hut : U8T w) : Calls Tryd.prog 13 #[.string s] w fun e w' => e = .returned (.bool true) ∧ Below w.heap.size w w' := kurganTexts_w s hs w htab hut
end Go.Proofs.YtakfcekfmdjklaaDoor
